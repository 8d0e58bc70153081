/- The number of an error, in K. trammellaw00.Is and Told, in K. strings.IndexByte and scan.run, in the world; then in K. Lists laid side by side. No program is in sight. Texts as lists of bytes, in K. Keys, letters, numbers, names: scan's and the document's, in K. -/
import Derived.Test.YtkjnkkmokojnpaaGreatDoorZ5
import Derived.Test.YtkjnkkmokojnpaaGreatDoorZ0
import Derived.Lib.Bytealg
import Derived.Laws.StandIn
import Derived.Laws.RangeAny
import Derived.Laws.Runes
import Derived.LoopTactic
import Derived.Laws.Cover1
namespace Go.Proofs.YtkjnkkmokojnpaaGreatDoor
set_option linter.unusedSimpArgs false
set_option linter.unusedVariables false
open Go.RowKit
def eM (e : Nat) : AV := if e = 0 then .c .nilIface else .ifc 41 (.c (.int .i64 (e : Int)))
theorem mK : eM 0 = .c .nilIface := rfl
theorem dq {e : Nat} (h : e ≠ 0) : eM e = .ifc 41 (.c (.int .i64 (e : Int))) := if_neg h
@[go_sem] theorem Ev (g : List (Nat × Nat)) (k e : Nat) : ren g (k + 2) (eM e) = eM e := by
 unfold eM; split <;> rfl
@[go_sem] theorem Cz (b k e : Nat) : eH b (k + 2) (eM e) = false := by
 unfold eM; split <;> rfl
@[go_sem] theorem Ej (e : Nat) : (eM e).one = true := by
 unfold eM; split <;> rfl
@[go_sem] theorem CT (e : Nat) : eI (eM e) = [eM e] := by
 unfold eM; split <;> rfl
@[go_sem] theorem D0 (ex : List Nat) (σ : bJ) (k e : Nat) : iY ex σ (k + 2) (eM e) = eM e := by
 unfold eM; split <;> rfl
@[go_sem] theorem Dj (tk : Bool) (k e : Nat) : jd tk (k + 2) (eM e) = [] := by
 unfold eM; split <;> rfl
theorem uX : (Tryz.prog.info? 41).map (fun i => i.comparable) = some true := by kernel_rfl
set_option maxRecDepth 100000 in
theorem tX (a b : Int) : ∀ w,(((pure () : Sem Unit) >>= fun _ => binOp .eql 28 (.iface 41 (.int .i64 a)) (.iface 41 (.int .i64 b))) : Sem Value).run Tryz.prog w = .ok (.bool (a == b)) w := fun w => by
 have := Go.Lib.run_eql_iface_int w (k := .i64) a b Tryz.underlying28 uX Tryz.underlying41
 rw [Sem.run_bind]
 exact this
set_option maxRecDepth 100000 in
theorem sw : ∀ w,(((pure () : Sem Unit) >>= fun _ => binOp .eql 28 .nilIface .nilIface) : Sem Value).run Tryz.prog w = .ok (.bool true) w := fun w => by
 have ht := Tryz.underlying28
 have h : ∀ d : Nat,(Op.equalIn (d + 2) 28 .nilIface .nilIface).run Tryz.prog w = .ok true w := fun d => by
  simp [Op.equalIn,run_underlying ht]
 have h2 : (binOp .eql 28 .nilIface .nilIface).run Tryz.prog w = .ok (.bool true) w := by
  simp only [binOp]
  simp [Op.equal,Op.maxDepth,h 9998]
 rw [Sem.run_bind]
 exact h2
set_option maxRecDepth 100000 in
theorem sW : ∀ w,(((pure () : Sem Unit) >>= fun _ => binOp .neq 28 .nilIface .nilIface) : Sem Value).run Tryz.prog w = .ok (.bool false) w := fun w => by
 have ht := Tryz.underlying28
 have h : ∀ d : Nat,(Op.equalIn (d + 2) 28 .nilIface .nilIface).run Tryz.prog w = .ok true w := fun d => by
  simp [Op.equalIn,run_underlying ht]
 have h2 : (binOp .neq 28 .nilIface .nilIface).run Tryz.prog w = .ok (.bool false) w := by
  simp only [binOp]
  simp [Op.equal,Op.maxDepth,h 9998]
 rw [Sem.run_bind]
 exact h2
def cO : Nat → List Nat
 | 0 => [0]
 | 1 => [0]
 | 2 => []
 | 3 => [0]
 | 4 => [0,3]
 | 5 => [0,3]
 | 6 => [0,3]
 | 7 => [3]
 | 8 => []
 | _ => []
set_option maxRecDepth 100000 in
set_option maxHeartbeats 4000000 in
theorem CU (e : Nat) (he : e ≤ 16) : AFn Tryz.prog 18 [eM e] [] (.c (.int .i64 (e : Int))) [] := by
 by_cases h0 : e = 0
 ·subst h0
  rw [mK]
  refine aM [] Tryz.func18 rfl Tryz.ntmps18 (Nat.le_of_ble_eq_true rfl) (Nat.le_of_ble_eq_true rfl) fun w0 G0 B0 Pr hB0 => ?_
  simp only [aW,aL,List.cons_append,List.nil_append]
  repeat' (first | (with_reducible refine hY _ ?_; clear hY Y) | ((with_reducible first | refine au rfl (ay fun K' hK' => aa ?_) | refine hK' _ (ab fun Y hY => aa ?_) | refine ab fun Y hY => aa ?_ | refine ac tk0 cO (ab fun Y hY => aa ?_) | refine aa ?_ | refine ax ?_); (try clear hK' K'); (try dsimp only [aop]); try simp only [go_sem,↓reduceIte,Nat.reduceEqDiff,Nat.reduceLT,Nat.reduceLeDiff,Nat.reduceAdd,Nat.reduceSub,Nat.reduceMul,Nat.reduceBEq,Nat.reduceBNe,Nat.reducePow,Int.reduceToNat,Int.reduceLE,Int.reduceLT,Int.reduceMul,Int.reduceEq,Int.reducePow,Int.reduceAdd,Int.reduceSub,Int.reduceNeg,reduceCtorEq,cO,Tryz.results18]) | (with_reducible first | refine ag ?_ | refine am ?_ | refine aq ?_ | refine aG fun K hK => ?_ | refine az ?_ | refine bh ?_ | refine aB ?_) | (with_reducible refine hK _ ?_; clear hK K) | ((with_reducible refine ai ?_ ?_); (· decide)) | (with_reducible refine bv (sw) ?_))
  rfl
 rw [dq h0]
 refine aM [] Tryz.func18 rfl Tryz.ntmps18 (Nat.le_of_ble_eq_true rfl) (Nat.le_of_ble_eq_true rfl) fun w0 G0 B0 Pr hB0 => ?_
 simp only [aW,aL,List.cons_append,List.nil_append]
 repeat' (first | (with_reducible refine hY _ ?_; clear hY Y) | ((with_reducible first | refine au rfl (ay fun K' hK' => aa ?_) | refine hK' _ (ab fun Y hY => aa ?_) | refine ab fun Y hY => aa ?_ | refine ac tk0 cO (ab fun Y hY => aa ?_)); (try clear hK' K'); (try dsimp only [aop]); try simp only [go_sem,↓reduceIte,Nat.reduceEqDiff,Nat.reduceLT,Nat.reduceLeDiff,Nat.reduceAdd,Nat.reduceSub,Nat.reduceMul,Nat.reduceBEq,Nat.reduceBNe,Nat.reducePow,Int.reduceToNat,Int.reduceLE,Int.reduceLT,Int.reduceMul,Int.reduceEq,Int.reducePow,Int.reduceAdd,Int.reduceSub,Int.reduceNeg,reduceCtorEq,cO,Tryz.results18]) | (with_reducible first | refine ag ?_ | refine am ?_ | refine aq ?_ | refine aG fun K hK => ?_ | refine aA ?_ | refine av ?_ | refine aH ?_ | refine bR ?_) | (with_reducible refine hK _ ?_; clear hK K) | ((with_reducible refine ai ?_ ?_); (· decide)))
 refine bX (α := Nat) (fun k => [(0,.ifc 41 (.c (.int .i64 (e : Int)))),(3,.c (.int .i64 (k : Int)))]) (fun k => 1 ≤ k ∧ k ≤ e) (fun k => 17 - k) 1 [0,3] ?_ ⟨Nat.le_refl _,by omega⟩ ?_
 ·simp only [go_sem,↓reduceIte,Nat.reduceEqDiff,Nat.reduceLT,Nat.reduceLeDiff,Nat.reduceAdd,Nat.reduceSub,Nat.reduceMul,Nat.reduceBEq,Nat.reduceBNe,Nat.reducePow,Int.reduceToNat,Int.reduceLE,Int.reduceLT,Int.reduceMul,Int.reduceEq,Int.reducePow,Int.reduceAdd,Int.reduceSub,Int.reduceNeg,reduceCtorEq] <;> rfl
 rintro k ⟨hk1,hk2⟩ ih
 have hk : (k : Int) ≤ 16 := by omega
 have hkw : IntKind.i64.wrap ((k : Int) + 1) = ((k + 1 : Nat) : Int) := by rw [cF (by omega) (by omega)]; rfl
 by_cases hke : k = e
 ·subst hke
  have hb : ((k : Int) == (k : Int)) = true := by simp
  repeat' (first | (with_reducible refine hY _ ?_; clear hY Y) | ((with_reducible first | refine au rfl (ay fun K' hK' => aa ?_) | refine hK' _ (ab fun Y hY => aa ?_) | refine ab fun Y hY => aa ?_ | refine ac tk0 cO (ab fun Y hY => aa ?_) | refine aa ?_ | refine ax ?_); (try clear hK' K'); (try dsimp only [aop]); try simp only [go_sem,↓reduceIte,Nat.reduceEqDiff,Nat.reduceLT,Nat.reduceLeDiff,Nat.reduceAdd,Nat.reduceSub,Nat.reduceMul,Nat.reduceBEq,Nat.reduceBNe,Nat.reducePow,Int.reduceToNat,Int.reduceLE,Int.reduceLT,Int.reduceMul,Int.reduceEq,Int.reducePow,Int.reduceAdd,Int.reduceSub,Int.reduceNeg,reduceCtorEq,cO,Tryz.results18,hk,hkw,hb]) | (with_reducible first | refine ag ?_ | refine am ?_ | refine aq ?_ | refine aG fun K hK => ?_ | refine az ?_ | refine bh ?_ | refine bp ?_ | refine av ?_ | refine aH ?_ | refine aB ?_) | (with_reducible refine hK _ ?_; clear hK K) | ((with_reducible refine ai ?_ ?_); (· decide)) | (with_reducible refine bv (tX _ _) ?_))
 ·have hb : ((e : Int) == (k : Int)) = false := by simp; omega
  repeat' (first | (with_reducible refine hY _ ?_; clear hY Y) | ((with_reducible first | refine au rfl (ay fun K' hK' => aa ?_) | refine hK' _ (ab fun Y hY => aa ?_) | refine ab fun Y hY => aa ?_ | refine ac tk0 cO (ab fun Y hY => aa ?_) | refine aa ?_); (try clear hK' K'); (try dsimp only [aop]); try simp only [go_sem,↓reduceIte,Nat.reduceEqDiff,Nat.reduceLT,Nat.reduceLeDiff,Nat.reduceAdd,Nat.reduceSub,Nat.reduceMul,Nat.reduceBEq,Nat.reduceBNe,Nat.reducePow,Int.reduceToNat,Int.reduceLE,Int.reduceLT,Int.reduceMul,Int.reduceEq,Int.reducePow,Int.reduceAdd,Int.reduceSub,Int.reduceNeg,reduceCtorEq,cO,Tryz.results18,hk,hkw,hb]) | (with_reducible first | refine ag ?_ | refine am ?_ | refine aq ?_ | refine aG fun K hK => ?_ | refine az ?_ | refine aA ?_ | refine ba ?_ | refine av ?_ | refine aH ?_) | (with_reducible refine hK _ ?_; clear hK K) | ((with_reducible refine ai ?_ ?_); (· decide)) | (with_reducible refine bv (tX _ _) ?_))
  refine bg [0,3] (by simp only [go_sem,↓reduceIte,Nat.reduceEqDiff,Nat.reduceLT,Nat.reduceLeDiff,Nat.reduceAdd,Nat.reduceSub,Nat.reduceMul,Nat.reduceBEq,Nat.reduceBNe,Nat.reducePow,Int.reduceToNat,Int.reduceLE,Int.reduceLT,Int.reduceMul,Int.reduceEq,Int.reducePow,Int.reduceAdd,Int.reduceSub,Int.reduceNeg,reduceCtorEq]; exact rfl) ?_
  exact ih (k + 1) ⟨by omega,by omega⟩ (by omega)
end Go.Proofs.YtkjnkkmokojnpaaGreatDoor
namespace Go.Proofs.YtkjnkkmokojnpaaGreatDoor
set_option linter.unusedSimpArgs false
set_option linter.unusedVariables false
open Go.RowKit
theorem ri {P : Program} {f : FuncId} {args : List AV} {x : Value}
  (h : ∀ (w : World) (G : Gh) (vs : Array Value),(∀ b o v,G.Z b o = some v → w.cell? ⟨b,o,none⟩ = some v ∧ v.oneCell' = true) → Gl G.Z → vs.size = args.length → (∀ j (h : j < args.length),VRel G (cm []) (vs.getD j undef) args[j]) →
   Calls P f vs w fun e w' => e = .returned x ∧ Below w.heap.size w w') : AFn P f args [] (.c x) [] := fun w G vs hst hvs hargs => by
 have hu : ∀ k,cm [] k = .u := fun k => by unfold cm; split <;> simp
 have hγ : ∀ k,G.γ k = none := fun k => by
  cases hg : G.γ k with
  | none => rfl
  | some g =>
   obtain ⟨_,_,hb⟩ := hst.box k g hg
   rcases hb with ⟨_,_,h1,_⟩ | ⟨_,_,h1,_⟩ <;> rw [hu] at h1 <;> cases h1
 refine (h w G vs hst.agree hst.gl hvs hargs).mono fun e w' ⟨he,hb⟩ => ⟨x,G,he,.p (.c x),⟨fun b o v hz => ?_,fun k g hk => ?_,fun k cs ty _ hc => ?_,fun k k' g hk => ?_,hst.gl⟩,⟨hb.os,hb.tape,hb.output,hb.size,fun b hp _ => hb.block b hp.1⟩,.refl _ _,fun _ _ _ _ => rfl⟩
 ·have := hst.agree b o v hz
  exact ⟨(hb.cell (p := ⟨b,o,none⟩) (World.block_lt_of_cell? w ⟨b,o,none⟩ this.1)).trans this.1,this.2⟩
 ·rw [hγ] at hk; cases hk
 ·rw [hu] at hc; cases hc
 ·rw [hγ] at hk; cases hk
theorem sC {G : Gh} {w : World} (hag : ∀ b o v,G.Z b o = some v → w.cell? ⟨b,o,none⟩ = some v ∧ v.oneCell' = true) (hgl : Gl G.Z) : w.cell? ⟨0,0,none⟩ = some (rty 28) := by
 have h := hgl 0 _ rfl
 obtain ⟨b,off,f,e,hz,hp⟩ := iZ (VRel.p (G := G) (B := cm []) h)
 have h1 := hz 0 (by simp)
 have h2 := hp 0 (by simp)
 have h3 := (hag _ _ _ h1).1
 obtain ⟨v',e2,h4⟩ := fj (VRel.p (G := G) (B := cm []) h2)
 obtain ⟨vs,e3,hs,_,hp4⟩ := gS h4
 have h5 := dL (hp4 0 (by simp))
 have e4 : vs = #[hnd 28] := by
  cases vs with
  | mk l =>
   match l,hs with
   | [v0],_ => simp at h5; subst h5; rfl
 subst e4
 subst e3
 rw [e2] at h3
 simp only [Value.pointer.injEq,Option.some.injEq,Addr.mk.injEq] at e
 obtain ⟨q1,q2,_⟩ := e
 rw [← q1,Nat.add_zero,show off = 0 by omega] at h3
 exact h3
def kJ (at0 : Int) (e : Nat) : AV := .ifc 63 (.rf [.c (.int .i64 at0),eM e] 0)
theorem rG (a0 at0 : Int) (e c : Nat) (he : e ≠ 0) : AFn Tryz.prog 22 [kJ a0 e,.c (.int .i64 at0),.c (.int .i64 c)] [] (.c (.bool (((e : Int) == (c : Int)) && (a0 == at0)))) [] :=
 ri fun w G vs hag hgl hs hargs => by
  have h0 := hargs 0 (by simp)
  have h1 := dL (hargs 1 (by simp))
  have h2 := dL (hargs 2 (by simp))
  obtain ⟨v',e0,h3⟩ := fj h0
  obtain ⟨b,off,f,e1,hz,hp⟩ := iZ h3
  subst e1
  have hc0 := (hag _ _ _ (hz 0 (by simp))).1
  have hc1 := (hag _ _ _ (hz 1 (by simp))).1
  have p0 := dL (VRel.p (G := G) (B := cm []) (hp 0 (by simp)))
  have p1 := hp 1 (by simp)
  simp only [List.getElem_cons_succ,List.getElem_cons_zero,dq he] at p0 p1
  obtain ⟨v2,e2,h4⟩ := fj (VRel.p (G := G) (B := cm []) p1)
  have h5 := dL h4
  subst h5
  rw [p0] at hc0
  rw [e2] at hc1
  obtain rfl : vs = #[.iface 63 (.pointer (some ⟨b,off + 0,none⟩)),.int .i64 at0,.int .i64 c] := by
   cases vs with
   | mk l =>
    match l,hs with
    | [x,y,z],_ =>
     simp at e0 h1 h2
     subst e0 h1 h2
     rfl
  exact vd b (off + 0) a0 e at0 c w hc0 hc1 (sC hag hgl)
theorem D8 {vs : Array Value} {x y z : Value} (hs : vs.size = 3) (h0 : vs.getD 0 undef = x) (h1 : vs.getD 1 undef = y) (h2 : vs.getD 2 undef = z) : vs = #[x,y,z] := by
 cases vs with
 | mk l =>
  match l,hs with
  | [a,b,c],_ => simp at h0 h1 h2; subst h0 h1 h2; rfl
def jl (e : Nat) (at0 : Int) : AV := if at0 < 0 ∨ e = 0 then eM e else kJ at0 e
def dY : Nat → List Nat
 | 0 => [0,1,2]
 | 1 => [0,1,2]
 | 2 => [0,1]
 | 3 => [0,1,2]
 | _ => []
set_option maxRecDepth 100000 in
set_option maxHeartbeats 4000000 in
theorem DJ (e : Nat) (at0 : Int) (he : e ≤ 16) (h : e = 0 → at0 < 0) : AFn Tryz.prog 12 [jl e at0,.c (.int .i64 (e : Int)),.c (.int .i64 at0)] [] (.c (.bool true)) [] := by
 by_cases h0 : at0 < 0
 ·have hc := CU e he
  rw [show jl e at0 = eM e from if_pos (.inl h0)]
  refine aM [] Tryz.func12 rfl Tryz.ntmps12 (Nat.le_of_ble_eq_true rfl) (Nat.le_of_ble_eq_true rfl) fun w0 G0 B0 Pr hB0 => ?_
  simp only [aW,aL,List.cons_append,List.nil_append]
  repeat' (first | (with_reducible refine hY _ ?_; clear hY Y) | ((with_reducible first | refine au rfl (ay fun K' hK' => aa ?_) | refine hK' _ (ab fun Y hY => aa ?_) | refine ab fun Y hY => aa ?_ | refine ac tk0 dY (ab fun Y hY => aa ?_) | refine aa ?_ | refine ax ?_); (try clear hK' K'); (try dsimp only [aop]); try simp only [go_sem,seval,dY,Tryz.results12,h0]) | (with_reducible first | refine ag ?_ | refine am ?_ | refine aq ?_ | refine aG fun K hK => ?_ | refine az ?_ | refine bh ?_ | refine aB ?_) | (with_reducible refine hK _ ?_; clear hK K) | ((with_reducible refine ai ?_ ?_); (· decide)) | (with_reducible refine ae (hc) ?_))
 ·have he0 : e ≠ 0 := fun e0 => h0 (h e0)
  have hi := rG at0 at0 e e he0
  rw [show (((e : Int) == (e : Int)) && (at0 == at0)) = true by simp] at hi
  rw [show jl e at0 = kJ at0 e from if_neg (by rintro (h1 | h1) <;> contradiction)]
  unfold kJ at hi ⊢
  refine aM [] Tryz.func12 rfl Tryz.ntmps12 (Nat.le_of_ble_eq_true rfl) (Nat.le_of_ble_eq_true rfl) fun w0 G0 B0 Pr hB0 => ?_
  simp only [aW,aL,List.cons_append,List.nil_append]
  repeat' (first | (with_reducible refine hY _ ?_; clear hY Y) | ((with_reducible first | refine au rfl (ay fun K' hK' => aa ?_) | refine hK' _ (ab fun Y hY => aa ?_) | refine ab fun Y hY => aa ?_ | refine ac tk0 dY (ab fun Y hY => aa ?_) | refine aa ?_ | refine ax ?_); (try clear hK' K'); (try dsimp only [aop]); try simp only [go_sem,seval,dY,Tryz.results12,h0]) | (with_reducible first | refine ag ?_ | refine am ?_ | refine aq ?_ | refine aG fun K hK => ?_ | refine aA ?_ | refine aH ?_ | refine aB ?_) | (with_reducible refine hK _ ?_; clear hK K) | ((with_reducible refine ai ?_ ?_); (· decide)) | (with_reducible refine ae (hi) ?_))
end Go.Proofs.YtkjnkkmokojnpaaGreatDoor
namespace Go.Proofs.YtkjnkkmokojnpaaGreatDoor
set_option linter.unusedSimpArgs false
set_option linter.unusedVariables false
open Go.RowKit Go.Extern
theorem vp (s : ByteArray) (c : Int) (w : World) :
  Calls Tryz.prog 180 #[.string s,.int .u8 c] w fun e w' => e = .returned (.int .i64 (firstIdx s c.toNat.toUInt8)) ∧ w' = w := by
 have hx := @run_callFunc_indexByte Tryz.prog 243 _ Tryz.func243 (by kernel_rfl) (by kernel_rfl) (by kernel_rfl) (by kernel_rfl)
 have hi : Calls Tryz.prog 213 #[.string s,.int .u8 c] w fun e w' => e = .returned (.int .i64 (firstIdx s c.toNat.toUInt8)) ∧ w' = w := by
  have he := run_indexByte_string (P := Tryz.prog) s c w
  go_enter Tryz.func213,Tryz.ntmps213
  go_wp2
  go_ret
  exact ⟨rfl,rfl⟩
 go_enter Tryz.func180,Tryz.ntmps180
 go_wp2_with (first | (go_at_call 213; refine hi.mono ?_; rintro e W ⟨rfl,rfl⟩) | fail)
 go_ret
 exact ⟨rfl,rfl⟩
def ij (some l : List UInt8) : Nat := (l.takeWhile fun c => some.contains c).length
theorem pA {some l : List UInt8} {p : Nat} (hp : p < l.length) (h : ∀ j (hj : j < l.length),j < p → some.contains l[j] = true) (hn : some.contains l[p] = false) : ij some l = p := by
 unfold ij
 induction l generalizing p with
 | nil => simp at hp
 | cons x l ih =>
  cases p with
  | zero => simp at hn; simp [List.takeWhile_cons,hn]
  | succ p =>
   have h0 := h 0 (by simp) (by omega)
   simp only [List.getElem_cons_zero] at h0
   rw [List.takeWhile_cons,if_pos h0,List.length_cons,ih (Nat.lt_of_succ_lt_succ hp) (fun j hj hjp => h (j + 1) (Nat.succ_lt_succ hj) (Nat.succ_lt_succ hjp)) hn]
theorem wQ {some l : List UInt8} (h : ∀ j (hj : j < l.length),some.contains l[j] = true) : ij some l = l.length := by
 unfold ij
 induction l with
 | nil => rfl
 | cons x l ih =>
  have h0 := h 0 (by simp)
  simp only [List.getElem_cons_zero] at h0
  rw [List.takeWhile_cons,if_pos h0,List.length_cons,ih fun j hj => h (j + 1) (Nat.succ_lt_succ hj)]
  rfl
theorem mh (w : World) (s : ByteArray) (pos : Nat) : Below w.heap.size w (w.iter s pos) := (Below.refl _ w).alloc (Nat.le_refl _) _
set_option maxRecDepth 100000 in
set_option maxHeartbeats 4000000 in
theorem Bs (s some : ByteArray) (hs : ∀ c ∈ some.data.toList,c.toNat < 128) (a : Nat) (ha : a ≤ s.size) (hl : s.size ≤ 4611686018427387904) (w : World) :
  Calls Tryz.prog 106 #[.string s,.int .i64 a,.string some] w fun e w' => e = .returned (.int .i64 (ij some.data.toList (s.extract a s.size).data.toList)) ∧ Below w.heap.size w w' := by
 generalize ht : s.extract a s.size = t
 have hts : t.size = s.size - a := by rw [← ht,ByteArray.size_extract]; omega
 have hget : ∀ j (hj : j < t.size),t.data.toList[j]'(by simpa using hj) = t[j] := fun j hj => rfl
 go_enter Tryz.func106,Tryz.ntmps106
 go_wp2
 go_loopw [7] (fun _ w' => ∃ pos : Nat,w' = w.iter t pos ∧ pos ≤ t.size ∧ ∀ j (hj : j < t.size),j < pos → some.data.toList.contains t[j] = true) (fun _ w' => t.size - w'.iterPos w.heap.size)
 case atStart => exact ⟨0,rfl,Nat.zero_le _,fun j _ h => absurd h (by omega)⟩
 case round =>
  obtain ⟨pos,rfl,hpos,hall⟩ := hrel
  by_cases hp : pos < t.size
  ·have hnx : ∀ ty,(Instr.next (.pointer (Option.some ⟨w.heap.size,0,none⟩)) true ty).run Tryz.prog (w.iter t pos) = _ := fun ty => run_next_any w t pos ty hp
   by_cases hb : (t[pos]).toNat < 128
   ·rw [decode_ascii t pos hp hb] at hnx
    have hidx := vp some ((t[pos]).toNat : Int) (w.iter t (pos + 1))
    simp only [Int.toNat_natCast,UInt8.ofNat_toNat] at hidx
    have hnn := firstIdx_nonneg some t[pos]
    have h127 : ¬ (127 : Int) < ((t[pos]).toNat : Int) := by omega
    have hcv : IntKind.u8.wrap ((t[pos]).toNat : Int) = ((t[pos]).toNat : Int) := by
     have := (t[pos]).toNat_lt
     rw [IntKind.wrap_u8]; omega
    by_cases hm : some.data.toList.contains t[pos] = true
    ·have h0 : ¬ firstIdx some t[pos] < 0 := by
      have e : (some.data.toList.any fun x => x == t[pos]) = true := by rw [List.any_eq_true]; exact ⟨_,List.contains_iff_mem.1 hm,by simp⟩
      rw [e] at hnn
      have := of_decide_eq_true hnn
      omega
     clear hnn
     go_wp2_with (first | (go_at_call 180; refine hidx.mono ?_; rintro e W ⟨rfl,rfl⟩) | fail)
     go_roundw
     case rel =>
      refine ⟨pos + 1,rfl,by omega,fun j hj hjp => ?_⟩
      by_cases hjq : j = pos
      ·subst hjq; exact hm
      ·exact hall j hj (by omega)
     case measure =>
      simp
      omega
    ·have h0 : firstIdx some t[pos] < 0 := by
      have e : (some.data.toList.any fun x => x == t[pos]) = false := by
       rw [List.any_eq_false]; intro x hx hxe; rw [beq_iff_eq] at hxe; subst hxe; exact hm (List.contains_iff_mem.2 hx)
      rw [e] at hnn
      have := of_decide_eq_false hnn
      omega
     clear hnn
     go_wp2_with (first | (go_at_call 180; refine hidx.mono ?_; rintro e W ⟨rfl,rfl⟩) | fail)
     go_ret
     have e := pA (some := some.data.toList) (l := t.data.toList) (p := pos) (by simpa using hp) (fun j hj hjp => hall j (by simpa using hj) hjp) (Bool.eq_false_iff.2 hm)
     rw [e]
     exact ⟨rfl,mh _ _ _⟩
   ·have hdh := (decode_high t pos hp (by omega)).1
    have h127 : (127 : Int) < ((Utf8.decode t pos).1 : Int) := by omega
    go_wp2
    go_ret
    have hm : some.data.toList.contains t[pos] = false := by
     cases h : some.data.toList.contains t[pos] with
     | false => rfl
     | true => exact absurd (hs _ (List.contains_iff_mem.1 h)) hb
    have e := pA (some := some.data.toList) (l := t.data.toList) (p := pos) (by simpa using hp) (fun j hj hjp => hall j (by simpa using hj) hjp) hm
    rw [e]
    exact ⟨rfl,mh _ _ _⟩
  ·have hnx : ∀ ty,(Instr.next (.pointer (Option.some ⟨w.heap.size,0,none⟩)) true ty).run Tryz.prog (w.iter t pos) = _ := fun ty => run_next_end w t pos ty hp
   go_wp2
   go_ret
   have hpt : pos = t.size := by omega
   have e := wQ (some := some.data.toList) (l := t.data.toList) fun j hj => hall j (by simpa using hj) (by rw [hpt]; simpa using hj)
   rw [e]
   have e2 : (s.size : Int) - (a : Int) = (t.data.toList.length : Int) := by
    have : t.data.toList.length = t.size := by simp
    rw [this]; omega
   exact ⟨by rw [← e2]; rfl,mh _ _ _⟩
abbrev bs (l : List UInt8) : AV := .c (.string ⟨l.toArray⟩)
theorem CK (l some : List UInt8) (hs : ∀ c ∈ some,c.toNat < 128) (a : Nat) (ha : a ≤ l.length) (hl : l.length ≤ 4611686018427387904) :
  AFn Tryz.prog 106 [bs l,.c (.int .i64 a),bs some] [] (.c (.int .i64 (ij some (l.drop a)))) [] :=
 ri fun w G vs hag hgl hs' hargs => by
  have h0 := dL (hargs 0 (by simp))
  have h1 := dL (hargs 1 (by simp))
  have h2 := dL (hargs 2 (by simp))
  obtain rfl := D8 hs' h0 h1 h2
  have h := Bs ⟨l.toArray⟩ ⟨some.toArray⟩ hs a ha hl w
  rw [show (ByteArray.mk l.toArray).size = l.length from rfl,ByteArray.extract_mk] at h
  have e : (ByteArray.mk ((l.drop a).take (l.length - a)).toArray).data.toList = l.drop a := by
   show (l.drop a).take (l.length - a) = l.drop a
   rw [List.take_of_length_le (by simp)]
  rw [e] at h
  exact h
end Go.Proofs.YtkjnkkmokojnpaaGreatDoor
namespace Go.Proofs.YtkjnkkmokojnpaaGreatDoor
set_option linter.unusedSimpArgs false
set_option linter.unusedVariables false
open Go.RowKit
theorem od {α : Type} {f : α → List AV} {k : Nat} (hf : ∀ x,(f x).length = k) : ∀ l : List α,(l.flatMap f).length = l.length * k
 | [] => by simp
 | x :: l => by rw [List.flatMap_cons,List.length_append,hf,od hf l,List.length_cons,Nat.succ_mul]; omega
theorem oB {α : Type} {f : α → List AV} {k : Nat} (hf : ∀ x,(f x).length = k) : ∀ {l : List α} {i : Nat} (h : i < l.length),((l.flatMap f).drop (i * k)).take k = f l[i]
 | x :: l,0,_ => by
  rw [Nat.zero_mul,List.drop_zero,List.flatMap_cons,List.take_append_of_le_length (by rw [hf]; exact Nat.le_refl _),List.take_of_length_le (by rw [hf]; exact Nat.le_refl _)]; rfl
 | x :: l,i + 1,h => by
  have := oB hf (l := l) (i := i) (by simpa using h)
  rw [List.flatMap_cons,List.drop_append]
  have e : (i + 1) * k - (f x).length = i * k := by rw [hf,Nat.succ_mul]; omega
  rw [e,List.drop_of_length_le (by rw [hf,Nat.succ_mul]; omega),List.nil_append,this]; rfl
theorem pV {α : Type} {f : α → List AV} {k : Nat} (hf : ∀ x,(f x).length = k) {l : List α} {i : Nat} (h : i < l.length) (j : Nat) (hj : j < k) : (l.flatMap f).getD (i * k + j) .u = (f l[i]).getD j .u := by
 have e := congrArg (fun x => x.getD j .u) (oB hf h)
 simp only [List.getD_eq_getElem?_getD] at e ⊢
 rw [← e,List.getElem?_take,if_pos hj,List.getElem?_drop]
theorem i8 {α : Type} {f : α → AV} {l : List α} {i : Nat} (h : i < l.length) : (l.map f).getD i .u = f l[i] := by
 rw [List.getD_eq_getElem?_getD,List.getElem?_map,List.getElem?_eq_getElem h]; rfl
theorem C4 {α : Type} {f : α → List AV} {k : Nat} (hf : ∀ x,(f x).length = k) {l : List α} {i : Nat} (h : i < l.length) (j n : Nat) (hj : j + n ≤ k) : ((l.flatMap f).drop (i * k + j)).take n = ((f l[i]).drop j).take n := by
 rw [← oB hf h,List.drop_take,List.take_take,List.drop_drop,Nat.min_eq_left (by omega)]
end Go.Proofs.YtkjnkkmokojnpaaGreatDoor
namespace Go.Proofs.YtkjnkkmokojnpaaGreatDoor
set_option linter.unusedSimpArgs false
set_option linter.unusedVariables false
open Go.RowKit
attribute [go_sem] bs List.size_toArray
@[go_sem] theorem E8 (l : List UInt8) : (ByteArray.mk l.toArray).size = l.length := rfl
@[go_sem] theorem E5 (l : List UInt8) : (ByteArray.mk l.toArray).data.toList = l := rfl
@[go_sem] theorem Ew (l : List UInt8) : (ByteArray.mk l.toArray).toList = l := by
 rw [Lib.toList_data]
attribute [go_sem] ByteArray.extract_mk
@[go_sem] theorem D5 (l : List UInt8) (a : Nat) : (l.drop a).take (l.length - a) = l.drop a := List.take_of_length_le (by simp)
end Go.Proofs.YtkjnkkmokojnpaaGreatDoor
namespace Go.Proofs.YtkjnkkmokojnpaaGreatDoor
set_option linter.unusedSimpArgs false
set_option linter.unusedVariables false
open Go.RowKit
def w8 (ks : List (List UInt8)) (x : List UInt8) : Int := if ks.contains x then (ks.idxOf x : Int) else -1
theorem AN {ks : List (List UInt8)} {x : List UInt8} {k : Nat} (hk : k < ks.length) (h : ∀ j (hj : j < ks.length),j < k → ks[j] ≠ x) (e : ks[k] = x) : w8 ks x = k := by
 have hm : x ∈ ks := by rw [← e]; exact List.getElem_mem hk
 unfold w8
 rw [if_pos (List.contains_iff_mem.2 hm)]
 congr 1
 induction ks generalizing k with
 | nil => simp at hk
 | cons y ks ih =>
  cases k with
  | zero => simp at e; subst e; simp
  | succ k =>
   have h0 : y ≠ x := h 0 (by simp) (by omega)
   simp only [List.getElem_cons_succ] at e
   have hk' : k < ks.length := by simpa using hk
   rw [List.idxOf_cons,beq_eq_false_iff_ne.2 h0,cond_false,ih hk' (fun j hj hjk => h (j + 1) (Nat.succ_lt_succ hj) (by omega)) e (by rw [← e]; exact List.getElem_mem hk')]
theorem we {ks : List (List UInt8)} {x : List UInt8} (h : ∀ j (hj : j < ks.length),ks[j] ≠ x) : w8 ks x = -1 ∧ ks.contains x = false := by
 have hm : ¬ ks.contains x = true := fun e => by
  obtain ⟨j,hj,e⟩ := List.getElem_of_mem (List.contains_iff_mem.1 e)
  exact h j hj e
 exact ⟨if_neg hm,Bool.eq_false_iff.2 hm⟩
theorem AO (ks : List (List UInt8)) (x : List UInt8) : decide (0 ≤ w8 ks x) = ks.contains x := by
 unfold w8
 by_cases h : ks.contains x = true
 ·rw [if_pos h,h]; simp
 ·rw [if_neg h,Bool.eq_false_iff.2 h]; rfl
def cI : Nat → List Nat
 | 0 => [0,1]
 | 1 => [0,1]
 | 2 => [0,1,7,8]
 | 3 => [0,1,7,8]
 | 4 => [0,1,5,7,8]
 | 5 => [5]
 | 6 => [0,1,7,8]
 | 7 => []
 | _ => []
set_option maxRecDepth 100000 in
set_option maxHeartbeats 4000000 in
theorem zj (ks : List (List UInt8)) (x : List UInt8) (hl : ks.length ≤ 4611686018427387904) : AFn Tryz.prog 157 [.sl (ks.map bs) ks.length .none,bs x] [] (.c (.int .i64 (w8 ks x))) [] := by
 refine aM [] Tryz.func157 rfl Tryz.ntmps157 (Nat.le_of_ble_eq_true rfl) (Nat.le_of_ble_eq_true rfl) fun w0 G0 B0 Pr hB0 => ?_
 simp only [aW,aL,List.cons_append,List.nil_append]
 repeat' (first | (with_reducible refine hY _ ?_; clear hY Y) | ((with_reducible first | refine au rfl (ay fun K' hK' => aa ?_) | refine hK' _ (ab fun Y hY => aa ?_) | refine ac tk0 cI (ab fun Y hY => aa ?_)); (try clear hK' K'); (try dsimp only [aop]); try simp only [go_sem,↓reduceIte,Nat.reduceEqDiff,Nat.reduceLT,Nat.reduceLeDiff,Nat.reduceAdd,Nat.reduceSub,Nat.reduceMul,Nat.reduceBEq,Nat.reduceBNe,Nat.reducePow,Int.reduceToNat,Int.reduceLE,Int.reduceLT,Int.reduceMul,Int.reduceEq,Int.reducePow,Int.reduceAdd,Int.reduceSub,Int.reduceNeg,reduceCtorEq,cI,Tryz.results157]) | (with_reducible first | refine ag ?_ | refine am ?_ | refine aq ?_ | refine aG fun K hK => ?_ | refine av ?_ | refine bR ?_) | (with_reducible refine hK _ ?_; clear hK K))
 refine bX (α := Nat) (fun k => [(0,.sl (ks.map bs) ks.length .none),(1,bs x),(7,.c (.int .i64 (ks.length : Int))),(8,.c (.int .i64 (k : Int)))])
  (fun k => k ≤ ks.length ∧ ∀ j (hj : j < ks.length),j < k → ks[j] ≠ x) (fun k => ks.length - k) 0 [0,1,7,8] ?_ ⟨Nat.zero_le _,fun j _ h => absurd h (by omega)⟩ ?_
 ·simp only [go_sem,↓reduceIte,Nat.reduceEqDiff,Nat.reduceLT,Nat.reduceLeDiff,Nat.reduceAdd,Nat.reduceSub,Nat.reduceMul,Nat.reduceBEq,Nat.reduceBNe,Nat.reducePow,Int.reduceToNat,Int.reduceLE,Int.reduceLT,Int.reduceMul,Int.reduceEq,Int.reducePow,Int.reduceAdd,Int.reduceSub,Int.reduceNeg,reduceCtorEq] <;> rfl
 rintro k ⟨hk,hall⟩ ih
 have hkw : k < ks.length → IntKind.i64.wrap ((k : Int) + 1) = ((k + 1 : Nat) : Int) := fun h => by rw [cF (by omega) (by omega)]; rfl
 by_cases hlt : k < ks.length
 ·have hlt' : ((k : Int) < (ks.length : Int)) = True := by simp; omega
  have hat := i8 (f := bs) hlt
  have hkw := hkw hlt
  by_cases he : ks[k] = x
  ·have hb : (x == ks[k]) = true := by simp [he]
   rw [AN hlt hall he]
   repeat' (first | (with_reducible refine hY _ ?_; clear hY Y) | ((with_reducible first | refine au rfl (ay fun K' hK' => aa ?_) | refine hK' _ (ab fun Y hY => aa ?_) | refine ab fun Y hY => aa ?_ | refine ac tk0 cI (ab fun Y hY => aa ?_) | refine aa ?_ | refine ax ?_); (try clear hK' K'); (try dsimp only [aop]); try simp only [go_sem,↓reduceIte,Nat.reduceEqDiff,Nat.reduceLT,Nat.reduceLeDiff,Nat.reduceAdd,Nat.reduceSub,Nat.reduceMul,Nat.reduceBEq,Nat.reduceBNe,Nat.reducePow,Int.reduceToNat,Int.reduceLE,Int.reduceLT,Int.reduceMul,Int.reduceEq,Int.reducePow,Int.reduceAdd,Int.reduceSub,Int.reduceNeg,reduceCtorEq,cI,Tryz.results157,hlt',hat,hb]) | (with_reducible first | refine ag ?_ | refine am ?_ | refine aq ?_ | refine aG fun K hK => ?_ | refine az ?_ | refine bh ?_ | refine bp ?_ | refine av ?_ | refine aH ?_ | refine aB ?_) | (with_reducible refine hK _ ?_; clear hK K) | ((with_reducible refine ai ?_ ?_); (· decide)) | (with_reducible refine bm ?_ ?_; (· (try and_intros) <;> first | omega | assumption | (simp only [List.length_append,List.length_map,List.length_cons,List.length_nil] <;> omega))) | (with_reducible refine bv (bW _) ?_))
  ·have hb : (x == ks[k]) = false := by simpa using fun h => he h.symm
   repeat' (first | (with_reducible refine hY _ ?_; clear hY Y) | ((with_reducible first | refine au rfl (ay fun K' hK' => aa ?_) | refine hK' _ (ab fun Y hY => aa ?_) | refine ab fun Y hY => aa ?_ | refine ac tk0 cI (ab fun Y hY => aa ?_) | refine aa ?_); (try clear hK' K'); (try dsimp only [aop]); try simp only [go_sem,↓reduceIte,Nat.reduceEqDiff,Nat.reduceLT,Nat.reduceLeDiff,Nat.reduceAdd,Nat.reduceSub,Nat.reduceMul,Nat.reduceBEq,Nat.reduceBNe,Nat.reducePow,Int.reduceToNat,Int.reduceLE,Int.reduceLT,Int.reduceMul,Int.reduceEq,Int.reducePow,Int.reduceAdd,Int.reduceSub,Int.reduceNeg,reduceCtorEq,cI,Tryz.results157,hlt',hat,hb,hkw]) | (with_reducible first | refine ag ?_ | refine am ?_ | refine aq ?_ | refine aG fun K hK => ?_ | refine az ?_ | refine aA ?_ | refine ba ?_ | refine av ?_ | refine aH ?_) | (with_reducible refine hK _ ?_; clear hK K) | ((with_reducible refine ai ?_ ?_); (· decide)) | (with_reducible refine bm ?_ ?_; (· (try and_intros) <;> first | omega | assumption | (simp only [List.length_append,List.length_map,List.length_cons,List.length_nil] <;> omega))) | (with_reducible refine bv (bW _) ?_))
   refine bg [0,1,7,8] (by simp only [go_sem,↓reduceIte,Nat.reduceEqDiff,Nat.reduceLT,Nat.reduceLeDiff,Nat.reduceAdd,Nat.reduceSub,Nat.reduceMul,Nat.reduceBEq,Nat.reduceBNe,Nat.reducePow,Int.reduceToNat,Int.reduceLE,Int.reduceLT,Int.reduceMul,Int.reduceEq,Int.reducePow,Int.reduceAdd,Int.reduceSub,Int.reduceNeg,reduceCtorEq]; exact rfl) ?_
   exact ih (k + 1) ⟨by omega,fun j hj hjk => by
    by_cases e : j = k
    ·subst e; exact he
    ·exact hall j hj (by omega)⟩ (by omega)
 ·have hlt' : ((k : Int) < (ks.length : Int)) = False := by simp; omega
  rw [(we fun j hj => hall j hj (by omega)).1]
  repeat' (first | (with_reducible refine hY _ ?_; clear hY Y) | ((with_reducible first | refine au rfl (ay fun K' hK' => aa ?_) | refine hK' _ (ab fun Y hY => aa ?_) | refine ab fun Y hY => aa ?_ | refine ac tk0 cI (ab fun Y hY => aa ?_) | refine aa ?_ | refine ax ?_); (try clear hK' K'); (try dsimp only [aop]); try simp only [go_sem,↓reduceIte,Nat.reduceEqDiff,Nat.reduceLT,Nat.reduceLeDiff,Nat.reduceAdd,Nat.reduceSub,Nat.reduceMul,Nat.reduceBEq,Nat.reduceBNe,Nat.reducePow,Int.reduceToNat,Int.reduceLE,Int.reduceLT,Int.reduceMul,Int.reduceEq,Int.reducePow,Int.reduceAdd,Int.reduceSub,Int.reduceNeg,reduceCtorEq,cI,Tryz.results157,hlt']) | (with_reducible first | refine ag ?_ | refine am ?_ | refine aq ?_ | refine aG fun K hK => ?_ | refine aA ?_ | refine bY ?_ | refine bF ?_ | refine aB ?_ | refine bE ?_) | (with_reducible refine hK _ ?_; clear hK K) | ((with_reducible refine ai ?_ ?_); (· decide)))
def eV : Nat → List Nat
 | 0 => [0,1]
 | 1 => [0,1]
 | _ => []
set_option maxRecDepth 100000 in
theorem iS (ks : List (List UInt8)) (x : List UInt8) (hl : ks.length ≤ 4611686018427387904) : AFn Tryz.prog 70 [.sl (ks.map bs) ks.length .none,bs x] [] (.c (.bool (ks.contains x))) [] := by
 have h := zj ks x hl
 have e := AO ks x
 refine aM [] Tryz.func70 rfl Tryz.ntmps70 (Nat.le_of_ble_eq_true rfl) (Nat.le_of_ble_eq_true rfl) fun w0 G0 B0 Pr hB0 => ?_
 simp only [aW,aL,List.cons_append,List.nil_append]
 repeat' (first | (with_reducible refine hY _ ?_; clear hY Y) | ((with_reducible first | refine au rfl (ay fun K' hK' => aa ?_) | refine hK' _ (ab fun Y hY => aa ?_) | refine ac tk0 eV (ab fun Y hY => aa ?_) | refine aa ?_ | refine ax ?_); (try clear hK' K'); (try dsimp only [aop]); try simp only [go_sem,↓reduceIte,Nat.reduceEqDiff,Nat.reduceLT,Nat.reduceLeDiff,Nat.reduceAdd,Nat.reduceSub,Nat.reduceMul,Nat.reduceBEq,Nat.reduceBNe,Nat.reducePow,Int.reduceToNat,Int.reduceLE,Int.reduceLT,Int.reduceMul,Int.reduceEq,Int.reducePow,Int.reduceAdd,Int.reduceSub,Int.reduceNeg,reduceCtorEq,eV,Tryz.results70,e]) | (with_reducible first | refine ag ?_ | refine am ?_ | refine aq ?_ | refine aG fun K hK => ?_ | refine aB ?_) | (with_reducible refine hK _ ?_; clear hK K) | (with_reducible refine ae (h) ?_))
def keyL : List (List UInt8) := [[112,114,111,99],[114,101,113,117,105,114,101,115],[101,110,115,117,114,101,115],[115,107,105,112],[112,117,116],[103,101,116],[110,101,119],[102,114,101,101],[105,102],[101,108,115,101],[119,104,105,108,101],[105,110,118,97,114,105,97,110,116],[97,115,115,101,114,116],[99,97,108,108],[116,114,117,101],[102,97,108,115,101],[101,109,112],[97,99,99],[112,116,115]]
theorem yQ : CF = keyL.map bs := rfl
def jc : Nat → List Nat
 | 0 => [0]
 | 1 => [0]
 | _ => []
set_option maxRecDepth 100000 in
theorem Eh (x : List UInt8) : AFn Tryz.prog 107 [bs x] [] (.c (.bool (keyL.contains x))) [] := by
 have h := iS keyL x (by decide)
 rw [← yQ,show keyL.length = 19 from rfl] at h
 refine aM [] Tryz.func107 rfl Tryz.ntmps107 (Nat.le_of_ble_eq_true rfl) (Nat.le_of_ble_eq_true rfl) fun w0 G0 B0 Pr hB0 => ?_
 simp only [aW,aL,List.cons_append,List.nil_append]
 repeat' (first | (with_reducible refine hY _ ?_; clear hY Y) | ((with_reducible first | refine au rfl (ay fun K' hK' => aa ?_) | refine hK' _ (ab fun Y hY => aa ?_) | refine ac tk0 jc (ab fun Y hY => aa ?_) | refine aa ?_ | refine ax ?_); (try clear hK' K'); (try dsimp only [aop]); try simp only [go_sem,↓reduceIte,Nat.reduceEqDiff,Nat.reduceLT,Nat.reduceLeDiff,Nat.reduceAdd,Nat.reduceSub,Nat.reduceMul,Nat.reduceBEq,Nat.reduceBNe,Nat.reducePow,Int.reduceToNat,Int.reduceLE,Int.reduceLT,Int.reduceMul,Int.reduceEq,Int.reducePow,Int.reduceAdd,Int.reduceSub,Int.reduceNeg,reduceCtorEq,jc,Tryz.results107]) | (with_reducible first | refine ag ?_ | refine am ?_ | refine aq ?_ | refine aG fun K hK => ?_ | refine aB ?_) | (with_reducible refine hK _ ?_; clear hK K) | (with_reducible refine ae (h) ?_))
def cR : Nat → List Nat
 | 0 => [0]
 | 1 => [0]
 | 2 => [0,3]
 | 3 => [0,3,4]
 | 4 => [0,3,4]
 | 5 => [0,3,4]
 | 6 => []
 | 7 => []
 | _ => []
set_option maxRecDepth 100000 in
set_option maxHeartbeats 4000000 in
theorem Dp (x : List UInt8) : AFn Tryz.prog 119 [bs x] [] (.c (.bool (keyL.contains x))) [] := by
 refine aM [] Tryz.func119 rfl Tryz.ntmps119 (Nat.le_of_ble_eq_true rfl) (Nat.le_of_ble_eq_true rfl) fun w0 G0 B0 Pr hB0 => ?_
 simp only [aW,aL,List.cons_append,List.nil_append]
 repeat' (first | (with_reducible refine hY _ ?_; clear hY Y) | ((with_reducible first | refine au rfl (ay fun K' hK' => aa ?_) | refine hK' _ (ab fun Y hY => aa ?_) | refine ac tk0 cR (ab fun Y hY => aa ?_)); (try clear hK' K'); (try dsimp only [aop]); try simp only [go_sem,↓reduceIte,Nat.reduceEqDiff,Nat.reduceLT,Nat.reduceLeDiff,Nat.reduceAdd,Nat.reduceSub,Nat.reduceMul,Nat.reduceBEq,Nat.reduceBNe,Nat.reducePow,Int.reduceToNat,Int.reduceLE,Int.reduceLT,Int.reduceMul,Int.reduceEq,Int.reducePow,Int.reduceAdd,Int.reduceSub,Int.reduceNeg,reduceCtorEq,cR,Tryz.results119]) | (with_reducible first | refine ag ?_ | refine am ?_ | refine aq ?_ | refine aG fun K hK => ?_ | refine av ?_ | refine bR ?_) | (with_reducible refine hK _ ?_; clear hK K))
 refine bX (α := Nat) (fun k => [(0,bs x),(3,.sl (keyL.map bs) 19 .full),(4,.c (.int .i64 (k : Int)))])
  (fun k => k ≤ 19 ∧ ∀ j (hj : j < keyL.length),j < k → keyL[j] ≠ x) (fun k => 19 - k) 0 [0,3,4] ?_ ⟨Nat.zero_le _,fun j _ h => absurd h (by omega)⟩ ?_
 ·simp only [go_sem,↓reduceIte,Nat.reduceEqDiff,Nat.reduceLT,Nat.reduceLeDiff,Nat.reduceAdd,Nat.reduceSub,Nat.reduceMul,Nat.reduceBEq,Nat.reduceBNe,Nat.reducePow,Int.reduceToNat,Int.reduceLE,Int.reduceLT,Int.reduceMul,Int.reduceEq,Int.reducePow,Int.reduceAdd,Int.reduceSub,Int.reduceNeg,reduceCtorEq] <;> rfl
 have hkl : keyL.length = 19 := rfl
 rintro k ⟨hk,hall⟩ ih
 have hkw : k < 19 → IntKind.i64.wrap ((k : Int) + 1) = ((k + 1 : Nat) : Int) := fun h => by rw [cF (by omega) (by omega)]; rfl
 by_cases hlt : k < 19
 ·have hlt' : ((k : Int) < ((19 : Nat) : Int)) = True := by simp; omega
  have hat := i8 (f := bs) (l := keyL) (i := k) (by omega)
  have hkw := hkw hlt
  have hge : keyL[k] ∈ keyL := List.getElem_mem _
  have hce : ∀ j (hj : j < keyL.length),j = k → keyL[j] = keyL[k] := fun j hj e => by subst e; rfl
  generalize keyL[k] = y at *
  by_cases he : y = x
  ·have hb : (y == x) = true := by simp [he]
   rw [show keyL.contains x = true from List.contains_iff_mem.2 (by rw [← he]; exact hge)]
   repeat' (first | (with_reducible refine hY _ ?_; clear hY Y) | ((with_reducible first | refine au rfl (ay fun K' hK' => aa ?_) | refine hK' _ (ab fun Y hY => aa ?_) | refine ab fun Y hY => aa ?_ | refine ac tk0 cR (ab fun Y hY => aa ?_) | refine aa ?_ | refine ax ?_); (try clear hK' K'); (try dsimp only [aop]); try simp only [go_sem,↓reduceIte,Nat.reduceEqDiff,Nat.reduceLT,Nat.reduceLeDiff,Nat.reduceAdd,Nat.reduceSub,Nat.reduceMul,Nat.reduceBEq,Nat.reduceBNe,Nat.reducePow,Int.reduceToNat,Int.reduceLE,Int.reduceLT,Int.reduceMul,Int.reduceEq,Int.reducePow,Int.reduceAdd,Int.reduceSub,Int.reduceNeg,reduceCtorEq,cR,Tryz.results119,hlt',hat,hb]) | (with_reducible first | refine ag ?_ | refine am ?_ | refine aq ?_ | refine aG fun K hK => ?_ | refine az ?_ | refine bh ?_ | refine bp ?_ | refine av ?_ | refine aH ?_ | refine aB ?_) | (with_reducible refine hK _ ?_; clear hK K) | ((with_reducible refine ai ?_ ?_); (· decide)) | (with_reducible refine bm ?_ ?_; (· (try and_intros) <;> first | omega | assumption | (simp only [List.length_append,List.length_map,List.length_cons,List.length_nil] <;> omega))) | (with_reducible refine bv (bW _) ?_))
  ·have hb : (y == x) = false := by simpa using he
   repeat' (first | (with_reducible refine hY _ ?_; clear hY Y) | ((with_reducible first | refine au rfl (ay fun K' hK' => aa ?_) | refine hK' _ (ab fun Y hY => aa ?_) | refine ab fun Y hY => aa ?_ | refine ac tk0 cR (ab fun Y hY => aa ?_) | refine aa ?_); (try clear hK' K'); (try dsimp only [aop]); try simp only [go_sem,↓reduceIte,Nat.reduceEqDiff,Nat.reduceLT,Nat.reduceLeDiff,Nat.reduceAdd,Nat.reduceSub,Nat.reduceMul,Nat.reduceBEq,Nat.reduceBNe,Nat.reducePow,Int.reduceToNat,Int.reduceLE,Int.reduceLT,Int.reduceMul,Int.reduceEq,Int.reducePow,Int.reduceAdd,Int.reduceSub,Int.reduceNeg,reduceCtorEq,cR,Tryz.results119,hlt',hat,hb,hkw]) | (with_reducible first | refine ag ?_ | refine am ?_ | refine aq ?_ | refine aG fun K hK => ?_ | refine az ?_ | refine aA ?_ | refine ba ?_ | refine av ?_ | refine aH ?_) | (with_reducible refine hK _ ?_; clear hK K) | ((with_reducible refine ai ?_ ?_); (· decide)) | (with_reducible refine bm ?_ ?_; (· (try and_intros) <;> first | omega | assumption | (simp only [List.length_append,List.length_map,List.length_cons,List.length_nil] <;> omega))) | (with_reducible refine bv (bW _) ?_))
   refine bg [0,3,4] (by simp only [go_sem,↓reduceIte,Nat.reduceEqDiff,Nat.reduceLT,Nat.reduceLeDiff,Nat.reduceAdd,Nat.reduceSub,Nat.reduceMul,Nat.reduceBEq,Nat.reduceBNe,Nat.reducePow,Int.reduceToNat,Int.reduceLE,Int.reduceLT,Int.reduceMul,Int.reduceEq,Int.reducePow,Int.reduceAdd,Int.reduceSub,Int.reduceNeg,reduceCtorEq]; exact rfl) ?_
   exact ih (k + 1) ⟨by omega,fun j hj hjk => by
    by_cases e : j = k
    ·rw [hce j hj e]; exact he
    ·exact hall j hj (by omega)⟩ (by omega)
 ·have hlt' : ((k : Int) < ((19 : Nat) : Int)) = False := by simp; omega
  rw [(we fun j hj => hall j hj (by omega)).2]
  repeat' (first | (with_reducible refine hY _ ?_; clear hY Y) | ((with_reducible first | refine au rfl (ay fun K' hK' => aa ?_) | refine hK' _ (ab fun Y hY => aa ?_) | refine ab fun Y hY => aa ?_ | refine ac tk0 cR (ab fun Y hY => aa ?_) | refine aa ?_ | refine ax ?_); (try clear hK' K'); (try dsimp only [aop]); try simp only [go_sem,↓reduceIte,Nat.reduceEqDiff,Nat.reduceLT,Nat.reduceLeDiff,Nat.reduceAdd,Nat.reduceSub,Nat.reduceMul,Nat.reduceBEq,Nat.reduceBNe,Nat.reducePow,Int.reduceToNat,Int.reduceLE,Int.reduceLT,Int.reduceMul,Int.reduceEq,Int.reducePow,Int.reduceAdd,Int.reduceSub,Int.reduceNeg,reduceCtorEq,cR,Tryz.results119,hlt',hkl]) | (with_reducible first | refine ag ?_ | refine am ?_ | refine aq ?_ | refine aG fun K hK => ?_ | refine aA ?_ | refine bY ?_ | refine bF ?_ | refine aB ?_ | refine bE ?_) | (with_reducible refine hK _ ?_; clear hK K) | ((with_reducible refine ai ?_ ?_); (· decide)))
end Go.Proofs.YtkjnkkmokojnpaaGreatDoor
