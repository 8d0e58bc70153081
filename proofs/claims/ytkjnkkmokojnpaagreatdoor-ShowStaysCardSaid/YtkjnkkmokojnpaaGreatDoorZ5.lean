/- The number of an error, in K. Errors as the document tells them: their trees; contracts from the world. strings.IndexByte and scan.run, in the world; then in K. Lists laid side by side. No program is in sight. Texts as lists of bytes, in K. Keys, letters, numbers, names: scan's and the document's, in K. -/
import Derived.Test.YtkjnkkmokojnpaaGreatDoorZ4
import Derived.Lib.Bytealg
import Derived.Laws.StandIn
import Derived.Laws.RangeAny
import Derived.Laws.Runes
import Derived.LoopTactic
import Derived.Laws.Cover1
namespace Go.Proofs.YtkjnkkmokojnpaaGreatDoor
set_option linter.unusedSimpArgs false
set_option linter.unusedVariables false
open Go.RowKit
def fm (e : Nat) : AV:=if e = 0 then .c .nilIface else .ifc 41 (.c (.int .i64 (e : Int)))
theorem ti : fm 0 = .c .nilIface:=rfl
theorem eV {e : Nat} (h : e ≠ 0) : fm e = .ifc 41 (.c (.int .i64 (e : Int))):=if_neg h
@[go_sem] theorem Ff (g : List (Nat × Nat)) (k e : Nat) : ren g (k + 2) (fm e) = fm e:=by
 unfold fm;split <;> rfl
@[go_sem] theorem DJ (b k e : Nat) : eP b (k + 2) (fm e) = false:=by
 unfold fm;split <;> rfl
@[go_sem] theorem E9 (e : Nat) : (fm e).one = true:=by
 unfold fm;split <;> rfl
@[go_sem] theorem DW (e : Nat) : fg (fm e) = [fm e]:=by
 unfold fm;split <;> rfl
@[go_sem] theorem ER (ex : List Nat) (σ : bL) (k e : Nat) : i8 ex σ (k + 2) (fm e) = fm e:=by
 unfold fm;split <;> rfl
@[go_sem] theorem Ej (tk : Bool) (k e : Nat) : names tk (k + 2) (fm e) = []:=by
 unfold fm;split <;> rfl
theorem vR : (Tryz.prog.info? 41).map (fun i=>i.comparable) = some true:=by kernel_rfl
set_option maxRecDepth 100000 in
theorem uD (a b : Int) : ∀ w,(((pure () : Sem Unit) >>= fun _=>binOp .eql 28 (.iface 41 (.int .i64 a)) (.iface 41 (.int .i64 b))) : Sem Value).run Tryz.prog w = .ok (.bool (a == b)) w:=fun w=>by
 have:=Go.Lib.run_eql_iface_int w (k:=.i64) a b Tryz.underlying28 vR Tryz.underlying41
 rw [Sem.run_bind]
 exact this
set_option maxRecDepth 100000 in
theorem ii : ∀ w,(((pure () : Sem Unit) >>= fun _=>binOp .eql 28 .nilIface .nilIface) : Sem Value).run Tryz.prog w = .ok (.bool true) w:=fun w=>by
 have ht:=Tryz.underlying28
 have h : ∀ d : Nat,(Op.equalIn (d + 2) 28 .nilIface .nilIface).run Tryz.prog w = .ok true w:=fun d=>by
  simp [Op.equalIn,run_underlying ht]
 have h2 : (binOp .eql 28 .nilIface .nilIface).run Tryz.prog w = .ok (.bool true) w:=by
  simp only [binOp]
  simp [Op.equal,Op.maxDepth,h 9998]
 rw [Sem.run_bind]
 exact h2
set_option maxRecDepth 100000 in
theorem pN : ∀ w,(((pure () : Sem Unit) >>= fun _=>binOp .neq 28 .nilIface .nilIface) : Sem Value).run Tryz.prog w = .ok (.bool false) w:=fun w=>by
 have ht:=Tryz.underlying28
 have h : ∀ d : Nat,(Op.equalIn (d + 2) 28 .nilIface .nilIface).run Tryz.prog w = .ok true w:=fun d=>by
  simp [Op.equalIn,run_underlying ht]
 have h2 : (binOp .neq 28 .nilIface .nilIface).run Tryz.prog w = .ok (.bool false) w:=by
  simp only [binOp]
  simp [Op.equal,Op.maxDepth,h 9998]
 rw [Sem.run_bind]
 exact h2
def cP : Nat→List Nat
 | 0=>[0]
 | 1=>[0]
 | 2=>[]
 | 3=>[0]
 | 4=>[0,3]
 | 5=>[0,3]
 | 6=>[0,3]
 | 7=>[3]
 | 8=>[]
 | _=>[]
set_option maxRecDepth 100000 in
set_option maxHeartbeats 4000000 in
theorem vS (e : Nat) (he : e≤16) : AFn Tryz.prog 18 [fm e] [] (.c (.int .i64 (e : Int))) []:=by
 by_cases h0 : e = 0
 ·subst h0
  rw [ti]
  refine aC [] Tryz.func18 rfl Tryz.ntmps18 (Nat.le_of_ble_eq_true rfl) (Nat.le_of_ble_eq_true rfl) fun w0 G0 B0 Pr hB0=>?_
  simp only [aJ,aB,List.cons_append,List.nil_append]
  repeat' (first | (with_reducible refine hY _ ?_;clear hY Y) | ((with_reducible first | refine ar rfl (ay fun K' hK'=>aa ?_) | refine hK' _ (ab fun Y hY=>aa ?_) | refine ab fun Y hY=>aa ?_ | refine ae tk0 cP (ab fun Y hY=>aa ?_) | refine aa ?_ | refine aq ?_);(try clear hK' K');(try dsimp only [aop]);try simp only [go_sem,seval,-Int.reduceNatCast,-Int.reduceNatCast',cP,Tryz.results18]) | (with_reducible first | refine ag ?_ | refine aj ?_ | refine am ?_ | refine aF fun K hK=>?_ | refine ax ?_ | refine aZ ?_ | refine aA ?_) | (with_reducible refine hK _ ?_;clear hK K) | ((with_reducible refine ai ?_ ?_);(· decide)) | (with_reducible refine bg (ii) ?_))
  all_goals (rfl)
 rw [eV h0]
 refine aC [] Tryz.func18 rfl Tryz.ntmps18 (Nat.le_of_ble_eq_true rfl) (Nat.le_of_ble_eq_true rfl) fun w0 G0 B0 Pr hB0=>?_
 simp only [aJ,aB,List.cons_append,List.nil_append]
 repeat' (first | (with_reducible refine hY _ ?_;clear hY Y) | ((with_reducible first | refine ar rfl (ay fun K' hK'=>aa ?_) | refine hK' _ (ab fun Y hY=>aa ?_) | refine ab fun Y hY=>aa ?_ | refine ae tk0 cP (ab fun Y hY=>aa ?_));(try clear hK' K');(try dsimp only [aop]);try simp only [go_sem,seval,-Int.reduceNatCast,-Int.reduceNatCast',cP,Tryz.results18]) | (with_reducible first | refine ag ?_ | refine aj ?_ | refine am ?_ | refine aF fun K hK=>?_ | refine av ?_ | refine ap ?_ | refine aD ?_ | refine bW ?_) | (with_reducible refine hK _ ?_;clear hK K) | ((with_reducible refine ai ?_ ?_);(· decide)))
 refine b9 (α:=Nat) (fun k=>[(0,.ifc 41 (.c (.int .i64 (e : Int)))),(3,.c (.int .i64 (k : Int)))]) (fun k=>1≤k∧k≤e) (fun k=>17 - k) 1 [0,3] ?_ ⟨Nat.le_refl _,by omega⟩ ?_
 ·simp only [go_sem,seval,-Int.reduceNatCast,-Int.reduceNatCast'] <;> rfl
 rintro k ⟨hk1,hk2⟩ ih
 have hk : (k : Int)≤16:=by omega
 have hkw : IntKind.i64.wrap ((k : Int) + 1) = ((k + 1 : Nat) : Int):=by rw [bZ (by omega) (by omega)];rfl
 by_cases hke : k = e
 ·subst hke
  have hb : ((k : Int) == (k : Int)) = true:=by simp
  repeat' (first | (with_reducible refine hY _ ?_;clear hY Y) | ((with_reducible first | refine ar rfl (ay fun K' hK'=>aa ?_) | refine hK' _ (ab fun Y hY=>aa ?_) | refine ab fun Y hY=>aa ?_ | refine ae tk0 cP (ab fun Y hY=>aa ?_) | refine aa ?_ | refine aq ?_);(try clear hK' K');(try dsimp only [aop]);try simp only [go_sem,seval,-Int.reduceNatCast,-Int.reduceNatCast',cP,Tryz.results18,hk,hkw,hb]) | (with_reducible first | refine ag ?_ | refine aj ?_ | refine am ?_ | refine aF fun K hK=>?_ | refine ax ?_ | refine aZ ?_ | refine bh ?_ | refine ap ?_ | refine aD ?_ | refine aA ?_) | (with_reducible refine hK _ ?_;clear hK K) | ((with_reducible refine ai ?_ ?_);(· decide)) | (with_reducible refine bg (uD _ _) ?_))
 ·have hb : ((e : Int) == (k : Int)) = false:=by simp;omega
  repeat' (first | (with_reducible refine hY _ ?_;clear hY Y) | ((with_reducible first | refine ar rfl (ay fun K' hK'=>aa ?_) | refine hK' _ (ab fun Y hY=>aa ?_) | refine ab fun Y hY=>aa ?_ | refine ae tk0 cP (ab fun Y hY=>aa ?_) | refine aa ?_);(try clear hK' K');(try dsimp only [aop]);try simp only [go_sem,seval,-Int.reduceNatCast,-Int.reduceNatCast',cP,Tryz.results18,hk,hkw,hb]) | (with_reducible first | refine ag ?_ | refine aj ?_ | refine am ?_ | refine aF fun K hK=>?_ | refine ax ?_ | refine av ?_ | refine aR ?_ | refine ap ?_ | refine aD ?_) | (with_reducible refine hK _ ?_;clear hK K) | ((with_reducible refine ai ?_ ?_);(· decide)) | (with_reducible refine bg (uD _ _) ?_))
  refine bi [0,3] (by simp only [go_sem,seval,-Int.reduceNatCast,-Int.reduceNatCast'];exact rfl) ?_
  exact ih (k + 1) ⟨by omega,by omega⟩ (by omega)
end Go.Proofs.YtkjnkkmokojnpaaGreatDoor
namespace Go.Proofs.YtkjnkkmokojnpaaGreatDoor
set_option linter.unusedSimpArgs false
set_option linter.unusedVariables false
open Go.RowKit
theorem xE {P : Program} {f : FuncId} {args : List AV} {x : Value}
  (h : ∀ (w : World) (G : Gh) (vs : Array Value),(∀ b o v,G.Z b o = some v→w.cell? ⟨b,o,none⟩ = some v∧v.oneCell' = true)→Gl G.Z→vs.size = args.length→(∀ j (h : j < args.length),VRel G (cY []) (vs.getD j undef) args[j]) →
   Calls P f vs w fun e w'=>e = .returned x∧Below w.heap.size w w') : AFn P f args [] (.c x) []:=fun w G vs hst hX hvs hargs=>by
 have hu : ∀ k,cY [] k = .u:=fun k=>by unfold cY;split <;> simp
 have hγ : ∀ k,G.γ k = none:=fun k=>by
  cases hg : G.γ k with
  | none=>rfl
  | some g =>
   obtain ⟨_,_,hb⟩:=hst.box k g hg
   rcases hb with ⟨_,_,h1,_⟩ | ⟨_,_,h1,_⟩ <;> rw [hu] at h1 <;> cases h1
 refine (h w G vs hst.agree hst.gl hvs hargs).mono fun e w' ⟨he,hb⟩=>⟨x,G,he,.p (.c x),⟨fun b o v hz=>?_,fun k g hk=>?_,fun k cs ty _ hc=>?_,fun k k' g hk=>?_,hst.gl⟩,⟨hb.os,hb.tape,hb.output,hb.size,fun b hp _=>hb.block b hp.1⟩,.refl _ _,fun _ _ _ _=>rfl⟩
 ·have:=hst.agree b o v hz
  exact ⟨(hb.cell (p:=⟨b,o,none⟩) (World.block_lt_of_cell? w ⟨b,o,none⟩ this.1)).trans this.1,this.2⟩
 ·rw [hγ] at hk;cases hk
 ·rw [hu] at hc;cases hc
 ·rw [hγ] at hk;cases hk
def AB (at0 : Int) (e : Nat) : AV:=.ifc 63 (.rf [.c (.int .i64 at0),fm e] 0)
theorem E0 {vs : Array Value} {x y z : Value} (hs : vs.size = 3) (h0 : vs.getD 0 undef = x) (h1 : vs.getD 1 undef = y) (h2 : vs.getD 2 undef = z) : vs = #[x,y,z]:=by
 cases vs with
 | mk l =>
  match l,hs with
  | [a,b,c],_=>simp at h0 h1 h2;subst h0 h1 h2;rfl
def Bt (e : Nat) (at0 : Int) : AV:=if at0 < 0∨e = 0 then fm e else AB at0 e
end Go.Proofs.YtkjnkkmokojnpaaGreatDoor
namespace Go.Proofs.YtkjnkkmokojnpaaGreatDoor
set_option linter.unusedSimpArgs false
set_option linter.unusedVariables false
open Go.RowKit Go.Extern
theorem wh (s : ByteArray) (c : Int) (w : World) :
  Calls Tryz.prog 180 #[.string s,.int .u8 c] w fun e w'=>e = .returned (.int .i64 (firstIdx s c.toNat.toUInt8))∧w' = w:=by
 have hx:=@run_callFunc_indexByte Tryz.prog 243 _ Tryz.func243 (by kernel_rfl) (by kernel_rfl) (by kernel_rfl) (by kernel_rfl)
 have hi : Calls Tryz.prog 213 #[.string s,.int .u8 c] w fun e w'=>e = .returned (.int .i64 (firstIdx s c.toNat.toUInt8))∧w' = w:=by
  have he:=run_indexByte_string (P:=Tryz.prog) s c w
  go_enter Tryz.func213,Tryz.ntmps213
  go_wp2
  go_ret
  exact ⟨rfl,rfl⟩
 go_enter Tryz.func180,Tryz.ntmps180
 go_wp2_with (first | (go_at_call 213;refine hi.mono ?_;rintro e W ⟨rfl,rfl⟩) | fail)
 go_ret
 exact ⟨rfl,rfl⟩
def dz (some l : List UInt8) : Nat:=(l.takeWhile fun c=>some.contains c).length
theorem qh {some l : List UInt8} {p : Nat} (hp : p < l.length) (h : ∀ j (hj : j < l.length),j < p→some.contains l[j] = true) (hn : some.contains l[p] = false) : dz some l = p:=by
 unfold dz
 induction l generalizing p with
 | nil=>simp at hp
 | cons x l ih =>
  cases p with
  | zero=>simp at hn;simp [List.takeWhile_cons,hn]
  | succ p =>
   have h0:=h 0 (by simp) (by omega)
   simp only [List.getElem_cons_zero] at h0
   rw [List.takeWhile_cons,if_pos h0,List.length_cons,ih (Nat.lt_of_succ_lt_succ hp) (fun j hj hjp=>h (j + 1) (Nat.succ_lt_succ hj) (Nat.succ_lt_succ hjp)) hn]
theorem xG {some l : List UInt8} (h : ∀ j (hj : j < l.length),some.contains l[j] = true) : dz some l = l.length:=by
 unfold dz
 induction l with
 | nil=>rfl
 | cons x l ih =>
  have h0:=h 0 (by simp)
  simp only [List.getElem_cons_zero] at h0
  rw [List.takeWhile_cons,if_pos h0,List.length_cons,ih fun j hj=>h (j + 1) (Nat.succ_lt_succ hj)]
  rfl
theorem kI (w : World) (s : ByteArray) (pos : Nat) : Below w.heap.size w (w.iter s pos):=(Below.refl _ w).alloc (Nat.le_refl _) _
set_option maxRecDepth 100000 in
set_option maxHeartbeats 4000000 in
theorem Cm (s some : ByteArray) (hs : ∀ c ∈ some.data.toList,c.toNat < 128) (a : Nat) (ha : a≤s.size) (hl : s.size≤4611686018427387904) (w : World) :
  Calls Tryz.prog 106 #[.string s,.int .i64 a,.string some] w fun e w'=>e = .returned (.int .i64 (dz some.data.toList (s.extract a s.size).data.toList))∧Below w.heap.size w w':=by
 generalize ht : s.extract a s.size = t
 have hts : t.size = s.size - a:=by rw [← ht,ByteArray.size_extract];omega
 have hget : ∀ j (hj : j < t.size),t.data.toList[j]'(by simpa using hj) = t[j]:=fun j hj=>rfl
 go_enter Tryz.func106,Tryz.ntmps106
 go_wp2
 go_loopw [7] (fun _ w'=>∃ pos : Nat,w' = w.iter t pos∧pos≤t.size∧∀ j (hj : j < t.size),j < pos→some.data.toList.contains t[j] = true) (fun _ w'=>t.size - w'.iterPos w.heap.size)
 case atStart=>exact ⟨0,rfl,Nat.zero_le _,fun j _ h=>absurd h (by omega)⟩
 case round =>
  obtain ⟨pos,rfl,hpos,hall⟩:=hrel
  by_cases hp : pos < t.size
  ·have hnx : ∀ ty,(Instr.next (.pointer (Option.some ⟨w.heap.size,0,none⟩)) true ty).run Tryz.prog (w.iter t pos) = _:=fun ty=>run_next_any w t pos ty hp
   by_cases hb : (t[pos]).toNat < 128
   ·rw [decode_ascii t pos hp hb] at hnx
    have hidx:=wh some ((t[pos]).toNat : Int) (w.iter t (pos + 1))
    simp only [Int.toNat_natCast,UInt8.ofNat_toNat] at hidx
    have hnn:=firstIdx_nonneg some t[pos]
    have h127 : ¬ (127 : Int) < ((t[pos]).toNat : Int):=by omega
    have hcv : IntKind.u8.wrap ((t[pos]).toNat : Int) = ((t[pos]).toNat : Int):=by
     have:=(t[pos]).toNat_lt
     rw [IntKind.wrap_u8];omega
    by_cases hm : some.data.toList.contains t[pos] = true
    ·have h0 : ¬ firstIdx some t[pos] < 0:=by
      have e : (some.data.toList.any fun x=>x == t[pos]) = true:=by rw [List.any_eq_true];exact ⟨_,List.contains_iff_mem.1 hm,by simp⟩
      rw [e] at hnn
      have:=of_decide_eq_true hnn
      omega
     clear hnn
     go_wp2_with (first | (go_at_call 180;refine hidx.mono ?_;rintro e W ⟨rfl,rfl⟩) | fail)
     go_roundw
     case rel =>
      refine ⟨pos + 1,rfl,by omega,fun j hj hjp=>?_⟩
      by_cases hjq : j = pos
      ·subst hjq;exact hm
      ·exact hall j hj (by omega)
     case measure =>
      simp
      omega
    ·have h0 : firstIdx some t[pos] < 0:=by
      have e : (some.data.toList.any fun x=>x == t[pos]) = false:=by
       rw [List.any_eq_false];intro x hx hxe;rw [beq_iff_eq] at hxe;subst hxe;exact hm (List.contains_iff_mem.2 hx)
      rw [e] at hnn
      have:=of_decide_eq_false hnn
      omega
     clear hnn
     go_wp2_with (first | (go_at_call 180;refine hidx.mono ?_;rintro e W ⟨rfl,rfl⟩) | fail)
     go_ret
     have e:=qh (some:=some.data.toList) (l:=t.data.toList) (p:=pos) (by simpa using hp) (fun j hj hjp=>hall j (by simpa using hj) hjp) (Bool.eq_false_iff.2 hm)
     rw [e]
     exact ⟨rfl,kI _ _ _⟩
   ·have hdh:=(decode_high t pos hp (by omega)).1
    have h127 : (127 : Int) < ((Utf8.decode t pos).1 : Int):=by omega
    go_wp2
    go_ret
    have hm : some.data.toList.contains t[pos] = false:=by
     cases h : some.data.toList.contains t[pos] with
     | false=>rfl
     | true=>exact absurd (hs _ (List.contains_iff_mem.1 h)) hb
    have e:=qh (some:=some.data.toList) (l:=t.data.toList) (p:=pos) (by simpa using hp) (fun j hj hjp=>hall j (by simpa using hj) hjp) hm
    rw [e]
    exact ⟨rfl,kI _ _ _⟩
  ·have hnx : ∀ ty,(Instr.next (.pointer (Option.some ⟨w.heap.size,0,none⟩)) true ty).run Tryz.prog (w.iter t pos) = _:=fun ty=>run_next_end w t pos ty hp
   go_wp2
   go_ret
   have hpt : pos = t.size:=by omega
   have e:=xG (some:=some.data.toList) (l:=t.data.toList) fun j hj=>hall j (by simpa using hj) (by rw [hpt];simpa using hj)
   rw [e]
   have e2 : (s.size : Int) - (a : Int) = (t.data.toList.length : Int):=by
    have : t.data.toList.length = t.size:=by simp
    rw [this];omega
   exact ⟨by rw [← e2];rfl,kI _ _ _⟩
abbrev bs (l : List UInt8) : AV:=.c (.string ⟨l.toArray⟩)
theorem rl (l some : List UInt8) (hs : ∀ c ∈ some,c.toNat < 128) (a : Nat) (ha : a≤l.length) (hl : l.length≤4611686018427387904) :
  AFn Tryz.prog 106 [bs l,.c (.int .i64 a),bs some] [] (.c (.int .i64 (dz some (l.drop a)))) [] :=
 xE fun w G vs hag hgl hs' hargs=>by
  have h0:=ee (hargs 0 (by simp))
  have h1:=ee (hargs 1 (by simp))
  have h2:=ee (hargs 2 (by simp))
  obtain rfl:=E0 hs' h0 h1 h2
  have h:=Cm ⟨l.toArray⟩ ⟨some.toArray⟩ hs a ha hl w
  rw [show (ByteArray.mk l.toArray).size = l.length from rfl,ByteArray.extract_mk] at h
  have e : (ByteArray.mk ((l.drop a).take (l.length - a)).toArray).data.toList = l.drop a:=by
   show (l.drop a).take (l.length - a) = l.drop a
   rw [List.take_of_length_le (by simp)]
  rw [e] at h
  exact h
end Go.Proofs.YtkjnkkmokojnpaaGreatDoor
namespace Go.Proofs.YtkjnkkmokojnpaaGreatDoor
set_option linter.unusedSimpArgs false
set_option linter.unusedVariables false
open Go.RowKit
theorem jv {α : Type} {f : α→List AV} {k : Nat} (hf : ∀ x,(f x).length = k) : ∀ l : List α,(l.flatMap f).length = l.length * k
 | []=>by simp
 | x :: l=>by rw [List.flatMap_cons,List.length_append,hf,jv hf l,List.length_cons,Nat.succ_mul];omega
theorem pi {α : Type} {f : α→List AV} {k : Nat} (hf : ∀ x,(f x).length = k) : ∀ {l : List α} {i : Nat} (h : i < l.length),((l.flatMap f).drop (i * k)).take k = f l[i]
 | x :: l,0,_=>by
  rw [Nat.zero_mul,List.drop_zero,List.flatMap_cons,List.take_append_of_le_length (by rw [hf];exact Nat.le_refl _),List.take_of_length_le (by rw [hf];exact Nat.le_refl _)];rfl
 | x :: l,i + 1,h=>by
  have:=pi hf (l:=l) (i:=i) (by simpa using h)
  rw [List.flatMap_cons,List.drop_append]
  have e : (i + 1) * k - (f x).length = i * k:=by rw [hf,Nat.succ_mul];omega
  rw [e,List.drop_of_length_le (by rw [hf,Nat.succ_mul];omega),List.nil_append,this];rfl
theorem vW {α : Type} {f : α→List AV} {k : Nat} (hf : ∀ x,(f x).length = k) {l : List α} {i : Nat} (h : i < l.length) (j : Nat) (hj : j < k) : (l.flatMap f).getD (i * k + j) .u = (f l[i]).getD j .u:=by
 have e:=congrArg (fun x=>x.getD j .u) (pi hf h)
 simp only [List.getD_eq_getElem?_getD] at e ⊢
 rw [← e,List.getElem?_take,if_pos hj,List.getElem?_drop]
theorem lI {α : Type} {f : α→AV} {l : List α} {i : Nat} (h : i < l.length) : (l.map f).getD i .u = f l[i]:=by
 rw [List.getD_eq_getElem?_getD,List.getElem?_map,List.getElem?_eq_getElem h];rfl
theorem D5 {α : Type} {f : α→List AV} {k : Nat} (hf : ∀ x,(f x).length = k) {l : List α} {i : Nat} (h : i < l.length) (j n : Nat) (hj : j + n≤k) : ((l.flatMap f).drop (i * k + j)).take n = ((f l[i]).drop j).take n:=by
 rw [← pi hf h,List.drop_take,List.take_take,List.drop_drop,Nat.min_eq_left (by omega)]
end Go.Proofs.YtkjnkkmokojnpaaGreatDoor
namespace Go.Proofs.YtkjnkkmokojnpaaGreatDoor
set_option linter.unusedSimpArgs false
set_option linter.unusedVariables false
open Go.RowKit
attribute [go_sem] bs List.size_toArray
@[go_sem] theorem F0 (l : List UInt8) : (ByteArray.mk l.toArray).size = l.length:=rfl
@[go_sem] theorem FW (l : List UInt8) : (ByteArray.mk l.toArray).data.toList = l:=rfl
@[go_sem] theorem Fj (l : List UInt8) : (ByteArray.mk l.toArray).toList = l:=by
 rw [Lib.toList_data]
attribute [go_sem] ByteArray.extract_mk
@[go_sem] theorem EX (l : List UInt8) (a : Nat) : (l.drop a).take (l.length - a) = l.drop a:=List.take_of_length_le (by simp)
theorem BS (l : List UInt8) (c : UInt8) : ∀ w,(callFunc 243 #[.string ⟨l.toArray⟩,.int .u8 (c.toNat : Int)]).run Tryz.prog w = .ok (.value (.int .i64 (Lib.indexByte l c))) w:=fun w=>by
 rw [@run_callFunc_indexByte Tryz.prog 243 _ Tryz.func243 (by kernel_rfl) (by kernel_rfl) (by kernel_rfl) (by kernel_rfl),Lib.run_indexByteString]
 simp [Result.andThen]
def fz : Nat→List Nat
 | 0=>[0,1]
 | 1=>[0,1]
 | _=>[]
set_option maxRecDepth 100000 in
theorem xV (l : List UInt8) (c : UInt8) : AFn Tryz.prog 213 [bs l,.c (.int .u8 (c.toNat : Int))] [] (.c (.int .i64 (Lib.indexByte l c))) []:=by
 refine aC [] Tryz.func213 rfl Tryz.ntmps213 (Nat.le_of_ble_eq_true rfl) (Nat.le_of_ble_eq_true rfl) fun w0 G0 B0 Pr hB0=>?_
 simp only [aJ,aB,List.cons_append,List.nil_append,bs]
 repeat' (first | (with_reducible refine hY _ ?_;clear hY Y) | ((with_reducible first | refine ar rfl (ay fun K' hK'=>aa ?_) | refine hK' _ (ab fun Y hY=>aa ?_) | refine ae tk0 fz (ab fun Y hY=>aa ?_) | refine aa ?_ | refine aq ?_);(try clear hK' K');(try dsimp only [aop]);try simp only [go_sem,seval,-Int.reduceNatCast,-Int.reduceNatCast',fz,Tryz.results213]) | (with_reducible first | refine ag ?_ | refine aj ?_ | refine am ?_ | refine aF fun K hK=>?_ | refine aA ?_) | (with_reducible refine hK _ ?_;clear hK K) | (with_reducible refine D4 (BS l c) ?_))
theorem tv (l : List UInt8) (c : UInt8) : Lib.indexByte l c = if l.contains c then ((l.takeWhile (· != c)).length : Int) else -1:=by
 induction l with
 | nil=>rfl
 | cons b l ih =>
  unfold Lib.indexByte
  by_cases h : b = c
  ·subst h;simp [List.takeWhile_cons]
  ·have h' : ¬ c = b:=fun e=>h e.symm
   rw [ih]
   by_cases hc : l.contains c = true
   ·have hm:=List.contains_iff_mem.1 hc
    have hm2 : c ∈ b :: l:=List.mem_cons_of_mem _ hm
    simp [h,h',hm,List.takeWhile_cons]
   ·have hm : ¬ c ∈ l:=fun e=>hc (List.contains_iff_mem.2 e)
    simp [h,h',hm]
theorem EK {l : List UInt8} {c : UInt8} (h : ¬ l.contains c = true) : l.takeWhile (· != c) = l:=by
 induction l with
 | nil=>rfl
 | cons b l ih =>
  have h1 : b ≠ c:=fun e=>h (by subst e;simp)
  have h2 : ¬ l.contains c = true:=fun e=>h (List.contains_iff_mem.2 (List.mem_cons_of_mem _ (List.contains_iff_mem.1 e)))
  rw [List.takeWhile_cons,if_pos (by simpa using h1),ih h2]
theorem C9 (l : List UInt8) (c : UInt8) : l.take (l.takeWhile (· != c)).length = l.takeWhile (· != c):=(List.prefix_iff_eq_take.1 (List.takeWhile_prefix _)).symm
theorem Fk {l : List UInt8} {c : UInt8} (h : l.contains c = true) : (l.takeWhile (· != c)).length < l.length:=by
 induction l with
 | nil=>simp at h
 | cons b l ih =>
  rw [List.takeWhile_cons]
  split
  ·rename_i hb
   have h2 : l.contains c = true:=by
    have:=List.contains_iff_mem.1 h
    rcases List.mem_cons.1 this with e | e
    ·subst e;simp at hb
    ·exact List.contains_iff_mem.2 e
   have:=ih h2
   simp only [List.length_cons];omega
  ·simp
def dY : Nat→List Nat
 | 0=>[0,1]
 | 1=>[0,1]
 | 2=>[0,1,5]
 | 3=>[]
 | 4=>[0,1,5]
 | 5=>[0,1]
 | 6=>[0,1,5]
 | 7=>[]
 | 8=>[0,1,5]
 | 9=>[0,1]
 | 10=>[0,1,5]
 | 11=>[0,1,5,6]
 | 12=>[0,1,5,6,7]
 | 13=>[0,1,5,6,7,8]
 | 14=>[0,1,5,6,7,8,9]
 | 15=>[0,1,5,6,7,8,9,10]
 | 16=>[0,1,5,6,7,8,9,10]
 | 17=>[0,1,5,6,7,8,9,10]
 | 18=>[0,1,5,6,7,8,9,10,11]
 | 19=>[]
 | 20=>[0,1,5,6,7,8,9,10,11]
 | 21=>[0,1,5,6,7,8,9,10]
 | 22=>[8]
 | 23=>[0,1,5,6,7,8,9,10]
 | 24=>[0,1,5,6,7,8,9,10]
 | 25=>[0,1,5,6,7,8,9,10]
 | 26=>[0,1,8]
 | 27=>[8,12]
 | 28=>[8,12]
 | 29=>[]
 | 30=>[0,1,5,6,7,8,9,10]
 | 31=>[0,1,8]
 | 32=>[8,13]
 | 33=>[]
 | 34=>[8,13]
 | 35=>[]
 | _=>[]
set_option maxRecDepth 100000 in
set_option maxHeartbeats 4000000 in
theorem BT (l : List UInt8) (c : UInt8) : AFn Tryz.prog 216 [bs l,bs [c]] [] (.c (.int .i64 (Lib.indexByte l c))) []:=by
 have hi:=xV l c
 unfold bs at hi
 refine aC [] Tryz.func216 rfl Tryz.ntmps216 (Nat.le_of_ble_eq_true rfl) (Nat.le_of_ble_eq_true rfl) fun w0 G0 B0 Pr hB0=>?_
 simp only [aJ,aB,List.cons_append,List.nil_append,bs]
 by_cases h : [c] = l
 ·subst h
  have h1 : Lib.indexByte [c] c = 0:=by simp [Lib.indexByte]
  rw [h1]
  repeat' (first | (with_reducible refine hY _ ?_;clear hY Y) | ((with_reducible first | refine ar rfl (ay fun K' hK'=>aa ?_) | refine hK' _ (ab fun Y hY=>aa ?_) | refine ba rfl (ab fun Y hY=>aa ?_) | refine ab fun Y hY=>aa ?_ | refine ay fun K' hK'=>aa ?_ | refine ae tk0 dY (ab fun Y hY=>aa ?_) | refine aa ?_ | refine aq ?_);(try clear hK' K');(try dsimp only [aop]);try simp only [go_sem,seval,-Int.reduceNatCast,-Int.reduceNatCast',dY,Tryz.results216,beq_self_eq_true]) | (with_reducible first | refine ag ?_ | refine aK ?_ | refine aj ?_ | refine am ?_ | refine aF fun K hK=>?_ | refine ax ?_ | refine aZ ?_ | refine bh ?_ | refine ap ?_ | refine aA ?_) | (with_reducible refine hK _ ?_;clear hK K) | ((with_reducible first | refine aI ?_ ?_ | refine ai ?_ ?_);(· decide)) | ((with_reducible refine ci (fun hc=>?_) (fun hc=>?_)) <;> (try simp only [decide_eq_true_eq,decide_eq_false_iff_not,Bool.not_true,Bool.not_false,Bool.not_eq_true',Bool.not_eq_false'] at hc) <;> (try (exfalso;omega))) | (with_reducible refine bg (bN _) ?_))
 ·have h1 : ([c] == l) = false:=by simpa using h
  repeat' (first | (with_reducible refine hY _ ?_;clear hY Y) | ((with_reducible first | refine ar rfl (ay fun K' hK'=>aa ?_) | refine hK' _ (ab fun Y hY=>aa ?_) | refine ba rfl (ab fun Y hY=>aa ?_) | refine ab fun Y hY=>aa ?_ | refine ay fun K' hK'=>aa ?_ | refine ae tk0 dY (ab fun Y hY=>aa ?_) | refine aa ?_ | refine aq ?_);(try clear hK' K');(try dsimp only [aop]);try simp only [go_sem,seval,-Int.reduceNatCast,-Int.reduceNatCast',dY,Tryz.results216,h1]) | (with_reducible first | refine ag ?_ | refine aK ?_ | refine aj ?_ | refine am ?_ | refine aF fun K hK=>?_ | refine av ?_ | refine aZ ?_ | refine bh ?_ | refine ap ?_ | refine aA ?_) | (with_reducible refine hK _ ?_;clear hK K) | ((with_reducible first | refine aI ?_ ?_ | refine ai ?_ ?_);(· decide)) | ((with_reducible first | refine ci (fun hc=>?_) (fun hc=>?_) | refine fu (fun hc=>?_) (fun hc=>?_)) <;> (try simp only [decide_eq_true_eq,decide_eq_false_iff_not,Bool.not_true,Bool.not_false,Bool.not_eq_true',Bool.not_eq_false'] at hc) <;> (try (exfalso;omega))) | (with_reducible refine br ?_ ?_;(· (try and_intros) <;> first | omega | assumption | (simp only [List.length_append,List.length_map,List.length_cons,List.length_nil] <;> omega))) | (with_reducible refine bg (bN _) ?_) | (with_reducible refine ac (hi) ?_))
def dP : Nat→List Nat
 | 0=>[0,1]
 | 1=>[0,1]
 | 2=>[0,1,7]
 | 3=>[0,1,7]
 | 4=>[0]
 | _=>[]
def lH : Nat→List Nat
 | 0=>[0,1]
 | 1=>[0,1]
 | _=>[]
def xR (l : List UInt8) (c : UInt8) : AV:=.tup [bs (l.takeWhile (· != c)),bs (l.drop ((l.takeWhile (· != c)).length + 1)),.c (.bool (l.contains c))]
set_option maxRecDepth 100000 in
set_option maxHeartbeats 4000000 in
theorem DX (l : List UInt8) (c : UInt8) (hl : l.length≤4611686018427387904) : AFn Tryz.prog 187 [bs l,bs [c]] [] (xR l c) []:=by
 have hi:=BT l c
 have e:=tv l c
 unfold bs at hi
 unfold xR
 by_cases hcc : l.contains c = true
 ·have hlt:=Fk hcc
  have ht:=C9 l c
  rw [if_pos hcc] at e
  rw [e] at hi
  generalize hn : (l.takeWhile (· != c)).length = n at *
  have h0 : ¬ ((n : Int) < 0):=by omega
  have hw : IntKind.i64.wrap ((n : Int) + ((1 : Nat) : Int)) = ((n + 1 : Nat) : Int):=by rw [bZ (by omega) (by omega)];rfl
  refine aC [] Tryz.func187 rfl Tryz.ntmps187 (Nat.le_of_ble_eq_true rfl) (Nat.le_of_ble_eq_true rfl) fun w0 G0 B0 Pr hB0=>?_
  simp only [aJ,aB,List.cons_append,List.nil_append,bs]
  repeat' (first | (with_reducible refine hY _ ?_;clear hY Y) | ((with_reducible first | refine ar rfl (ay fun K' hK'=>aa ?_) | refine hK' _ (ab fun Y hY=>aa ?_) | refine ab fun Y hY=>aa ?_ | refine ae tk0 dP (ab fun Y hY=>aa ?_) | refine aa ?_ | refine aq ?_ | refine cX rfl (dx fun K' hK'=>aa ?_) | refine hK' _ _ (ab fun Y hY=>aa ?_));(try clear hK' K');(try dsimp only [aop]);try simp only [go_sem,seval,-Int.reduceNatCast,-Int.reduceNatCast',dP,Tryz.results187,h0,hw]) | (with_reducible first | refine ag ?_ | refine aj ?_ | refine am ?_ | refine aF fun K hK=>?_ | refine aZ ?_ | refine aA ?_ | refine bV ?_ | refine eS fun K hK=>?_) | (with_reducible refine hK _ ?_;clear hK K) | (with_reducible refine hK _ _ ?_ ?_;(· kernel_rfl);clear hK K) | ((with_reducible refine ai ?_ ?_);(· decide)) | (with_reducible refine bU tk0 dP ?_ ?_;(· kernel_rfl)) | ((with_reducible refine fu (fun hc=>?_) (fun hc=>?_)) <;> (try simp only [decide_eq_true_eq,decide_eq_false_iff_not,Bool.not_true,Bool.not_false,Bool.not_eq_true',Bool.not_eq_false'] at hc) <;> (try (exfalso;omega))) | (with_reducible refine br ?_ ?_;(· (try and_intros) <;> first | omega | assumption | (simp only [List.length_append,List.length_map,List.length_cons,List.length_nil] <;> omega))) | (with_reducible refine ac (hi) ?_))
  all_goals (simp only [bs,ht,hcc,hn])
 ·rw [if_neg hcc] at e
  rw [e] at hi
  have ht:=EK hcc
  refine aC [] Tryz.func187 rfl Tryz.ntmps187 (Nat.le_of_ble_eq_true rfl) (Nat.le_of_ble_eq_true rfl) fun w0 G0 B0 Pr hB0=>?_
  simp only [aJ,aB,List.cons_append,List.nil_append,bs]
  repeat' (first | (with_reducible refine hY _ ?_;clear hY Y) | ((with_reducible first | refine ar rfl (ay fun K' hK'=>aa ?_) | refine hK' _ (ab fun Y hY=>aa ?_) | refine ab fun Y hY=>aa ?_ | refine ae tk0 dP (ab fun Y hY=>aa ?_) | refine aa ?_ | refine aq ?_);(try clear hK' K');(try dsimp only [aop]);try simp only [go_sem,seval,-Int.reduceNatCast,-Int.reduceNatCast',dP,Tryz.results187]) | (with_reducible first | refine ag ?_ | refine aj ?_ | refine am ?_ | refine aF fun K hK=>?_ | refine av ?_ | refine aD ?_ | refine aA ?_) | (with_reducible refine hK _ ?_;clear hK K) | ((with_reducible refine ai ?_ ?_);(· decide)) | (with_reducible refine ac (hi) ?_))
  rw [ht,Bool.eq_false_iff.2 hcc]
  simp [bs]
set_option maxRecDepth 100000 in
theorem E4 (l : List UInt8) (c : UInt8) (hl : l.length≤4611686018427387904) : AFn Tryz.prog 127 [bs l,bs [c]] [] (xR l c) []:=by
 have h:=DX l c hl
 unfold bs xR bs at h
 unfold xR
 refine aC [] Tryz.func127 rfl Tryz.ntmps127 (Nat.le_of_ble_eq_true rfl) (Nat.le_of_ble_eq_true rfl) fun w0 G0 B0 Pr hB0=>?_
 simp only [aJ,aB,List.cons_append,List.nil_append,bs]
 repeat' (first | (with_reducible refine hY _ ?_;clear hY Y) | ((with_reducible first | refine ar rfl (ay fun K' hK'=>aa ?_) | refine hK' _ (ab fun Y hY=>aa ?_) | refine ae tk0 lH (ab fun Y hY=>aa ?_) | refine aa ?_ | refine aq ?_);(try clear hK' K');(try dsimp only [aop]);try simp only [go_sem,seval,-Int.reduceNatCast,-Int.reduceNatCast',lH,Tryz.results127]) | (with_reducible first | refine ag ?_ | refine aj ?_ | refine am ?_ | refine aF fun K hK=>?_ | refine aA ?_) | (with_reducible refine hK _ ?_;clear hK K) | (with_reducible refine ac (h) ?_))
def dK : Nat→List Nat
 | 0=>[0,1]
 | 1=>[0,1]
 | _=>[]
def iO : Nat→List Nat
 | 0=>[0,1]
 | 1=>[0,1]
 | _=>[]
set_option maxRecDepth 100000 in
set_option maxHeartbeats 4000000 in
theorem xU (l p : List UInt8) : AFn Tryz.prog 186 [bs l,bs p] [] (.c (.bool (p.isPrefixOf l))) []:=by
 have e : p.isPrefixOf l = (decide (p.length≤l.length) && (l.take p.length == p)):=by
  rw [Bool.eq_iff_iff,List.isPrefixOf_iff_prefix,List.prefix_iff_eq_take]
  simp only [Bool.and_eq_true,decide_eq_true_eq,beq_iff_eq]
  constructor
  ·intro h
   have:=congrArg List.length h
   rw [List.length_take] at this
   exact ⟨by omega,h.symm⟩
  ·rintro ⟨_,h⟩;exact h.symm
 rw [e]
 refine aC [] Tryz.func186 rfl Tryz.ntmps186 (Nat.le_of_ble_eq_true rfl) (Nat.le_of_ble_eq_true rfl) fun w0 G0 B0 Pr hB0=>?_
 simp only [aJ,aB,List.cons_append,List.nil_append,bs]
 by_cases h : p.length≤l.length
 ·have h1 : ((p.length : Int)≤(l.length : Int)) = True:=by simp;omega
  repeat' (first | (with_reducible refine hY _ ?_;clear hY Y) | ((with_reducible first | refine ar rfl (ay fun K' hK'=>aa ?_) | refine hK' _ (ab fun Y hY=>aa ?_) | refine ba rfl (ab fun Y hY=>aa ?_) | refine ab fun Y hY=>aa ?_ | refine ay fun K' hK'=>aa ?_ | refine ae tk0 dK (ab fun Y hY=>aa ?_) | refine aa ?_ | refine aq ?_);(try clear hK' K');(try dsimp only [aop]);try simp only [go_sem,seval,-Int.reduceNatCast,-Int.reduceNatCast',dK,Tryz.results186,h1]) | (with_reducible first | refine ag ?_ | refine aK ?_ | refine aj ?_ | refine am ?_ | refine aF fun K hK=>?_ | refine aA ?_) | (with_reducible refine hK _ ?_;clear hK K) | ((with_reducible refine aI ?_ ?_);(· decide)) | (with_reducible refine br ?_ ?_;(· (try and_intros) <;> first | omega | assumption | (simp only [List.length_append,List.length_map,List.length_cons,List.length_nil] <;> omega))) | (with_reducible refine bg (bN _) ?_))
  all_goals (simp [h])
 ·have h1 : ((p.length : Int)≤(l.length : Int)) = False:=by simp;omega
  repeat' (first | (with_reducible refine hY _ ?_;clear hY Y) | ((with_reducible first | refine ar rfl (ay fun K' hK'=>aa ?_) | refine hK' _ (ab fun Y hY=>aa ?_) | refine ba rfl (ab fun Y hY=>aa ?_) | refine ab fun Y hY=>aa ?_ | refine ae tk0 dK (ab fun Y hY=>aa ?_) | refine aa ?_ | refine aq ?_);(try clear hK' K');(try dsimp only [aop]);try simp only [go_sem,seval,-Int.reduceNatCast,-Int.reduceNatCast',dK,Tryz.results186,h1]) | (with_reducible first | refine ag ?_ | refine aW rfl ?_ | refine dc ?_ ?_ | refine aj ?_ | refine am ?_ | refine aF fun K hK=>?_ | refine aA ?_) | (with_reducible refine hK _ ?_;clear hK K) | ((with_reducible refine aI ?_ ?_);(· decide)))
  all_goals (simp [h])
set_option maxRecDepth 100000 in
theorem uM (l p : List UInt8) : AFn Tryz.prog 126 [bs l,bs p] [] (.c (.bool (p.isPrefixOf l))) []:=by
 have h:=xU l p
 unfold bs at h
 refine aC [] Tryz.func126 rfl Tryz.ntmps126 (Nat.le_of_ble_eq_true rfl) (Nat.le_of_ble_eq_true rfl) fun w0 G0 B0 Pr hB0=>?_
 simp only [aJ,aB,List.cons_append,List.nil_append,bs]
 repeat' (first | (with_reducible refine hY _ ?_;clear hY Y) | ((with_reducible first | refine ar rfl (ay fun K' hK'=>aa ?_) | refine hK' _ (ab fun Y hY=>aa ?_) | refine ae tk0 iO (ab fun Y hY=>aa ?_) | refine aa ?_ | refine aq ?_);(try clear hK' K');(try dsimp only [aop]);try simp only [go_sem,seval,-Int.reduceNatCast,-Int.reduceNatCast',iO,Tryz.results126]) | (with_reducible first | refine ag ?_ | refine aj ?_ | refine am ?_ | refine aF fun K hK=>?_ | refine aA ?_) | (with_reducible refine hK _ ?_;clear hK K) | (with_reducible refine ac (h) ?_))
end Go.Proofs.YtkjnkkmokojnpaaGreatDoor
namespace Go.Proofs.YtkjnkkmokojnpaaGreatDoor
set_option linter.unusedSimpArgs false
set_option linter.unusedVariables false
open Go.RowKit
def xW (ks : List (List UInt8)) (x : List UInt8) : Int:=if ks.contains x then (ks.idxOf x : Int) else -1
theorem BN {ks : List (List UInt8)} {x : List UInt8} {k : Nat} (hk : k < ks.length) (h : ∀ j (hj : j < ks.length),j < k→ks[j] ≠ x) (e : ks[k] = x) : xW ks x = k:=by
 have hm : x ∈ ks:=by rw [← e];exact List.getElem_mem hk
 unfold xW
 rw [if_pos (List.contains_iff_mem.2 hm)]
 congr 1
 induction ks generalizing k with
 | nil=>simp at hk
 | cons y ks ih =>
  cases k with
  | zero=>simp at e;subst e;simp
  | succ k =>
   have h0 : y ≠ x:=h 0 (by simp) (by omega)
   simp only [List.getElem_cons_succ] at e
   have hk' : k < ks.length:=by simpa using hk
   rw [List.idxOf_cons,beq_eq_false_iff_ne.2 h0,cond_false,ih hk' (fun j hj hjk=>h (j + 1) (Nat.succ_lt_succ hj) (by omega)) e (by rw [← e];exact List.getElem_mem hk')]
theorem wX {ks : List (List UInt8)} {x : List UInt8} (h : ∀ j (hj : j < ks.length),ks[j] ≠ x) : xW ks x = -1∧ks.contains x = false:=by
 have hm : ¬ ks.contains x = true:=fun e=>by
  obtain ⟨j,hj,e⟩:=List.getElem_of_mem (List.contains_iff_mem.1 e)
  exact h j hj e
 exact ⟨if_neg hm,Bool.eq_false_iff.2 hm⟩
theorem BO (ks : List (List UInt8)) (x : List UInt8) : decide (0≤xW ks x) = ks.contains x:=by
 unfold xW
 by_cases h : ks.contains x = true
 ·rw [if_pos h,h];simp
 ·rw [if_neg h,Bool.eq_false_iff.2 h];rfl
def cH : Nat→List Nat
 | 0=>[0,1]
 | 1=>[0,1]
 | 2=>[0,1,7,8]
 | 3=>[0,1,7,8]
 | 4=>[0,1,5,7,8]
 | 5=>[5]
 | 6=>[0,1,7,8]
 | 7=>[]
 | _=>[]
set_option maxRecDepth 100000 in
set_option maxHeartbeats 4000000 in
theorem Aq (ks : List (List UInt8)) (x : List UInt8) (hl : ks.length≤4611686018427387904) : AFn Tryz.prog 157 [.sl (ks.map bs) ks.length .none,bs x] [] (.c (.int .i64 (xW ks x))) []:=by
 refine aC [] Tryz.func157 rfl Tryz.ntmps157 (Nat.le_of_ble_eq_true rfl) (Nat.le_of_ble_eq_true rfl) fun w0 G0 B0 Pr hB0=>?_
 simp only [aJ,aB,List.cons_append,List.nil_append]
 repeat' (first | (with_reducible refine hY _ ?_;clear hY Y) | ((with_reducible first | refine ar rfl (ay fun K' hK'=>aa ?_) | refine hK' _ (ab fun Y hY=>aa ?_) | refine ae tk0 cH (ab fun Y hY=>aa ?_));(try clear hK' K');(try dsimp only [aop]);try simp only [go_sem,seval,-Int.reduceNatCast,-Int.reduceNatCast',cH,Tryz.results157]) | (with_reducible first | refine ag ?_ | refine aj ?_ | refine am ?_ | refine aF fun K hK=>?_ | refine ap ?_ | refine bW ?_) | (with_reducible refine hK _ ?_;clear hK K))
 refine b9 (α:=Nat) (fun k=>[(0,.sl (ks.map bs) ks.length .none),(1,bs x),(7,.c (.int .i64 (ks.length : Int))),(8,.c (.int .i64 (k : Int)))])
  (fun k=>k≤ks.length∧∀ j (hj : j < ks.length),j < k→ks[j] ≠ x) (fun k=>ks.length - k) 0 [0,1,7,8] ?_ ⟨Nat.zero_le _,fun j _ h=>absurd h (by omega)⟩ ?_
 ·simp only [go_sem,seval,-Int.reduceNatCast,-Int.reduceNatCast'] <;> rfl
 rintro k ⟨hk,hall⟩ ih
 have hkw : k < ks.length→IntKind.i64.wrap ((k : Int) + 1) = ((k + 1 : Nat) : Int):=fun h=>by rw [bZ (by omega) (by omega)];rfl
 by_cases hlt : k < ks.length
 ·have hlt' : ((k : Int) < (ks.length : Int)) = True:=by simp;omega
  have hat:=lI (f:=bs) hlt
  have hkw:=hkw hlt
  by_cases he : ks[k] = x
  ·have hb : (x == ks[k]) = true:=by simp [he]
   rw [BN hlt hall he]
   repeat' (first | (with_reducible refine hY _ ?_;clear hY Y) | ((with_reducible first | refine ar rfl (ay fun K' hK'=>aa ?_) | refine hK' _ (ab fun Y hY=>aa ?_) | refine ab fun Y hY=>aa ?_ | refine ae tk0 cH (ab fun Y hY=>aa ?_) | refine aa ?_ | refine aq ?_);(try clear hK' K');(try dsimp only [aop]);try simp only [go_sem,seval,-Int.reduceNatCast,-Int.reduceNatCast',cH,Tryz.results157,hlt',hat,hb]) | (with_reducible first | refine ag ?_ | refine aj ?_ | refine am ?_ | refine aF fun K hK=>?_ | refine ax ?_ | refine aZ ?_ | refine bh ?_ | refine ap ?_ | refine aD ?_ | refine aA ?_) | (with_reducible refine hK _ ?_;clear hK K) | ((with_reducible refine ai ?_ ?_);(· decide)) | (with_reducible refine br ?_ ?_;(· (try and_intros) <;> first | omega | assumption | (simp only [List.length_append,List.length_map,List.length_cons,List.length_nil] <;> omega))) | (with_reducible refine bg (bN _) ?_))
  ·have hb : (x == ks[k]) = false:=by simpa using fun h=>he h.symm
   repeat' (first | (with_reducible refine hY _ ?_;clear hY Y) | ((with_reducible first | refine ar rfl (ay fun K' hK'=>aa ?_) | refine hK' _ (ab fun Y hY=>aa ?_) | refine ab fun Y hY=>aa ?_ | refine ae tk0 cH (ab fun Y hY=>aa ?_) | refine aa ?_);(try clear hK' K');(try dsimp only [aop]);try simp only [go_sem,seval,-Int.reduceNatCast,-Int.reduceNatCast',cH,Tryz.results157,hlt',hat,hb,hkw]) | (with_reducible first | refine ag ?_ | refine aj ?_ | refine am ?_ | refine aF fun K hK=>?_ | refine ax ?_ | refine av ?_ | refine aR ?_ | refine ap ?_ | refine aD ?_) | (with_reducible refine hK _ ?_;clear hK K) | ((with_reducible refine ai ?_ ?_);(· decide)) | (with_reducible refine br ?_ ?_;(· (try and_intros) <;> first | omega | assumption | (simp only [List.length_append,List.length_map,List.length_cons,List.length_nil] <;> omega))) | (with_reducible refine bg (bN _) ?_))
   refine bi [0,1,7,8] (by simp only [go_sem,seval,-Int.reduceNatCast,-Int.reduceNatCast'];exact rfl) ?_
   exact ih (k + 1) ⟨by omega,fun j hj hjk=>by
    by_cases e : j = k
    ·subst e;exact he
    ·exact hall j hj (by omega)⟩ (by omega)
 ·have hlt' : ((k : Int) < (ks.length : Int)) = False:=by simp;omega
  rw [(wX fun j hj=>hall j hj (by omega)).1]
  repeat' (first | (with_reducible refine hY _ ?_;clear hY Y) | ((with_reducible first | refine ar rfl (ay fun K' hK'=>aa ?_) | refine hK' _ (ab fun Y hY=>aa ?_) | refine ab fun Y hY=>aa ?_ | refine ae tk0 cH (ab fun Y hY=>aa ?_) | refine aa ?_ | refine aq ?_);(try clear hK' K');(try dsimp only [aop]);try simp only [go_sem,seval,-Int.reduceNatCast,-Int.reduceNatCast',cH,Tryz.results157,hlt']) | (with_reducible first | refine ag ?_ | refine aj ?_ | refine am ?_ | refine aF fun K hK=>?_ | refine av ?_ | refine cf ?_ | refine bI ?_ | refine aA ?_ | refine bH ?_) | (with_reducible refine hK _ ?_;clear hK K) | ((with_reducible refine ai ?_ ?_);(· decide)))
def fH : Nat→List Nat
 | 0=>[0,1]
 | 1=>[0,1]
 | _=>[]
set_option maxRecDepth 100000 in
theorem u5 (ks : List (List UInt8)) (x : List UInt8) (hl : ks.length≤4611686018427387904) : AFn Tryz.prog 70 [.sl (ks.map bs) ks.length .none,bs x] [] (.c (.bool (ks.contains x))) []:=by
 have h:=Aq ks x hl
 have e:=BO ks x
 refine aC [] Tryz.func70 rfl Tryz.ntmps70 (Nat.le_of_ble_eq_true rfl) (Nat.le_of_ble_eq_true rfl) fun w0 G0 B0 Pr hB0=>?_
 simp only [aJ,aB,List.cons_append,List.nil_append]
 repeat' (first | (with_reducible refine hY _ ?_;clear hY Y) | ((with_reducible first | refine ar rfl (ay fun K' hK'=>aa ?_) | refine hK' _ (ab fun Y hY=>aa ?_) | refine ae tk0 fH (ab fun Y hY=>aa ?_) | refine aa ?_ | refine aq ?_);(try clear hK' K');(try dsimp only [aop]);try simp only [go_sem,seval,-Int.reduceNatCast,-Int.reduceNatCast',fH,Tryz.results70,e]) | (with_reducible first | refine ag ?_ | refine aj ?_ | refine am ?_ | refine aF fun K hK=>?_ | refine aA ?_) | (with_reducible refine hK _ ?_;clear hK K) | (with_reducible refine ac (h) ?_))
def keyL : List (List UInt8):=[[112,114,111,99],[114,101,113,117,105,114,101,115],[101,110,115,117,114,101,115],[115,107,105,112],[112,117,116],[103,101,116],[110,101,119],[102,114,101,101],[105,102],[101,108,115,101],[119,104,105,108,101],[105,110,118,97,114,105,97,110,116],[97,115,115,101,114,116],[99,97,108,108],[116,114,117,101],[102,97,108,115,101],[101,109,112],[97,99,99],[112,116,115]]
theorem zR : DO = keyL.map bs:=rfl
def jd : Nat→List Nat
 | 0=>[0]
 | 1=>[0]
 | _=>[]
set_option maxRecDepth 100000 in
theorem DN (x : List UInt8) : AFn Tryz.prog 107 [bs x] [] (.c (.bool (keyL.contains x))) []:=by
 have h:=u5 keyL x (by decide)
 rw [← zR,show keyL.length = 19 from rfl] at h
 refine aC [] Tryz.func107 rfl Tryz.ntmps107 (Nat.le_of_ble_eq_true rfl) (Nat.le_of_ble_eq_true rfl) fun w0 G0 B0 Pr hB0=>?_
 simp only [aJ,aB,List.cons_append,List.nil_append]
 repeat' (first | (with_reducible refine hY _ ?_;clear hY Y) | ((with_reducible first | refine ar rfl (ay fun K' hK'=>aa ?_) | refine hK' _ (ab fun Y hY=>aa ?_) | refine ae tk0 jd (ab fun Y hY=>aa ?_) | refine aa ?_ | refine aq ?_);(try clear hK' K');(try dsimp only [aop]);try simp only [go_sem,seval,-Int.reduceNatCast,-Int.reduceNatCast',jd,Tryz.results107]) | (with_reducible first | refine ag ?_ | refine aj ?_ | refine am ?_ | refine aF fun K hK=>?_ | refine aA ?_) | (with_reducible refine hK _ ?_;clear hK K) | (with_reducible refine ac (h) ?_))
def cT : Nat→List Nat
 | 0=>[0]
 | 1=>[0]
 | 2=>[0,3]
 | 3=>[0,3,4]
 | 4=>[0,3,4]
 | 5=>[0,3,4]
 | 6=>[]
 | 7=>[]
 | _=>[]
set_option maxRecDepth 100000 in
set_option maxHeartbeats 4000000 in
theorem Eo (x : List UInt8) : AFn Tryz.prog 119 [bs x] [] (.c (.bool (keyL.contains x))) []:=by
 refine aC [] Tryz.func119 rfl Tryz.ntmps119 (Nat.le_of_ble_eq_true rfl) (Nat.le_of_ble_eq_true rfl) fun w0 G0 B0 Pr hB0=>?_
 simp only [aJ,aB,List.cons_append,List.nil_append]
 repeat' (first | (with_reducible refine hY _ ?_;clear hY Y) | ((with_reducible first | refine ar rfl (ay fun K' hK'=>aa ?_) | refine hK' _ (ab fun Y hY=>aa ?_) | refine ae tk0 cT (ab fun Y hY=>aa ?_));(try clear hK' K');(try dsimp only [aop]);try simp only [go_sem,seval,-Int.reduceNatCast,-Int.reduceNatCast',cT,Tryz.results119]) | (with_reducible first | refine ag ?_ | refine aj ?_ | refine am ?_ | refine aF fun K hK=>?_ | refine ap ?_ | refine bW ?_) | (with_reducible refine hK _ ?_;clear hK K))
 refine b9 (α:=Nat) (fun k=>[(0,bs x),(3,.sl (keyL.map bs) 19 .full),(4,.c (.int .i64 (k : Int)))])
  (fun k=>k≤19∧∀ j (hj : j < keyL.length),j < k→keyL[j] ≠ x) (fun k=>19 - k) 0 [0,3,4] ?_ ⟨Nat.zero_le _,fun j _ h=>absurd h (by omega)⟩ ?_
 ·simp only [go_sem,seval,-Int.reduceNatCast,-Int.reduceNatCast'] <;> rfl
 have hkl : keyL.length = 19:=rfl
 rintro k ⟨hk,hall⟩ ih
 have hkw : k < 19→IntKind.i64.wrap ((k : Int) + 1) = ((k + 1 : Nat) : Int):=fun h=>by rw [bZ (by omega) (by omega)];rfl
 by_cases hlt : k < 19
 ·have hlt' : ((k : Int) < ((19 : Nat) : Int)) = True:=by simp;omega
  have hat:=lI (f:=bs) (l:=keyL) (i:=k) (by omega)
  have hkw:=hkw hlt
  have hge : keyL[k] ∈ keyL:=List.getElem_mem _
  have hce : ∀ j (hj : j < keyL.length),j = k→keyL[j] = keyL[k]:=fun j hj e=>by subst e;rfl
  generalize keyL[k] = y at *
  by_cases he : y = x
  ·have hb : (y == x) = true:=by simp [he]
   rw [show keyL.contains x = true from List.contains_iff_mem.2 (by rw [← he];exact hge)]
   repeat' (first | (with_reducible refine hY _ ?_;clear hY Y) | ((with_reducible first | refine ar rfl (ay fun K' hK'=>aa ?_) | refine hK' _ (ab fun Y hY=>aa ?_) | refine ab fun Y hY=>aa ?_ | refine ae tk0 cT (ab fun Y hY=>aa ?_) | refine aa ?_ | refine aq ?_);(try clear hK' K');(try dsimp only [aop]);try simp only [go_sem,seval,-Int.reduceNatCast,-Int.reduceNatCast',cT,Tryz.results119,hlt',hat,hb]) | (with_reducible first | refine ag ?_ | refine aj ?_ | refine am ?_ | refine aF fun K hK=>?_ | refine ax ?_ | refine aZ ?_ | refine bh ?_ | refine ap ?_ | refine aD ?_ | refine aA ?_) | (with_reducible refine hK _ ?_;clear hK K) | ((with_reducible refine ai ?_ ?_);(· decide)) | (with_reducible refine br ?_ ?_;(· (try and_intros) <;> first | omega | assumption | (simp only [List.length_append,List.length_map,List.length_cons,List.length_nil] <;> omega))) | (with_reducible refine bg (bN _) ?_))
  ·have hb : (y == x) = false:=by simpa using he
   repeat' (first | (with_reducible refine hY _ ?_;clear hY Y) | ((with_reducible first | refine ar rfl (ay fun K' hK'=>aa ?_) | refine hK' _ (ab fun Y hY=>aa ?_) | refine ab fun Y hY=>aa ?_ | refine ae tk0 cT (ab fun Y hY=>aa ?_) | refine aa ?_);(try clear hK' K');(try dsimp only [aop]);try simp only [go_sem,seval,-Int.reduceNatCast,-Int.reduceNatCast',cT,Tryz.results119,hlt',hat,hb,hkw]) | (with_reducible first | refine ag ?_ | refine aj ?_ | refine am ?_ | refine aF fun K hK=>?_ | refine ax ?_ | refine av ?_ | refine aR ?_ | refine ap ?_ | refine aD ?_) | (with_reducible refine hK _ ?_;clear hK K) | ((with_reducible refine ai ?_ ?_);(· decide)) | (with_reducible refine br ?_ ?_;(· (try and_intros) <;> first | omega | assumption | (simp only [List.length_append,List.length_map,List.length_cons,List.length_nil] <;> omega))) | (with_reducible refine bg (bN _) ?_))
   refine bi [0,3,4] (by simp only [go_sem,seval,-Int.reduceNatCast,-Int.reduceNatCast'];exact rfl) ?_
   exact ih (k + 1) ⟨by omega,fun j hj hjk=>by
    by_cases e : j = k
    ·rw [hce j hj e];exact he
    ·exact hall j hj (by omega)⟩ (by omega)
 ·have hlt' : ((k : Int) < ((19 : Nat) : Int)) = False:=by simp;omega
  rw [(wX fun j hj=>hall j hj (by omega)).2]
  repeat' (first | (with_reducible refine hY _ ?_;clear hY Y) | ((with_reducible first | refine ar rfl (ay fun K' hK'=>aa ?_) | refine hK' _ (ab fun Y hY=>aa ?_) | refine ab fun Y hY=>aa ?_ | refine ae tk0 cT (ab fun Y hY=>aa ?_) | refine aa ?_ | refine aq ?_);(try clear hK' K');(try dsimp only [aop]);try simp only [go_sem,seval,-Int.reduceNatCast,-Int.reduceNatCast',cT,Tryz.results119,hlt',hkl]) | (with_reducible first | refine ag ?_ | refine aj ?_ | refine am ?_ | refine aF fun K hK=>?_ | refine av ?_ | refine cf ?_ | refine bI ?_ | refine aA ?_ | refine bH ?_) | (with_reducible refine hK _ ?_;clear hK K) | ((with_reducible refine ai ?_ ?_);(· decide)))
end Go.Proofs.YtkjnkkmokojnpaaGreatDoor
