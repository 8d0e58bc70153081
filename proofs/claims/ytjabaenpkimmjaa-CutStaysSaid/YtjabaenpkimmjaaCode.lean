/- The number of an error, in K. -/
import Derived.Test.YtjabaenpkimmjaaKV
namespace Go.Proofs.Ytjabaenpkimmjaa
set_option linter.unusedSimpArgs false
set_option linter.unusedVariables false
open Go.RowKit
def codeA (e : Nat) : AV := if e = 0 then .c .nilIface else .ifc 42 (.c (.int .i64 (e : Int)))
theorem codeA_0 : codeA 0 = .c .nilIface := rfl
theorem codeA_pos {e : Nat} (h : e ≠ 0) : codeA e = .ifc 42 (.c (.int .i64 (e : Int))) := if_neg h
@[go_sem] theorem ren_code (g : List (Nat × Nat)) (k e : Nat) : ren g (k + 2) (codeA e) = codeA e := by
  unfold codeA; split <;> rfl
@[go_sem] theorem hasRef_code (b k e : Nat) : hasRef b (k + 2) (codeA e) = false := by
  unfold codeA; split <;> rfl
@[go_sem] theorem one_code (e : Nat) : (codeA e).one = true := by
  unfold codeA; split <;> rfl
@[go_sem] theorem cells_code (e : Nat) : cellsOfA (codeA e) = [codeA e] := by
  unfold codeA; split <;> rfl
@[go_sem] theorem expA_code (ex : List Nat) (σ : AMap) (k e : Nat) : expA ex σ (k + 2) (codeA e) = codeA e := by
  unfold codeA; split <;> rfl
@[go_sem] theorem names_code (tk : Bool) (k e : Nat) : names tk (k + 2) (codeA e) = [] := by
  unfold codeA; split <;> rfl
theorem code_infoK : (Try.prog.info? 42).map (fun i => i.comparable) = some true := by kernel_rfl
set_option maxRecDepth 100000 in
theorem eql_code (a b : Int) : ∀ w, (((pure () : Sem Unit) >>= fun _ => binOp .eql 30 (.iface 42 (.int .i64 a)) (.iface 42 (.int .i64 b))) : Sem Value).run Try.prog w = .ok (.bool (a == b)) w := fun w => by
  have := Go.Lib.run_eql_iface_int w (k := .i64) a b Try.underlying30 code_infoK Try.underlying42
  rw [Sem.run_bind]
  exact this
set_option maxRecDepth 100000 in
theorem eql_nil : ∀ w, (((pure () : Sem Unit) >>= fun _ => binOp .eql 30 .nilIface .nilIface) : Sem Value).run Try.prog w = .ok (.bool true) w := fun w => by
  have ht := Try.underlying30
  have h : ∀ d : Nat, (Op.equalIn (d + 2) 30 .nilIface .nilIface).run Try.prog w = .ok true w := fun d => by
    simp [Op.equalIn, run_underlying ht]
  have h2 : (binOp .eql 30 .nilIface .nilIface).run Try.prog w = .ok (.bool true) w := by
    simp only [binOp]
    simp [Op.equal, Op.maxDepth, h 9998]
  rw [Sem.run_bind]
  exact h2
set_option maxRecDepth 100000 in
theorem neq_nil : ∀ w, (((pure () : Sem Unit) >>= fun _ => binOp .neq 30 .nilIface .nilIface) : Sem Value).run Try.prog w = .ok (.bool false) w := fun w => by
  have ht := Try.underlying30
  have h : ∀ d : Nat, (Op.equalIn (d + 2) 30 .nilIface .nilIface).run Try.prog w = .ok true w := fun d => by
    simp [Op.equalIn, run_underlying ht]
  have h2 : (binOp .neq 30 .nilIface .nilIface).run Try.prog w = .ok (.bool false) w := by
    simp only [binOp]
    simp [Op.equal, Op.maxDepth, h 9998]
  rw [Sem.run_bind]
  exact h2
def lv_trammel_trammellaw00_Code : Nat → List Nat
  | 0 => [0]
  | 1 => [0]
  | 2 => []
  | 3 => [0]
  | 4 => [0, 3]
  | 5 => [0, 3]
  | 6 => [0, 3]
  | 7 => [3]
  | 8 => []
  | _ => []
end Go.Proofs.Ytjabaenpkimmjaa
