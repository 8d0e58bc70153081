/- The head's example of layer 10 in K, by the contract of cert.Check. CertStays in K. Certificates, read as arguments. Cert: the laid variable of the rows that tell errors. -/
import Derived.Test.YtmpdocplcgbpkaaGreatDoorZ31
import Derived.Test.YtmpdocplcgbpkaaGreatDoorZ33
import Derived.Test.YtmpdocplcgbpkaaGreatDoorZ9
import Derived.Test.YtmpdocplcgbpkaaGreatDoorZ8
import Derived.Test.YtmpdocplcgbpkaaGreatDoorZ6
import Derived.LaidLaws
import Derived.LaidHandle
import Derived.LaidMore
namespace Go.Proofs.YtmpdocplcgbpkaaGreatDoor
set_option linter.unusedSimpArgs false
set_option linter.unusedVariables false
open Go.RowKit
theorem zZ (k : Int) : OkF (.mk k ⟨0,[]⟩ []):=⟨eV,eV,trivial⟩
theorem xP : kp (.mk 1 ⟨0,[]⟩ []) ⟨[],[[]]⟩ = (0,-1):=by decide +kernel
theorem xQ : kp (.mk 0 ⟨0,[]⟩ []) ⟨[],[[]]⟩ = (9,0):=by decide +kernel
abbrev fK0 (z : Int) : List AV:=[inA z,inA 0,.sl [] 0 .full,.sl [] 0 .full]
abbrev cE0 : List AV:=[.sl [] 0 .full,.sl [.sl [] 0 .full] 1 .full]
theorem Al : AFn Tryz.prog 8 [.agg (fK0 1),.agg cE0] [] (.c .nilIface) []:=by
 have h:=rS (.mk 1 ⟨0,[]⟩ []) ⟨[],[[]]⟩ (zZ 1) (fun l hl=>absurd hl List.not_mem_nil) (by simp) (by simp) (fun c hc=>by simp at hc;subst hc;exact eV)
 rw [xP] at h
 exact hJ 8 h rfl
theorem Am : AFn Tryz.prog 8 [.agg (fK0 0),.agg cE0] [] (iy 0 9) []:=by
 have h:=rS (.mk 0 ⟨0,[]⟩ []) ⟨[],[[]]⟩ (zZ 0) (fun l hl=>absurd hl List.not_mem_nil) (by simp) (by simp) (fun c hc=>by simp at hc;subst hc;exact eV)
 rw [xQ] at h
 exact hJ 8 h rfl
def eF : Nat→List Nat
 | 0=>[]
 | 1=>[]
 | 2=>[1]
 | 3=>[1,2]
 | 4=>[2,3]
 | _=>[]
theorem BO : IntKind.i64.wrap 0 = 0:=rfl
set_option maxRecDepth 100000 in
set_option maxHeartbeats 8000000 in
theorem ni : AFn Tryz.prog 6 [] [] (.c (.bool true)) []:=by
 have hp:=Am
 have hi : AFn Tryz.prog 14 [iy 0 9,inA 0,inA 9] [] (.c (.bool true)) []:=uD 0 0 9 9 (by decide)
 unfold iy at hp hi
 rw [xS] at hp hi
 have hn:=Al
 refine aD [] Tryz.func6 rfl Tryz.ntmps6 (Nat.le_of_ble_eq_true rfl) (Nat.le_of_ble_eq_true rfl) fun w0 G0 B0 Pr hB0=>?_
 simp only [aO,aA,List.cons_append,List.nil_append]
 repeat' (first | (with_reducible refine hY _ ?_;clear hY Y) | ((with_reducible first | refine an rfl (ar fun K' hK'=>aa ?_) | refine hK' _ (ab fun Y hY=>aa ?_) | refine bl rfl (ab fun Y hY=>aa ?_) | refine ab fun Y hY=>aa ?_ | refine ar fun K' hK'=>aa ?_ | refine ae tk0 eF (ab fun Y hY=>aa ?_) | refine aa ?_ | refine ao ?_);(try clear hK' K');(try dsimp only [aop]);try simp only [go_sem,↓reduceIte,Nat.reduceEqDiff,Nat.reduceLT,Nat.reduceLeDiff,Nat.reduceAdd,Nat.reduceSub,Nat.reduceMul,Nat.reduceBEq,Nat.reduceBNe,Nat.reducePow,Int.reduceToNat,Int.reduceLE,Int.reduceLT,Int.reduceMul,Int.reduceEq,Int.reducePow,Int.reduceAdd,Int.reduceSub,Int.reduceNeg,reduceCtorEq,eF,Tryz.results6,BO]) | (with_reducible first | refine af ?_ | refine aL ?_ | refine ai ?_ | refine aj ?_ | refine ay fun K hK=>?_ | refine au ?_) | (with_reducible refine hK _ ?_;clear hK K) | ((with_reducible refine aG ?_ ?_);(· decide)) | (with_reducible refine ah (hn) ?_) | (with_reducible refine ah (hp) ?_) | (with_reducible refine ah (hi) ?_) | (with_reducible refine ce (dM) ?_))
end Go.Proofs.YtmpdocplcgbpkaaGreatDoor
namespace Go.Proofs.YtmpdocplcgbpkaaGreatDoor
set_option linter.unusedSimpArgs false
set_option linter.unusedVariables false
open Go.RowKit
theorem A8 {f : Fo} {c : Crt} (h : smC f c = true) : (c.lems.length≤40∧c.refute.length≤60∧(∀ l ∈ c.lems,l.lits.length≤40∧l.steps.length≤60)∧∀ r ∈ c.refute,r.length≤60)∧0≤lgF f 400 200:=by
 unfold smC ltC at h
 simp only [Bool.and_eq_true,decide_eq_true_eq] at h
 obtain ⟨⟨h1,h2,h3,h4⟩,h5⟩:=h
 refine ⟨⟨h1,h2,fun l hl=>?_,fun r hr=>?_⟩,h5⟩
 ·have:=List.all_eq_true.1 h3 l hl
  unfold ltL at this
  simp only [Bool.and_eq_true,decide_eq_true_eq] at this
  exact ⟨this.1,this.2.1⟩
 ·have:=List.all_eq_true.1 h4 r hr
  simpa using this
end Go.Proofs.YtmpdocplcgbpkaaGreatDoor
namespace Go.Proofs.YtmpdocplcgbpkaaGreatDoor
set_option linter.unusedSimpArgs false
set_option linter.unusedVariables false
open Go.RowKit Go.ChangeShapes Go.WideShapes
instance : Inhabited Stp:=⟨⟨[],0⟩⟩
instance : Inhabited Lem:=⟨⟨[],[]⟩⟩
section
variable {H : Type} {enc : TypeId × Value→H} {w : World} {base : Nat} {spare : Nat→Bool} {held : Bool}
theorem zd (fuel : Nat) : Reads enc Tryz.prog w base spare held 181 tmA (fun _=>True) fuel :=
 (ed Tryz.underlying181 rfl (n0:=1) (by kernel_rfl) rfl (n1:=1) (by kernel_rfl) (by kernel_rfl) (fun n _=>pF n) (fun n _=>pF n)).map id (fun _=>rfl) fun _ _=>trivial
theorem zf (fuel : Nat) : Reads enc Tryz.prog w base spare held 83 m6 (fun s=>Lg s.parts) fuel :=
 (ed Tryz.underlying83 rfl (n0:=1) (by kernel_rfl) rfl (n1:=1) (by kernel_rfl) (by kernel_rfl)
  (fun n _=>dX Tryz.underlying81 (s:=2) (by kernel_rfl) (of_decide_eq_true (by kernel_rfl)) (by decide) (fun _=>rfl) fun n _=>zd n) (fun n _=>pF n)).map (fun p=>(⟨p.1,p.2⟩ : Stp)) (fun p=>by show [AV.sl (aJ p.1) p.1.length .none,inA p.2] = _;rw [ec];rfl)
  fun _ h=>nW (of_decide_eq_true (by kernel_rfl)) h.1.2
theorem wZ (fuel : Nat) : Reads enc Tryz.prog w base spare held 42 (fun l=>[kN l]) pW fuel :=
 (dX Tryz.underlying42 (s:=2) (by kernel_rfl) (of_decide_eq_true (by kernel_rfl)) (by decide) (fun _=>rfl) fun n _=>zf n).map id (fun _=>rfl) fun _ h=>⟨nW (of_decide_eq_true (by kernel_rfl)) h.2,h.1⟩
theorem qM (fuel : Nat) : Reads enc Tryz.prog w base spare held 41 (fun c : List Int=>[.sl (c.map inA) c.length .none]) Lg fuel :=
 (dX Tryz.underlying41 (s:=1) (by kernel_rfl) (of_decide_eq_true (by kernel_rfl)) (by decide) (fun _=>rfl) fun n _=>pF n).map id (fun l=>by rw [← mq inA l];rfl)
  fun l h=>nW (of_decide_eq_true (by kernel_rfl)) h.2
theorem AR (fuel : Nat) : Reads enc Tryz.prog w base spare held 44 mC (fun l=>Lg l.lits∧pW l.steps) fuel :=
 (ed Tryz.underlying44 rfl (n0:=1) (by kernel_rfl) rfl (n1:=1) (by kernel_rfl) (by kernel_rfl)
  (fun n _=>qM n) (fun n _=>wZ n)).map (fun p=>(⟨p.1,p.2⟩ : Lem)) (fun p=>rfl) fun _ h=>h
theorem ze (fuel : Nat) : Reads enc Tryz.prog w base spare held 29 (fun l : List (List Int)=>[csA l]) (fun l=>Lg l∧∀ c ∈ l,Lg c) fuel :=
 (dX Tryz.underlying29 (s:=1) (by kernel_rfl) (of_decide_eq_true (by kernel_rfl)) (by decide) (fun _=>rfl) fun n _=>qM n).map id (fun l=>by rw [← mq dr l];rfl)
  fun l h=>⟨nW (of_decide_eq_true (by kernel_rfl)) h.2,h.1⟩
theorem y9 (fuel : Nat) : Reads enc Tryz.prog w base spare held 31 xU OkC fuel :=
 (ed Tryz.underlying31 rfl (n0:=1) (by kernel_rfl) rfl (n1:=1) (by kernel_rfl) (by kernel_rfl)
  (fun n _=>dX Tryz.underlying28 (s:=2) (by kernel_rfl) (of_decide_eq_true (by kernel_rfl)) (by decide) (fun _=>rfl) fun n _=>AR n) (fun n _=>ze n)).map (fun p=>(⟨p.1,p.2⟩ : Crt)) (fun p=>rfl)
  fun p h=>⟨nW (of_decide_eq_true (by kernel_rfl)) h.1.2,fun l hl=>(h.1.1 l hl).1,fun l hl=>(h.1.1 l hl).2,h.2.1,h.2.2⟩
end
end Go.Proofs.YtmpdocplcgbpkaaGreatDoor
namespace Go.Proofs.YtmpdocplcgbpkaaGreatDoor
set_option linter.unusedSimpArgs false
set_option linter.unusedVariables false
open Go.RowKit Go.ChangeShapes Go.WideShapes
theorem sM {w : World} {g : Nat} {v : Value} {x : AV} (hc : w.cell? ⟨g,0,none⟩ = some v) (h1 : v.oneCell' = true) (h : PRel (i9 w) v x) : PRel (i9 w) (.pointer (some ⟨g,0,none⟩)) (.rf [x] 0) :=
 .rf g 0 0 [x] (fun _=>v) (fun j hj=>by
  obtain rfl : j = 0:=by simpa using hj
  exact uc hc h1) fun j hj=>by
  obtain rfl : j = 0:=by simpa using hj
  exact h
theorem Bm : Tryz.prog.globalNamed "errors.errorType" = some 0:=by kernel_rfl
theorem rt_row : (Tryz.prog.cutTypes.find? (·.1 == "internal/reflectlite.rtype")).map (·.2) = some 158:=by kernel_rfl
theorem xY : ((List.range Tryz.prog.types.size).filter fun t=>Tryz.prog.rowNamed t [101,114,114,111,114]) = [35]:=by kernel_rfl
theorem xX : typeHandle Tryz.prog 35 = .pointer (some ⟨1,35,none⟩):=by kernel_rfl
abbrev AI : List (String × DataW Unit):=[("errors.errorType",Rows.laid_errors_errorType)]
theorem x7 {W : World} (h : laidMetH Tryz.prog AI W) : Gl (i9 W):=by
 have h' : laidMet Tryz.prog [] W∧handlesMet Tryz.prog [("errors.errorType",Rows.laid_errors_errorType)] W:=h
 obtain ⟨h1,h2⟩:=h'
 obtain ⟨name,u,ty,e1,e2,e3,e4,e5⟩:=h2 _ (List.mem_singleton.2 rfl)
 have en : name = [101,114,114,111,114]:=(Option.some.inj e1).symm
 subst en
 obtain rfl:=Option.some.inj (rt_row.symm.trans e2)
 have hm : ty ∈ (List.range Tryz.prog.types.size).filter fun t=>Tryz.prog.rowNamed t [101,114,114,111,114]:=List.mem_filter.2 ⟨List.mem_range.2 e3,e4⟩
 rw [xY] at hm
 obtain rfl:=List.mem_singleton.1 hm
 rw [xX] at e5
 have hc0:=World.var?_cell Bm e5 0
 intro g cs hg
 unfold tn at hg
 split at hg
 ·rename_i e
  subst e
  cases hg
  refine sM (v:=.iface 158 (.agg #[.pointer (some ⟨1,35,none⟩)])) (by simpa using hc0) rfl (.ifc _ _ _ (.agg _ _ rfl (fun j hj=>?_) fun j hj=>?_))
  ·obtain rfl : j = 0:=by simpa using hj
   rfl
  ·obtain rfl : j = 0:=by simpa using hj
   exact .c _
 ·cases hg
end Go.Proofs.YtmpdocplcgbpkaaGreatDoor
