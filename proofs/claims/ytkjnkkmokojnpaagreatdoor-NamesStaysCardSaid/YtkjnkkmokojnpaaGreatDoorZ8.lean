/- Programs of any kinds as data, and their trees; programs read as arguments. What the statements ask of programs: how great they are, how deep, whether they can be shown. No program is in sight. K: slices of which it does not matter whether they are known to be full. No program is in sight. Names that mean something: what is amiss with a program. No program is in sight. -/
import Derived.Test.YtkjnkkmokojnpaaGreatDoorZ7
import Derived.Test.YtkjnkkmokojnpaaGreatDoorZ5
namespace Go.Proofs.YtkjnkkmokojnpaaGreatDoor
set_option linter.unusedSimpArgs false
set_option linter.unusedVariables false
open Go.RowKit Go.ChangeShapes Go.WideShapes
inductive PE where
 | mk (kind n : Int) (name : Wd) (kids : List PE)
mutual
def peA : PE → List AV
 | .mk k n x ks => [inA k,inA n,bs x,.sl (cl ks) ks.length .none]
def cl : List PE → List AV
 | [] => []
 | e :: r => peA e ++ cl r
end
inductive PC where
 | mk (kind : Int) (e : List PE) (kids : List PC)
mutual
def ci : PC → List AV
 | .mk k e ks => [inA k,.sl (cl e) e.length .none,.sl (dc ks) ks.length .none]
def dc : List PC → List AV
 | [] => []
 | e :: r => ci e ++ dc r
end
inductive PA where
 | mk (kind : Int) (c : PC) (e v : PE) (field : Wd) (n : Int) (kids : List PA)
mutual
def paA : PA → List AV
 | .mk k c e v f n ks => [inA k] ++ (ci c ++ (peA e ++ (peA v ++ [bs f,inA n,.sl (ew ks) ks.length .none])))
def ew : List PA → List AV
 | [] => []
 | e :: r => paA e ++ ew r
end
inductive PS' where
 | mk (kind : Int) (name field callee : Wd) (e v : PE) (c : PC) (a : PA) (args ghosts : List PE) (fields : List Wd) (body els : List PS')
mutual
def psA : PS' → List AV
 | .mk k x f y e v c a rs gs fs b l => [inA k,bs x,bs f,bs y] ++ (peA e ++ (peA v ++ (ci c ++ (paA a ++ [.sl (cl rs) rs.length .none,.sl (cl gs) gs.length .none,.sl (fs.map bs) fs.length .none,.sl (du b) b.length .none,.sl (du l) l.length .none]))))
def du : List PS' → List AV
 | [] => []
 | e :: r => psA e ++ du r
end
structure PP where
 name : Wd
 params : List Wd
 ghosts : List Wd
 pre : PA
 post : PA
 body : List PS'
def ppA (p : PP) : List AV := [bs p.name,.sl (p.params.map bs) p.params.length .none,.sl (p.ghosts.map bs) p.ghosts.length .none] ++ (paA p.pre ++ (paA p.post ++ [.sl (du p.body) p.body.length .none]))
abbrev dN (l : List PP) : AV := .sl (l.flatMap ppA) l.length .none
theorem fS : ∀ e,(peA e).length = 4
 | .mk k n x ks => by simp [peA]
theorem fP : ∀ e,(ci e).length = 3
 | .mk k e ks => by simp [ci]
theorem eZ : ∀ e,(paA e).length = 15
 | .mk k c e v f n ks => by simp [paA,fP,fS]
theorem kv : ∀ e,(psA e).length = 35
 | .mk k x f y e v c a rs gs fs b l => by simp [psA,fP,fS,eZ]
theorem nk (p : PP) : (ppA p).length = 34 := by simp [ppA,eZ]
theorem lM : ∀ l : List PE,cl l = l.flatMap peA
 | [] => rfl
 | e :: r => by rw [cl,lM r,List.flatMap_cons]
theorem li : ∀ l : List PC,dc l = l.flatMap ci
 | [] => rfl
 | e :: r => by rw [dc,li r,List.flatMap_cons]
theorem lK : ∀ l : List PA,ew l = l.flatMap paA
 | [] => rfl
 | e :: r => by rw [ew,lK r,List.flatMap_cons]
theorem lN : ∀ l : List PS',du l = l.flatMap psA
 | [] => rfl
 | e :: r => by rw [du,lN r,List.flatMap_cons]
abbrev tI (z : Int) : Prop := -9223372036854775808 ≤ z ∧ z ≤ 9223372036854775807
def Lg {α : Type} (l : List α) : Prop := l.length ≤ 140737488351232
mutual
def OkE : PE → Prop
 | .mk k n x ks => tI k ∧ tI n ∧ Lg x ∧ Lg ks ∧ ir ks
def ir : List PE → Prop
 | [] => True
 | e :: r => OkE e ∧ ir r
end
mutual
def OkC : PC → Prop
 | .mk k e ks => tI k ∧ (Lg e ∧ ir e) ∧ Lg ks ∧ l9 ks
def l9 : List PC → Prop
 | [] => True
 | e :: r => OkC e ∧ l9 r
end
mutual
def OkA : PA → Prop
 | .mk k c e v f n ks => tI k ∧ OkC c ∧ OkE e ∧ OkE v ∧ Lg f ∧ tI n ∧ Lg ks ∧ kN ks
def kN : List PA → Prop
 | [] => True
 | e :: r => OkA e ∧ kN r
end
def tJ (l : List Wd) : Prop := Lg l ∧ ∀ x ∈ l,Lg x
mutual
def OkS : PS' → Prop
 | .mk k x f y e v c a rs gs fs b l => tI k ∧ Lg x ∧ Lg f ∧ Lg y ∧ OkE e ∧ OkE v ∧ OkC c ∧ OkA a ∧ (Lg rs ∧ ir rs) ∧ (Lg gs ∧ ir gs) ∧ tJ fs ∧ (Lg b ∧ gr b) ∧ Lg l ∧ gr l
def gr : List PS' → Prop
 | [] => True
 | e :: r => OkS e ∧ gr r
end
def OkP (p : PP) : Prop := Lg p.name ∧ tJ p.params ∧ tJ p.ghosts ∧ OkA p.pre ∧ OkA p.post ∧ Lg p.body ∧ gr p.body
def kL (l : List PP) : Prop := Lg l ∧ ∀ p ∈ l,OkP p
theorem iR : ∀ {l : List PE},ir l → ∀ e ∈ l,OkE e
 | [],_ => fun e h => absurd h List.not_mem_nil
 | a :: l,h => fun e he => by
  rcases List.mem_cons.1 he with rfl | he
  ·exact h.1
  ·exact iR h.2 e he
theorem lh : ∀ {l : List PC},l9 l → ∀ e ∈ l,OkC e
 | [],_ => fun e h => absurd h List.not_mem_nil
 | a :: l,h => fun e he => by
  rcases List.mem_cons.1 he with rfl | he
  ·exact h.1
  ·exact lh h.2 e he
theorem lf : ∀ {l : List PA},kN l → ∀ e ∈ l,OkA e
 | [],_ => fun e h => absurd h List.not_mem_nil
 | a :: l,h => fun e he => by
  rcases List.mem_cons.1 he with rfl | he
  ·exact h.1
  ·exact lf h.2 e he
theorem fy : ∀ {l : List PS'},gr l → ∀ e ∈ l,OkS e
 | [],_ => fun e h => absurd h List.not_mem_nil
 | a :: l,h => fun e he => by
  rcases List.mem_cons.1 he with rfl | he
  ·exact h.1
  ·exact fy h.2 e he
theorem sX : ∀ {l : List PE},(∀ e ∈ l,OkE e) → ir l
 | [],_ => trivial
 | a :: l,h => ⟨h a (by simp),sX fun e he => h e (by simp [he])⟩
theorem wu : ∀ {l : List PC},(∀ e ∈ l,OkC e) → l9 l
 | [],_ => trivial
 | a :: l,h => ⟨h a (by simp),wu fun e he => h e (by simp [he])⟩
theorem wt : ∀ {l : List PA},(∀ e ∈ l,OkA e) → kN l
 | [],_ => trivial
 | a :: l,h => ⟨h a (by simp),wt fun e he => h e (by simp [he])⟩
theorem sY : ∀ {l : List PS'},(∀ e ∈ l,OkS e) → gr l
 | [],_ => trivial
 | a :: l,h => ⟨h a (by simp),sY fun e he => h e (by simp [he])⟩
instance : Inhabited PE := ⟨.mk 0 0 [] []⟩
instance : Inhabited PC := ⟨.mk 0 [] []⟩
instance : Inhabited PA := ⟨.mk 0 default default default [] 0 []⟩
instance : Inhabited PS' := ⟨.mk 0 [] [] [] default default default default [] [] [] [] []⟩
instance : Inhabited PP := ⟨⟨[],[],[],default,default,[]⟩⟩
section
variable {H : Type} {enc : TypeId × Value → H} {w : World} {base : Nat} {spare : Nat → Bool} {held : Bool}
theorem oC {α : Type} {l : List α} {b : Nat} (hb : 0 < b) (h : l.length * b ≤ 140737488351232) : Lg l := by
 have := Nat.le_mul_of_pos_right l.length hb
 unfold Lg; omega
theorem vr (fuel : Nat) : Reads enc Tryz.prog w base spare held 48 (fun l : List Wd => [.sl (l.map bs) l.length .none]) tJ fuel :=
 (reads_slice Tryz.underlying48 (s := 1) (by kernel_rfl) (of_decide_eq_true (by kernel_rfl)) (by decide) (fun _ => rfl) fun n _ => mn n).map id (fun l => by rw [show l.flatMap (fun l : Wd => [bs l]) = l.map bs from (by induction l <;> simp_all)]; rfl) fun l h => ⟨oC (of_decide_eq_true (by kernel_rfl)) h.2,h.1⟩
theorem up : ∀ fuel,Reads enc Tryz.prog w base spare held 47 peA OkE fuel := fun fuel => by
 induction fuel using Nat.strongRecOn with
 | _ fuel ih =>
 exact (qU Tryz.underlying47 rfl (n0 := 1) (by kernel_rfl) (n1 := 1) (by kernel_rfl) (n2 := 1) (by kernel_rfl) (n3 := 1) (by kernel_rfl) rfl rfl rfl (by kernel_rfl)
  (fun n _ => xi n) (fun n _ => xi n) (fun n _ => mn n)
  (fun n hn => reads_slice Tryz.underlying45 (s := 4) (by kernel_rfl) (of_decide_eq_true (by kernel_rfl)) (by decide) fS fun m hm => ih m (by omega))).map (fun p => (.mk p.1 p.2.1 p.2.2.1 p.2.2.2 : PE))
  (fun p => by rw [peA,lM]; rfl) fun p h => ⟨h.1,h.2.1,h.2.2.1,oC (of_decide_eq_true (by kernel_rfl)) h.2.2.2.2,sX h.2.2.2.1⟩
theorem vq (fuel : Nat) : Reads enc Tryz.prog w base spare held 45 (fun l : List PE => [.sl (cl l) l.length .none]) (fun l => Lg l ∧ ir l) fuel :=
 (reads_slice Tryz.underlying45 (s := 4) (by kernel_rfl) (of_decide_eq_true (by kernel_rfl)) (by decide) fS fun n _ => up n).map id (fun l => by simp only [id,lM]) fun l h => ⟨oC (of_decide_eq_true (by kernel_rfl)) h.2,sX h.1⟩
theorem zi : ∀ fuel,Reads enc Tryz.prog w base spare held 51 ci OkC fuel := fun fuel => by
 induction fuel using Nat.strongRecOn with
 | _ fuel ih =>
 exact (qT Tryz.underlying51 rfl (n0 := 1) (by kernel_rfl) (n1 := 1) (by kernel_rfl) (n2 := 1) (by kernel_rfl) rfl rfl (by kernel_rfl)
  (fun n _ => xi n) (fun n _ => vq n)
  (fun n hn => reads_slice Tryz.underlying49 (s := 3) (by kernel_rfl) (of_decide_eq_true (by kernel_rfl)) (by decide) fP fun m hm => ih m (by omega))).map (fun p => (.mk p.1 p.2.1 p.2.2 : PC))
  (fun p => by rw [ci,li]; rfl) fun p h => ⟨h.1,h.2.1,oC (of_decide_eq_true (by kernel_rfl)) h.2.2.2,wu h.2.2.1⟩
theorem zg : ∀ fuel,Reads enc Tryz.prog w base spare held 54 paA OkA fuel := fun fuel => by
 induction fuel using Nat.strongRecOn with
 | _ fuel ih =>
 exact (qW Tryz.underlying54 rfl (n0 := 1) (by kernel_rfl) (n1 := 3) (by kernel_rfl) (n2 := 4) (by kernel_rfl) (n3 := 4) (by kernel_rfl) (n4 := 1) (by kernel_rfl) (n5 := 1) (by kernel_rfl) (n6 := 1) (by kernel_rfl) rfl rfl rfl rfl rfl rfl (by kernel_rfl)
  (fun n _ => xi n) (fun n _ => zi n) (fun n _ => up n) (fun n _ => up n) (fun n _ => mn n) (fun n _ => xi n)
  (fun n hn => reads_slice Tryz.underlying52 (s := 15) (by kernel_rfl) (of_decide_eq_true (by kernel_rfl)) (by decide) eZ fun m hm => ih m (by omega))).map (fun p => (.mk p.1 p.2.1 p.2.2.1 p.2.2.2.1 p.2.2.2.2.1 p.2.2.2.2.2.1 p.2.2.2.2.2.2 : PA))
  (fun p => by rw [paA,lK]; rfl) fun p h => ⟨h.1,h.2.1,h.2.2.1,h.2.2.2.1,h.2.2.2.2.1,h.2.2.2.2.2.1,oC (of_decide_eq_true (by kernel_rfl)) h.2.2.2.2.2.2.2,wt h.2.2.2.2.2.2.1⟩
set_option maxHeartbeats 4000000 in
theorem Eu : ∀ fuel,Reads enc Tryz.prog w base spare held 57 psA OkS fuel := fun fuel => by
 induction fuel using Nat.strongRecOn with
 | _ fuel ih =>
 have hb : ∀ n,n < fuel → Reads enc Tryz.prog w base spare held 55 (fun l : List PS' => [.sl (du l) l.length .none]) (fun l => Lg l ∧ gr l) n := fun n hn =>
  (reads_slice Tryz.underlying55 (s := 35) (by kernel_rfl) (of_decide_eq_true (by kernel_rfl)) (by decide) kv fun m hm => ih m (by omega)).map id (fun l => by simp only [id,lN]) fun l h => ⟨oC (of_decide_eq_true (by kernel_rfl)) h.2,sY h.1⟩
 exact (qu Tryz.underlying57 rfl (n0 := 1) (by kernel_rfl) (n1 := 1) (by kernel_rfl) (n2 := 1) (by kernel_rfl) (n3 := 1) (by kernel_rfl) (n4 := 4) (by kernel_rfl) (n5 := 4) (by kernel_rfl) (n6 := 3) (by kernel_rfl) (n7 := 15) (by kernel_rfl) (n8 := 1) (by kernel_rfl) (n9 := 1) (by kernel_rfl) (n10 := 1) (by kernel_rfl) (n11 := 1) (by kernel_rfl) (n12 := 1) (by kernel_rfl) rfl rfl rfl rfl rfl rfl rfl rfl rfl rfl rfl rfl (by kernel_rfl)
  (fun n _ => xi n) (fun n _ => mn n) (fun n _ => mn n) (fun n _ => mn n) (fun n _ => up n) (fun n _ => up n) (fun n _ => zi n) (fun n _ => zg n) (fun n _ => vq n) (fun n _ => vq n) (fun n _ => vr n) hb hb).map
  (fun p => (.mk p.1 p.2.1 p.2.2.1 p.2.2.2.1 p.2.2.2.2.1 p.2.2.2.2.2.1 p.2.2.2.2.2.2.1 p.2.2.2.2.2.2.2.1 p.2.2.2.2.2.2.2.2.1 p.2.2.2.2.2.2.2.2.2.1 p.2.2.2.2.2.2.2.2.2.2.1 p.2.2.2.2.2.2.2.2.2.2.2.1 p.2.2.2.2.2.2.2.2.2.2.2.2 : PS'))
  (fun p => by rw [psA]; rfl) fun p h => h
theorem Et (fuel : Nat) : Reads enc Tryz.prog w base spare held 59 ppA OkP fuel :=
 (qV Tryz.underlying59 rfl (n0 := 1) (by kernel_rfl) (n1 := 1) (by kernel_rfl) (n2 := 1) (by kernel_rfl) (n3 := 15) (by kernel_rfl) (n4 := 15) (by kernel_rfl) (n5 := 1) (by kernel_rfl) rfl rfl rfl rfl rfl (by kernel_rfl)
  (fun n _ => mn n) (fun n _ => vr n) (fun n _ => vr n) (fun n _ => zg n) (fun n _ => zg n)
  (fun n _ => reads_slice Tryz.underlying55 (s := 35) (by kernel_rfl) (of_decide_eq_true (by kernel_rfl)) (by decide) kv fun m _ => Eu m)).map (fun p => (⟨p.1,p.2.1,p.2.2.1,p.2.2.2.1,p.2.2.2.2.1,p.2.2.2.2.2⟩ : PP))
  (fun p => by rw [ppA,lN]; rfl) fun p h => ⟨h.1,h.2.1,h.2.2.1,h.2.2.2.1,h.2.2.2.2.1,oC (of_decide_eq_true (by kernel_rfl)) h.2.2.2.2.2.2,sY h.2.2.2.2.2.1⟩
theorem wA (fuel : Nat) : Reads enc Tryz.prog w base spare held 24 (fun l => [dN l]) kL fuel :=
 (qS Tryz.underlying24 rfl (by kernel_rfl) fun n _ =>
  reads_slice Tryz.underlying22 (s := 34) (by kernel_rfl) (of_decide_eq_true (by kernel_rfl)) (by decide) nk fun n _ => Et n).map id (fun _ => rfl) fun _ h => ⟨oC (of_decide_eq_true (by kernel_rfl)) h.2,h.1⟩
end
end Go.Proofs.YtkjnkkmokojnpaaGreatDoor
namespace Go.Proofs.YtkjnkkmokojnpaaGreatDoor
set_option linter.unusedSimpArgs false
set_option linter.unusedVariables false
open Go.RowKit
def ls (f : List PE → Int → Int) : List PE → Int → Int
 | [],left => left
 | .mk k n x ks :: r,left => if left < 0 then left else if 200 < x.length then -1 else ls f r (f ks (left - 1))
def szE : Nat → List PE → Int → Int
 | 0,_,_ => -1
 | d + 1,l,left => ls (szE d) l left
def lq (d : Nat) (f : List PC → Int → Int) : List PC → Int → Int
 | [],left => left
 | .mk k e ks :: r,left => if left < 0 then left else lq d f r (if 0 ≤ szE d e (left - 1) then f ks (szE d e (left - 1)) else szE d e (left - 1))
def szC : Nat → List PC → Int → Int
 | 0,_,_ => -1
 | d + 1,l,left => lq d (szC d) l left
def dK (a : Int) (f : Int → Int) : Int := if 0 ≤ a then f a else a
def lm (d : Nat) (f : List PA → Int → Int) : List PA → Int → Int
 | [],left => left
 | .mk k c e v x n ks :: r,left => if left < 0 then left else if 200 < x.length then -1 else lm d f r (dK (dK (szC d [c] (left - 1)) (szE d [e,v])) (f ks))
def szA : Nat → List PA → Int → Int
 | 0,_,_ => -1
 | d + 1,l,left => lm d (szA d) l left
def kM (d : Nat) (f : List PS' → Int → Int) : List PS' → Int → Int
 | [],left => left
 | .mk k x y z e v c a rs gs fs b l :: r,left => if left < 0 then left else if 50 < fs.length ∨ 200 < x.length ∨ 200 < y.length ∨ 200 < z.length then -1
   else kM d f r (dK (dK (dK (dK (dK (dK (szC d [c] (left - 1)) (szE d [e,v])) (szE d rs)) (szE d gs)) (szA d [a])) (f b)) (f l))
def szS : Nat → List PS' → Int → Int
 | 0,_,_ => -1
 | d + 1,l,left => kM d (szS d) l left
def gT : List PP → Int → Bool
 | [],left => decide (0 ≤ left)
 | p :: r,left => if left < 0 then false else if 50 < p.params.length ∨ 50 < p.ghosts.length ∨ 200 < p.name.length then false else gT r (dK (szA 300 [p.pre,p.post] left) (szS 300 p.body))
def gy (l : List PP) (left : Int) : Bool := if 50 < l.length then false else gT l left
def Dn {α : Type} (f : α → Int → Int) : Prop := ∀ x left,-1 ≤ left → -1 ≤ f x left ∧ f x left ≤ left
theorem dT {a b : Int} (ha : -1 ≤ a ∧ a ≤ b) {f : Int → Int} (hf : ∀ c,-1 ≤ c → -1 ≤ f c ∧ f c ≤ c) : -1 ≤ dK a f ∧ dK a f ≤ b := by
 unfold dK; split
 ·have := hf a ha.1; omega
 ·exact ha
theorem vX {f : List PE → Int → Int} (hf : Dn f) : Dn (ls f)
 | [],left => fun h => ⟨h,Int.le_refl _⟩
 | .mk k n x ks :: r,left => fun h => by
  unfold ls
  split
  ·exact ⟨h,Int.le_refl _⟩
  split
  ·omega
  ·have h1 := hf ks (left - 1) (by omega)
   have h2 := vX hf r (f ks (left - 1)) h1.1
   omega
theorem iK : ∀ d,Dn (szE d)
 | 0 => fun _ left h => ⟨Int.le_refl _,h⟩
 | d + 1 => vX (iK d)
theorem pO (d : Nat) {f : List PC → Int → Int} (hf : Dn f) : Dn (lq d f)
 | [],left => fun h => ⟨h,Int.le_refl _⟩
 | .mk k e ks :: r,left => fun h => by
  unfold lq
  split
  ·exact ⟨h,Int.le_refl _⟩
  ·have h1 := iK d e (left - 1) (by omega)
   split
   ·have h2 := hf ks _ h1.1
    have h3 := pO d hf r _ h2.1
    omega
   ·have h3 := pO d hf r _ h1.1
    omega
theorem lY : ∀ d,Dn (szC d)
 | 0 => fun _ left h => ⟨Int.le_refl _,h⟩
 | d + 1 => pO d (lY d)
theorem vW (d : Nat) {f : List PA → Int → Int} (hf : Dn f) : Dn (lm d f)
 | [],left => fun h => ⟨h,Int.le_refl _⟩
 | .mk k c e v x n ks :: r,left => fun h => by
  unfold lm
  split
  ·exact ⟨h,Int.le_refl _⟩
  split
  ·omega
  ·have h1 := lY d [c] (left - 1) (by omega)
   have h2 := dT (dT h1 (iK d [e,v])) (hf ks)
   have h3 := vW d hf r _ h2.1
   omega
theorem nY : ∀ d,Dn (szA d)
 | 0 => fun _ left h => ⟨Int.le_refl _,h⟩
 | d + 1 => vW d (nY d)
theorem vY (d : Nat) {f : List PS' → Int → Int} (hf : Dn f) : Dn (kM d f)
 | [],left => fun h => ⟨h,Int.le_refl _⟩
 | .mk k x y z e v c a rs gs fs b l :: r,left => fun h => by
  unfold kM
  split
  ·exact ⟨h,Int.le_refl _⟩
  split
  ·omega
  ·have h1 := lY d [c] (left - 1) (by omega)
   have h2 := dT (dT (dT (dT (dT (dT h1 (iK d [e,v])) (iK d rs)) (iK d gs)) (nY d [a])) (hf b)) (hf l)
   have h3 := vY d hf r _ h2.1
   omega
theorem oM : ∀ d,Dn (szS d)
 | 0 => fun _ left h => ⟨Int.le_refl _,h⟩
 | d + 1 => vY d (oM d)
def mxN : List Nat → Nat
 | [] => 0
 | a :: r => max a (mxN r)
def dE : Nat → PE → Nat
 | 0,_ => 1
 | b + 1,.mk _ _ _ ks => mxN (ks.map (dE b)) + 1
def dC : Nat → PC → Nat
 | 0,_ => 1
 | b + 1,.mk _ e ks => max (mxN (e.map (dE b))) (mxN (ks.map (dC b))) + 1
def dA : Nat → PA → Nat
 | 0,_ => 1
 | b + 1,.mk _ c e v _ _ ks => max (max (dC b c) (max (dE b e) (dE b v))) (mxN (ks.map (dA b))) + 1
def dS : Nat → PS' → Nat
 | 0,_ => 1
 | b + 1,.mk _ _ _ _ e v c a rs gs _ bd l => max (max (max (max (max (max (dC b c) (max (dE b e) (dE b v))) (dA b a)) (mxN (rs.map (dE b)))) (mxN (gs.map (dE b)))) (mxN (bd.map (dS b)))) (mxN (l.map (dS b))) + 1
def eP : Nat → PE → Bool
 | 0,_ => true
 | b + 1,.mk _ _ _ ks => ks.any (eP b)
def jk : Nat → PC → Bool
 | 0,_ => true
 | b + 1,.mk _ e ks => e.any (eP b) || ks.any (jk b)
def fW : Nat → PA → Bool
 | 0,_ => true
 | b + 1,.mk _ c e v _ _ ks => jk b c || (eP b e || (eP b v || ks.any (fW b)))
def fA : Nat → PS' → Bool
 | 0,_ => true
 | b + 1,.mk _ _ _ _ e v c a rs gs _ bd l => eP b e || (eP b v || (jk b c || (fW b a || (rs.any (eP b) || (gs.any (eP b) || (bd.any (fA b) || l.any (fA b)))))))
theorem Di {a b c : Nat} : a < max b c ↔ a < b ∨ a < c := by omega
theorem nd {α : Type} {f : α → Nat} {p : α → Bool} {b : Nat} (h : ∀ x,p x = true ↔ b < f x) : ∀ l : List α,l.any p = true ↔ b < mxN (l.map f)
 | [] => by simp [mxN]
 | a :: r => by rw [List.any_cons,Bool.or_eq_true,List.map_cons,mxN,Di,h,nd h r]
theorem gA : ∀ b e,eP b e = true ↔ b < dE b e
 | 0,_ => by simp [eP,dE]
 | b + 1,.mk _ _ _ ks => by rw [eP,dE,nd (gA b)]; omega
theorem nW : ∀ b e,jk b e = true ↔ b < dC b e
 | 0,_ => by simp [jk,dC]
 | b + 1,.mk _ e ks => by rw [jk,dC,Bool.or_eq_true,nd (gA b),nd (nW b)]; omega
theorem lz : ∀ b e,fW b e = true ↔ b < dA b e
 | 0,_ => by simp [fW,dA]
 | b + 1,.mk _ c e v _ _ ks => by rw [fW,dA,Bool.or_eq_true,Bool.or_eq_true,Bool.or_eq_true,nd (lz b),gA,gA,nW]; omega
theorem nX : ∀ b e,fA b e = true ↔ b < dS b e
 | 0,_ => by simp [fA,dS]
 | b + 1,.mk _ _ _ _ e v c a rs gs _ bd l => by
  rw [fA,dS]
  simp only [Bool.or_eq_true]
  rw [nd (gA b),nd (gA b),nd (nX b),nd (nX b),gA,gA,nW,lz]; omega
def iC (n : Int) : Bool := decide (-1073741824 ≤ n) && decide (n ≤ 1073741824)
def sy (k n : Int) (x : Wd) (m : Nat) : Bool :=
 if k = 0 then iC n && (x.isEmpty && decide (m = 0))
 else if k = 1 then dM x && (decide (n = 0) && decide (m = 0))
 else if k = 2 ∨ k = 3 then x.isEmpty && (decide (n = 0) && decide (m = 2))
 else if k = 4 then iC n && (x.isEmpty && decide (m = 1))
 else false
mutual
def seE : PE → Bool
 | .mk k n x ks => sy k n x ks.length && hI ks
def hI : List PE → Bool
 | [] => true
 | e :: r => seE e && hI r
end
def ki (k : Int) (m n : Nat) : Bool :=
 if k = 0 ∨ k = 1 then decide (m = 0) && decide (n = 0)
 else if k = 2 ∨ k = 3 ∨ k = 4 ∨ k = 5 then decide (m = 2) && decide (n = 0)
 else if k = 6 then decide (m = 0) && decide (n = 1)
 else if k = 7 ∨ k = 8 then decide (m = 0) && decide (n = 2)
 else false
mutual
def seC : PC → Bool
 | .mk k e ks => ki k e.length ks.length && (hI e && mr ks)
def mr : List PC → Bool
 | [] => true
 | e :: r => seC e && mr r
end
def dx : PE → Bool
 | .mk k n x ks => !decide (k = 0) || (!decide (n = 0) || (!x.isEmpty || decide (0 < ks.length)))
def eK : PC → Bool
 | .mk k e ks => !decide (k = 0) || decide (0 < e.length + ks.length)
def oo (e : PE) (f : Wd) (n : Int) : Bool := seE e && (dM f && (decide (0 ≤ n) && decide (n ≤ 1073741824)))
def xg (e : PE) (f : Wd) (n : Int) : Bool := !dx e && (f.isEmpty && decide (n = 0))
def wU (k : Int) (c : PC) (e v : PE) (f : Wd) (n : Int) (m : Nat) : Bool :=
 if k = 0 then decide (m = 0) && (!eK c && (xg e f n && !dx v))
 else if k = 1 then decide (m = 0) && (seC c && (xg e f n && !dx v))
 else if k = 2 then decide (m = 0) && (!eK c && (oo e f n && !dx v))
 else if k = 3 then decide (m = 0) && (!eK c && (oo e f n && seE v))
 else if k = 4 then decide (m = 2) && (!eK c && (xg e f n && !dx v))
 else if k = 5 then decide (m = 2) && (seC c && (xg e f n && !dx v))
 else false
mutual
def seA : PA → Bool
 | .mk k c e v f n ks => wU k c e v f n ks.length && mq ks
def mq : List PA → Bool
 | [] => true
 | e :: r => seA e && mq r
end
def fh : PA → Bool
 | .mk k c e v f n ks => !decide (k = 0) || (eK c || (dx e || (dx v || (!f.isEmpty || (!decide (n = 0) || decide (0 < ks.length))))))
def fR (l : List Wd) : Bool := l.all dM
mutual
def seS : PS' → Bool
 | .mk k x f y e v c a rs gs fs b l =>
  if k = 0 then x.isEmpty && (f.isEmpty && (y.isEmpty && (!dx e && (!dx v && (!eK c && (!fh a && (rs.isEmpty && (gs.isEmpty && (fs.isEmpty && (b.isEmpty && l.isEmpty))))))))))
  else if k = 1 then dM x && (f.isEmpty && (y.isEmpty && (seE e && (!dx v && (!eK c && (!fh a && (rs.isEmpty && (gs.isEmpty && (fs.isEmpty && (b.isEmpty && l.isEmpty))))))))))
  else if k = 2 then dM x && (dM f && (y.isEmpty && (seE e && (!dx v && (!eK c && (!fh a && (rs.isEmpty && (gs.isEmpty && (fs.isEmpty && (b.isEmpty && l.isEmpty))))))))))
  else if k = 3 then x.isEmpty && (dM f && (y.isEmpty && (seE e && (seE v && (!eK c && (!fh a && (rs.isEmpty && (gs.isEmpty && (fs.isEmpty && (b.isEmpty && l.isEmpty))))))))))
  else if k = 4 then dM x && (f.isEmpty && (y.isEmpty && (!dx e && (!dx v && (!eK c && (!fh a && (rs.isEmpty && (gs.isEmpty && ((!fs.isEmpty && fR fs) && (b.isEmpty && l.isEmpty))))))))))
  else if k = 5 then x.isEmpty && (dM f && (y.isEmpty && (seE e && (!dx v && (!eK c && (!fh a && (rs.isEmpty && (gs.isEmpty && (fs.isEmpty && (b.isEmpty && l.isEmpty))))))))))
  else if k = 6 then x.isEmpty && (f.isEmpty && (y.isEmpty && (!dx e && (!dx v && (seC c && (!fh a && (rs.isEmpty && (gs.isEmpty && (fs.isEmpty && (ig b && ig l))))))))))
  else if k = 7 then x.isEmpty && (f.isEmpty && (y.isEmpty && (!dx e && (!dx v && (seC c && (seA a && (rs.isEmpty && (gs.isEmpty && (fs.isEmpty && (ig b && l.isEmpty))))))))))
  else if k = 8 then x.isEmpty && (f.isEmpty && (y.isEmpty && (!dx e && (!dx v && (seC c && (!fh a && (rs.isEmpty && (gs.isEmpty && (fs.isEmpty && (b.isEmpty && l.isEmpty))))))))))
  else if k = 9 then (x.isEmpty || dM x) && (f.isEmpty && (dM y && (!dx e && (!dx v && (!eK c && (!fh a && (hI rs && (hI gs && (fs.isEmpty && (b.isEmpty && l.isEmpty))))))))))
  else false
def ig : List PS' → Bool
 | [] => true
 | e :: r => seS e && ig r
end
def eO (p : PP) : Bool := fW 100 p.pre || (fW 100 p.post || p.body.any (fA 100))
def fz (p : PP) : Bool := dM p.name && (fR p.params && (fR p.ghosts && (seA p.pre && (seA p.post && ig p.body))))
def eL (l : List PP) : Nat := if l.any eO then 4 else if l.all fz then 0 else 5
end Go.Proofs.YtkjnkkmokojnpaaGreatDoor
namespace Go.Proofs.YtkjnkkmokojnpaaGreatDoor
set_option linter.unusedSimpArgs false
set_option linter.unusedVariables false
open Go.RowKit
def ofB : Bool → Own
 | true => .full
 | false => .none
@[go_sem] theorem D2 (tk : Bool) (k : Nat) (cs : List AV) (n : Nat) (b : Bool) : jd tk (k + 1) (.sl cs n (ofB b)) = [] := by cases b <;> rfl
@[go_sem] theorem E4 (g : List (Nat × Nat)) (k : Nat) (cs : List AV) (n : Nat) (b : Bool) : ren g (k + 1) (.sl cs n (ofB b)) = .sl cs n (ofB b) := by cases b <;> rfl
@[go_sem] theorem Ec (ex : List Nat) (σ : bJ) (k : Nat) (cs : List AV) (n : Nat) (b : Bool) : iY ex σ (k + 1) (.sl cs n (ofB b)) = .sl cs n (ofB b) := by cases b <;> rfl
@[go_sem] theorem C8 (d k : Nat) (cs : List AV) (n : Nat) (b : Bool) : eH d (k + 1) (.sl cs n (ofB b)) = false := by cases b <;> rfl
@[go_sem] theorem D4 (ex : List Nat) (σ : bJ) (k : Nat) (cs : List AV) (n : Nat) (b : Bool) : gZ ex σ (k + 1) (.sl cs n (ofB b)) = .sl cs n (ofB b) := by cases b <;> rfl
@[go_sem] theorem D3 (k : Nat) (cs : List AV) (n : Nat) (b : Bool) : eF (k + 1) (.sl cs n (ofB b)) = some (.sl cs n (ofB b)) := by cases b <;> rfl
end Go.Proofs.YtkjnkkmokojnpaaGreatDoor
namespace Go.Proofs.YtkjnkkmokojnpaaGreatDoor
set_option linter.unusedSimpArgs false
set_option linter.unusedVariables false
open Go.RowKit
mutual
def vE : PE → List Wd
 | .mk k _ x ks => (if k = 1 then [x] else []) ++ vEs ks
def vEs : List PE → List Wd
 | [] => []
 | e :: r => vE e ++ vEs r
end
mutual
def vC : PC → List Wd
 | .mk _ e ks => vEs e ++ vCs ks
def vCs : List PC → List Wd
 | [] => []
 | e :: r => vC e ++ vCs r
end
mutual
def vA : PA → List Wd
 | .mk _ c e v _ _ ks => vC c ++ (vE e ++ (vE v ++ vAs ks))
def vAs : List PA → List Wd
 | [] => []
 | e :: r => vA e ++ vAs r
end
mutual
def ma (p : Wd → Bool) : PE → Bool
 | .mk k _ x ks => (decide (k = 1) && p x) || kG p ks
def kG (p : Wd → Bool) : List PE → Bool
 | [] => false
 | e :: r => ma p e || kG p r
end
mutual
def oL (p : Wd → Bool) : PC → Bool
 | .mk _ e ks => kG p e || pC p ks
def pC (p : Wd → Bool) : List PC → Bool
 | [] => false
 | e :: r => oL p e || pC p r
end
mutual
def sb (p : Wd → Bool) : PA → Bool
 | .mk _ c e v _ _ ks => oL p c || (ma p e || (ma p v || pB p ks))
def pB (p : Wd → Bool) : List PA → Bool
 | [] => false
 | e :: r => sb p e || pB p r
end
mutual
theorem sc (p : Wd → Bool) : ∀ e,ma p e = (vE e).any p
 | .mk k n x ks => by
  rw [ma,vE,List.any_append,oT p ks]
  by_cases h : k = 1 <;> simp [h]
theorem oT (p : Wd → Bool) : ∀ l,kG p l = (vEs l).any p
 | [] => rfl
 | e :: r => by rw [kG,vEs,List.any_append,sc p e,oT p r]
end
mutual
theorem uN (p : Wd → Bool) : ∀ e,oL p e = (vC e).any p
 | .mk k es ks => by rw [oL,vC,List.any_append,oT p es,vQ p ks]
theorem vQ (p : Wd → Bool) : ∀ l,pC p l = (vCs l).any p
 | [] => rfl
 | e :: r => by rw [pC,vCs,List.any_append,uN p e,vQ p r]
end
mutual
theorem xY (p : Wd → Bool) : ∀ e,sb p e = (vA e).any p
 | .mk k c e v f n ks => by rw [sb,vA,List.any_append,List.any_append,List.any_append,uN p c,sc p e,sc p v,vP p ks]
theorem vP (p : Wd → Bool) : ∀ l,pB p l = (vAs l).any p
 | [] => rfl
 | e :: r => by rw [pB,vAs,List.any_append,xY p e,vP p r]
end
theorem rp (p : Wd → Bool) : ∀ l,kG p l = l.any (ma p)
 | [] => rfl
 | e :: r => by rw [kG,List.any_cons,rp p r]
theorem rl (p : Wd → Bool) : ∀ l,pC p l = l.any (oL p)
 | [] => rfl
 | e :: r => by rw [pC,List.any_cons,rl p r]
theorem rk (p : Wd → Bool) : ∀ l,pB p l = l.any (sb p)
 | [] => rfl
 | e :: r => by rw [pB,List.any_cons,rk p r]
def x6 (k n : Int) : Bool := (decide (k = 2) || decide (k = 3)) && (decide (n < 1) || decide (64 < n))
mutual
def fE : PA → Bool
 | .mk k _ _ _ _ n ks => x6 k n || qp ks
def qp : List PA → Bool
 | [] => false
 | e :: r => fE e || qp r
end
theorem kr : ∀ l,qp l = l.any fE
 | [] => rfl
 | e :: r => by rw [qp,List.any_cons,kr r]
mutual
def flS : PS' → List PS'
 | .mk k x y z e v c a rs gs fs b l => .mk k x y z e v c a rs gs fs b l :: (flL b ++ flL l)
def flL : List PS' → List PS'
 | [] => []
 | e :: r => flS e ++ flL r
end
def PS'.name : PS' → Wd
 | .mk _ x _ _ _ _ _ _ _ _ _ _ _ => x
def oK (out : List Wd) (x : Wd) : List Wd := if x.isEmpty || out.contains x then out else out ++ [x]
def jK (out : List Wd) (l : List PS') : List Wd := (flL l).foldl (fun o s => oK o s.name) out
def gB (ps : List PP) (x : Wd) : Option Nat := ps.findIdx? fun p => p.name == x
def stN (ps : List PP) (gs : List Wd) : PS' → Bool
 | .mk k x y z e v c a rs _ fs b l => ((vE e ++ vE v) ++ (vC c ++ vEs rs)).any (fun w => gs.contains w) || (decide (k = 9) && (gB ps z).isNone)
def stC (ps : List PP) : PS' → Bool
 | .mk k x y z e v c a rs gs fs b l => decide (k = 9) && match gB ps z with
  | some i => match ps[i]? with
   | some p => decide (p.params.length ≠ rs.length) || decide (p.ghosts.length ≠ gs.length)
   | none => false
  | none => false
def stP : PS' → Bool
 | .mk k x y z e v c a rs gs fs b l => decide (k = 7) && fE a
def oq : Wd := [114,101,115]
def mO : List Wd → Bool
 | [] => false
 | a :: r => r.contains a || mO r
def PP.own (x : PP) : List Wd := x.params ++ x.ghosts
def vI (ps : List PP) (i : Nat) (x : PP) : Bool := (ps.take i).any (fun o => o.name == x.name) || (x.own.contains oq || mO x.own)
def qi (ps : List PP) (x : PP) : Bool :=
 (flL x.body).any (stN ps x.ghosts) || ((jK [] x.body).any (fun w => x.own.contains w) || ((vA x.pre).any (fun w => !x.own.contains w) || (vA x.post).any (fun w => !x.own.contains w && !(w == oq))))
def oV (ps : List PP) (x : PP) : Bool := (flL x.body).any (stC ps)
def vl (x : PP) : Bool := (flL x.body).any stP || (fE x.pre || fE x.post)
def jE (ps : List PP) (i : Nat) (x : PP) : Nat := if vI ps i x then 13 else if qi ps x then 12 else if oV ps x then 14 else if vl x then 1 else 0
def fF (ps : List PP) : Nat → List PP → Nat × Int
 | _,[] => (0,-1)
 | i,x :: r => if jE ps i x = 0 then fF ps (i + 1) r else (jE ps i x,(i : Int))
def dW (ps : List PP) : Nat × Int := if eL ps = 0 then fF ps 0 ps else (eL ps,-1)
theorem sq : ∀ l : List Wd,mO l = true ↔ ¬ l.Nodup
 | [] => by simp [mO]
 | a :: r => by
  rw [mO,Bool.or_eq_true,sq r,List.nodup_cons,List.contains_iff_mem]
  constructor
  ·rintro (h | h) ⟨h1,h2⟩
   ·exact h1 h
   ·exact h h2
  ·intro h
   by_cases hm : a ∈ r
   ·exact .inl hm
   ·exact .inr fun h2 => h ⟨hm,h2⟩
theorem C1 {l : List Wd} : mO l = true ↔ ∃ k,∃ h : k < l.length,(l.take k).contains l[k] = true := by
 rw [sq]
 constructor
 ·intro h
  apply Classical.byContradiction
  intro hn
  apply h
  rw [List.nodup_iff_pairwise_ne,List.pairwise_iff_getElem]
  intro i j hi hj hij e
  exact hn ⟨j,hj,List.contains_iff_mem.2 (e ▸ List.mem_take_iff_getElem.2 ⟨i,by omega,rfl⟩)⟩
 ·rintro ⟨k,h,hc⟩ hnd
  obtain ⟨i,hi,e⟩ := List.mem_take_iff_getElem.1 (List.contains_iff_mem.1 hc)
  rw [List.nodup_iff_pairwise_ne,List.pairwise_iff_getElem] at hnd
  exact hnd i k (by omega) h (by omega) e
end Go.Proofs.YtkjnkkmokojnpaaGreatDoor
