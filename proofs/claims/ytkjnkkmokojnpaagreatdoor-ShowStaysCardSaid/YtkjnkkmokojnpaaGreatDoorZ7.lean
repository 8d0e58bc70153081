/- Programs of any kinds as data, and their trees; programs read as arguments. What the statements ask of programs: how great they are, how deep, whether they can be shown. No program is in sight. The words of a program's text. No program is in sight. How long the text of a light program can be. No program is in sight. Texts as words with blanks: how they are put together. No program is in sight. K: slices of which it does not matter whether they are known to be full. No program is in sight. -/
import Derived.Test.YtkjnkkmokojnpaaGreatDoorZ6
import Derived.Test.YtkjnkkmokojnpaaGreatDoorZ4
namespace Go.Proofs.YtkjnkkmokojnpaaGreatDoor
set_option linter.unusedSimpArgs false
set_option linter.unusedVariables false
open Go.RowKit Go.ChangeShapes Go.WideShapes
inductive PE where
 | mk (kind n : Int) (name : Wd) (kids : List PE)
mutual
def peA : PE→List AV
 | .mk k n x ks=>[inA k,inA n,bs x,.sl (bY ks) ks.length .none]
def bY : List PE→List AV
 | []=>[]
 | e :: r=>peA e ++ bY r
end
inductive PC where
 | mk (kind : Int) (e : List PE) (kids : List PC)
mutual
def bR : PC→List AV
 | .mk k e ks=>[inA k,.sl (bY e) e.length .none,.sl (db ks) ks.length .none]
def db : List PC→List AV
 | []=>[]
 | e :: r=>bR e ++ db r
end
inductive PA where
 | mk (kind : Int) (c : PC) (e v : PE) (field : Wd) (n : Int) (kids : List PA)
mutual
def paA : PA→List AV
 | .mk k c e v f n ks=>[inA k] ++ (bR c ++ (peA e ++ (peA v ++ [bs f,inA n,.sl (eT ks) ks.length .none])))
def eT : List PA→List AV
 | []=>[]
 | e :: r=>paA e ++ eT r
end
inductive PS' where
 | mk (kind : Int) (name field callee : Wd) (e v : PE) (c : PC) (a : PA) (args ghosts : List PE) (fields : List Wd) (body els : List PS')
mutual
def psA : PS'→List AV
 | .mk k x f y e v c a rs gs fs b l=>[inA k,bs x,bs f,bs y] ++ (peA e ++ (peA v ++ (bR c ++ (paA a ++ [.sl (bY rs) rs.length .none,.sl (bY gs) gs.length .none,.sl (fs.map bs) fs.length .none,.sl (dU b) b.length .none,.sl (dU l) l.length .none]))))
def dU : List PS'→List AV
 | []=>[]
 | e :: r=>psA e ++ dU r
end
structure PP where
 name : Wd
 params : List Wd
 ghosts : List Wd
 pre : PA
 post : PA
 body : List PS'
def ppA (p : PP) : List AV:=[bs p.name,.sl (p.params.map bs) p.params.length .none,.sl (p.ghosts.map bs) p.ghosts.length .none] ++ (paA p.pre ++ (paA p.post ++ [.sl (dU p.body) p.body.length .none]))
abbrev gv (l : List PP) : AV:=.sl (l.flatMap ppA) l.length .none
theorem eZ : ∀ e,(peA e).length = 4
 | .mk k n x ks=>by simp [peA]
theorem eR : ∀ e,(bR e).length = 3
 | .mk k e ks=>by simp [bR]
theorem eY : ∀ e,(paA e).length = 15
 | .mk k c e v f n ks=>by simp [paA,eR,eZ]
theorem kR : ∀ e,(psA e).length = 35
 | .mk k x f y e v c a rs gs fs b l=>by simp [psA,eR,eZ,eY]
theorem pR (p : PP) : (ppA p).length = 34:=by simp [ppA,eY]
theorem mh : ∀ l : List PE,bY l = l.flatMap peA
 | []=>rfl
 | e :: r=>by rw [bY,mh r,List.flatMap_cons]
theorem lK : ∀ l : List PC,db l = l.flatMap bR
 | []=>rfl
 | e :: r=>by rw [db,lK r,List.flatMap_cons]
theorem mg : ∀ l : List PA,eT l = l.flatMap paA
 | []=>rfl
 | e :: r=>by rw [eT,mg r,List.flatMap_cons]
theorem nX : ∀ l : List PS',dU l = l.flatMap psA
 | []=>rfl
 | e :: r=>by rw [dU,nX r,List.flatMap_cons]
abbrev vI (z : Int) : Prop:=-9223372036854775808≤z∧z≤9223372036854775807
def Lg {α : Type} (l : List α) : Prop:=l.length≤140737488351232
mutual
def OkE : PE→Prop
 | .mk k n x ks=>vI k∧vI n∧Lg x∧Lg ks∧jY ks
def jY : List PE→Prop
 | []=>True
 | e :: r=>OkE e∧jY r
end
mutual
def OkC : PC→Prop
 | .mk k e ks=>vI k∧(Lg e∧jY e)∧Lg ks∧rO ks
def rO : List PC→Prop
 | []=>True
 | e :: r=>OkC e∧rO r
end
mutual
def OkA : PA→Prop
 | .mk k c e v f n ks=>vI k∧OkC c∧OkE e∧OkE v∧Lg f∧vI n∧Lg ks∧rN ks
def rN : List PA→Prop
 | []=>True
 | e :: r=>OkA e∧rN r
end
def vJ (l : List Wd) : Prop:=Lg l∧∀ x ∈ l,Lg x
mutual
def OkS : PS'→Prop
 | .mk k x f y e v c a rs gs fs b l=>vI k∧Lg x∧Lg f∧Lg y∧OkE e∧OkE v∧OkC c∧OkA a∧(Lg rs∧jY rs)∧(Lg gs∧jY gs)∧vJ fs∧(Lg b∧jB b)∧Lg l∧jB l
def jB : List PS'→Prop
 | []=>True
 | e :: r=>OkS e∧jB r
end
def OkP (p : PP) : Prop:=Lg p.name∧vJ p.params∧vJ p.ghosts∧OkA p.pre∧OkA p.post∧Lg p.body∧jB p.body
def mt (l : List PP) : Prop:=Lg l∧∀ p ∈ l,OkP p
theorem iU : ∀ {l : List PE},jY l→∀ e ∈ l,OkE e
 | [],_=>fun e h=>absurd h List.not_mem_nil
 | a :: l,h=>fun e he=>by
  rcases List.mem_cons.1 he with rfl | he
  ·exact h.1
  ·exact iU h.2 e he
theorem nR : ∀ {l : List PC},rO l→∀ e ∈ l,OkC e
 | [],_=>fun e h=>absurd h List.not_mem_nil
 | a :: l,h=>fun e he=>by
  rcases List.mem_cons.1 he with rfl | he
  ·exact h.1
  ·exact nR h.2 e he
theorem nO : ∀ {l : List PA},rN l→∀ e ∈ l,OkA e
 | [],_=>fun e h=>absurd h List.not_mem_nil
 | a :: l,h=>fun e he=>by
  rcases List.mem_cons.1 he with rfl | he
  ·exact h.1
  ·exact nO h.2 e he
theorem kl : ∀ {l : List PS'},jB l→∀ e ∈ l,OkS e
 | [],_=>fun e h=>absurd h List.not_mem_nil
 | a :: l,h=>fun e he=>by
  rcases List.mem_cons.1 he with rfl | he
  ·exact h.1
  ·exact kl h.2 e he
theorem tO : ∀ {l : List PE},(∀ e ∈ l,OkE e)→jY l
 | [],_=>trivial
 | a :: l,h=>⟨h a (by simp),tO fun e he=>h e (by simp [he])⟩
theorem xd : ∀ {l : List PC},(∀ e ∈ l,OkC e)→rO l
 | [],_=>trivial
 | a :: l,h=>⟨h a (by simp),xd fun e he=>h e (by simp [he])⟩
theorem xc : ∀ {l : List PA},(∀ e ∈ l,OkA e)→rN l
 | [],_=>trivial
 | a :: l,h=>⟨h a (by simp),xc fun e he=>h e (by simp [he])⟩
theorem tP : ∀ {l : List PS'},(∀ e ∈ l,OkS e)→jB l
 | [],_=>trivial
 | a :: l,h=>⟨h a (by simp),tP fun e he=>h e (by simp [he])⟩
instance : Inhabited PE:=⟨.mk 0 0 [] []⟩
instance : Inhabited PC:=⟨.mk 0 [] []⟩
instance : Inhabited PA:=⟨.mk 0 default default default [] 0 []⟩
instance : Inhabited PS':=⟨.mk 0 [] [] [] default default default default [] [] [] [] []⟩
instance : Inhabited PP:=⟨⟨[],[],[],default,default,[]⟩⟩
section
variable {H : Type} {enc : TypeId × Value→H} {w : World} {base : Nat} {spare : Nat→Bool} {held : Bool}
theorem pj {α : Type} {l : List α} {b : Nat} (hb : 0 < b) (h : l.length * b≤140737488351232) : Lg l:=by
 have:=Nat.le_mul_of_pos_right l.length hb
 unfold Lg;omega
theorem wj (fuel : Nat) : Reads enc Tryz.prog w base spare held 48 (fun l : List Wd=>[.sl (l.map bs) l.length .none]) vJ fuel :=
 (reads_slice Tryz.underlying48 (s:=1) (by kernel_rfl) (of_decide_eq_true (by kernel_rfl)) (by decide) (fun _=>rfl) fun n _=>mQ n).map id (fun l=>by rw [show l.flatMap (fun l : Wd=>[bs l]) = l.map bs from (by induction l <;> simp_all)];rfl) fun l h=>⟨pj (of_decide_eq_true (by kernel_rfl)) h.2,h.1⟩
theorem u3 : ∀ fuel,Reads enc Tryz.prog w base spare held 47 peA OkE fuel:=fun fuel=>by
 induction fuel using Nat.strongRecOn with
 | _ fuel ih =>
 exact (sa Tryz.underlying47 rfl (n0:=1) (by kernel_rfl) (n1:=1) (by kernel_rfl) (n2:=1) (by kernel_rfl) (n3:=1) (by kernel_rfl) rfl rfl rfl (by kernel_rfl)
  (fun n _=>x9 n) (fun n _=>x9 n) (fun n _=>mQ n)
  (fun n hn=>reads_slice Tryz.underlying45 (s:=4) (by kernel_rfl) (of_decide_eq_true (by kernel_rfl)) (by decide) eZ fun m hm=>ih m (by omega))).map (fun p=>(.mk p.1 p.2.1 p.2.2.1 p.2.2.2 : PE))
  (fun p=>by rw [peA,mh];rfl) fun p h=>⟨h.1,h.2.1,h.2.2.1,pj (of_decide_eq_true (by kernel_rfl)) h.2.2.2.2,tO h.2.2.2.1⟩
theorem wi (fuel : Nat) : Reads enc Tryz.prog w base spare held 45 (fun l : List PE=>[.sl (bY l) l.length .none]) (fun l=>Lg l∧jY l) fuel :=
 (reads_slice Tryz.underlying45 (s:=4) (by kernel_rfl) (of_decide_eq_true (by kernel_rfl)) (by decide) eZ fun n _=>u3 n).map id (fun l=>by simp only [id,mh]) fun l h=>⟨pj (of_decide_eq_true (by kernel_rfl)) h.2,tO h.1⟩
theorem Ap : ∀ fuel,Reads enc Tryz.prog w base spare held 51 bR OkC fuel:=fun fuel=>by
 induction fuel using Nat.strongRecOn with
 | _ fuel ih =>
 exact (rZ Tryz.underlying51 rfl (n0:=1) (by kernel_rfl) (n1:=1) (by kernel_rfl) (n2:=1) (by kernel_rfl) rfl rfl (by kernel_rfl)
  (fun n _=>x9 n) (fun n _=>wi n)
  (fun n hn=>reads_slice Tryz.underlying49 (s:=3) (by kernel_rfl) (of_decide_eq_true (by kernel_rfl)) (by decide) eR fun m hm=>ih m (by omega))).map (fun p=>(.mk p.1 p.2.1 p.2.2 : PC))
  (fun p=>by rw [bR,lK];rfl) fun p h=>⟨h.1,h.2.1,pj (of_decide_eq_true (by kernel_rfl)) h.2.2.2,xd h.2.2.1⟩
theorem Ao : ∀ fuel,Reads enc Tryz.prog w base spare held 54 paA OkA fuel:=fun fuel=>by
 induction fuel using Nat.strongRecOn with
 | _ fuel ih =>
 exact (sc Tryz.underlying54 rfl (n0:=1) (by kernel_rfl) (n1:=3) (by kernel_rfl) (n2:=4) (by kernel_rfl) (n3:=4) (by kernel_rfl) (n4:=1) (by kernel_rfl) (n5:=1) (by kernel_rfl) (n6:=1) (by kernel_rfl) rfl rfl rfl rfl rfl rfl (by kernel_rfl)
  (fun n _=>x9 n) (fun n _=>Ap n) (fun n _=>u3 n) (fun n _=>u3 n) (fun n _=>mQ n) (fun n _=>x9 n)
  (fun n hn=>reads_slice Tryz.underlying52 (s:=15) (by kernel_rfl) (of_decide_eq_true (by kernel_rfl)) (by decide) eY fun m hm=>ih m (by omega))).map (fun p=>(.mk p.1 p.2.1 p.2.2.1 p.2.2.2.1 p.2.2.2.2.1 p.2.2.2.2.2.1 p.2.2.2.2.2.2 : PA))
  (fun p=>by rw [paA,mg];rfl) fun p h=>⟨h.1,h.2.1,h.2.2.1,h.2.2.2.1,h.2.2.2.2.1,h.2.2.2.2.2.1,pj (of_decide_eq_true (by kernel_rfl)) h.2.2.2.2.2.2.2,xc h.2.2.2.2.2.2.1⟩
set_option maxHeartbeats 4000000 in
theorem Fe : ∀ fuel,Reads enc Tryz.prog w base spare held 57 psA OkS fuel:=fun fuel=>by
 induction fuel using Nat.strongRecOn with
 | _ fuel ih =>
 have hb : ∀ n,n < fuel→Reads enc Tryz.prog w base spare held 55 (fun l : List PS'=>[.sl (dU l) l.length .none]) (fun l=>Lg l∧jB l) n:=fun n hn =>
  (reads_slice Tryz.underlying55 (s:=35) (by kernel_rfl) (of_decide_eq_true (by kernel_rfl)) (by decide) kR fun m hm=>ih m (by omega)).map id (fun l=>by simp only [id,nX]) fun l h=>⟨pj (of_decide_eq_true (by kernel_rfl)) h.2,tP h.1⟩
 exact (rj Tryz.underlying57 rfl (n0:=1) (by kernel_rfl) (n1:=1) (by kernel_rfl) (n2:=1) (by kernel_rfl) (n3:=1) (by kernel_rfl) (n4:=4) (by kernel_rfl) (n5:=4) (by kernel_rfl) (n6:=3) (by kernel_rfl) (n7:=15) (by kernel_rfl) (n8:=1) (by kernel_rfl) (n9:=1) (by kernel_rfl) (n10:=1) (by kernel_rfl) (n11:=1) (by kernel_rfl) (n12:=1) (by kernel_rfl) rfl rfl rfl rfl rfl rfl rfl rfl rfl rfl rfl rfl (by kernel_rfl)
  (fun n _=>x9 n) (fun n _=>mQ n) (fun n _=>mQ n) (fun n _=>mQ n) (fun n _=>u3 n) (fun n _=>u3 n) (fun n _=>Ap n) (fun n _=>Ao n) (fun n _=>wi n) (fun n _=>wi n) (fun n _=>wj n) hb hb).map
  (fun p=>(.mk p.1 p.2.1 p.2.2.1 p.2.2.2.1 p.2.2.2.2.1 p.2.2.2.2.2.1 p.2.2.2.2.2.2.1 p.2.2.2.2.2.2.2.1 p.2.2.2.2.2.2.2.2.1 p.2.2.2.2.2.2.2.2.2.1 p.2.2.2.2.2.2.2.2.2.2.1 p.2.2.2.2.2.2.2.2.2.2.2.1 p.2.2.2.2.2.2.2.2.2.2.2.2 : PS'))
  (fun p=>by rw [psA];rfl) fun p h=>h
theorem Fd (fuel : Nat) : Reads enc Tryz.prog w base spare held 59 ppA OkP fuel :=
 (sb Tryz.underlying59 rfl (n0:=1) (by kernel_rfl) (n1:=1) (by kernel_rfl) (n2:=1) (by kernel_rfl) (n3:=15) (by kernel_rfl) (n4:=15) (by kernel_rfl) (n5:=1) (by kernel_rfl) rfl rfl rfl rfl rfl (by kernel_rfl)
  (fun n _=>mQ n) (fun n _=>wj n) (fun n _=>wj n) (fun n _=>Ao n) (fun n _=>Ao n)
  (fun n _=>reads_slice Tryz.underlying55 (s:=35) (by kernel_rfl) (of_decide_eq_true (by kernel_rfl)) (by decide) kR fun m _=>Fe m)).map (fun p=>(⟨p.1,p.2.1,p.2.2.1,p.2.2.2.1,p.2.2.2.2.1,p.2.2.2.2.2⟩ : PP))
  (fun p=>by rw [ppA,nX];rfl) fun p h=>⟨h.1,h.2.1,h.2.2.1,h.2.2.2.1,h.2.2.2.2.1,pj (of_decide_eq_true (by kernel_rfl)) h.2.2.2.2.2.2,tP h.2.2.2.2.2.1⟩
theorem xq (fuel : Nat) : Reads enc Tryz.prog w base spare held 24 (fun l=>[gv l]) mt fuel :=
 (rY Tryz.underlying24 rfl (by kernel_rfl) fun n _ =>
  reads_slice Tryz.underlying22 (s:=34) (by kernel_rfl) (of_decide_eq_true (by kernel_rfl)) (by decide) pR fun n _=>Fd n).map id (fun _=>rfl) fun _ h=>⟨pj (of_decide_eq_true (by kernel_rfl)) h.2,h.1⟩
end
end Go.Proofs.YtkjnkkmokojnpaaGreatDoor
namespace Go.Proofs.YtkjnkkmokojnpaaGreatDoor
set_option linter.unusedSimpArgs false
set_option linter.unusedVariables false
open Go.RowKit
def oU (f : List PE→Int→Int) : List PE→Int→Int
 | [],left=>left
 | .mk k n x ks :: r,left=>if left < 0 then left else if 200 < x.length then -1 else oU f r (f ks (left - 1))
def szE : Nat→List PE→Int→Int
 | 0,_,_=>-1
 | d + 1,l,left=>oU (szE d) l left
def oT (d : Nat) (f : List PC→Int→Int) : List PC→Int→Int
 | [],left=>left
 | .mk k e ks :: r,left=>if left < 0 then left else oT d f r (if 0≤szE d e (left - 1) then f ks (szE d e (left - 1)) else szE d e (left - 1))
def szC : Nat→List PC→Int→Int
 | 0,_,_=>-1
 | d + 1,l,left=>oT d (szC d) l left
def eM (a : Int) (f : Int→Int) : Int:=if 0≤a then f a else a
def oS (d : Nat) (f : List PA→Int→Int) : List PA→Int→Int
 | [],left=>left
 | .mk k c e v x n ks :: r,left=>if left < 0 then left else if 200 < x.length then -1 else oS d f r (eM (eM (szC d [c] (left - 1)) (szE d [e,v])) (f ks))
def szA : Nat→List PA→Int→Int
 | 0,_,_=>-1
 | d + 1,l,left=>oS d (szA d) l left
def ol (d : Nat) (f : List PS'→Int→Int) : List PS'→Int→Int
 | [],left=>left
 | .mk k x y z e v c a rs gs fs b l :: r,left=>if left < 0 then left else if 50 < fs.length∨200 < x.length∨200 < y.length∨200 < z.length then -1
   else ol d f r (eM (eM (eM (eM (eM (eM (szC d [c] (left - 1)) (szE d [e,v])) (szE d rs)) (szE d gs)) (szA d [a])) (f b)) (f l))
def szS : Nat→List PS'→Int→Int
 | 0,_,_=>-1
 | d + 1,l,left=>ol d (szS d) l left
def jV : List PP→Int→Bool
 | [],left=>decide (0≤left)
 | p :: r,left=>if left < 0 then false else if 50 < p.params.length∨50 < p.ghosts.length∨200 < p.name.length then false else jV r (eM (szA 300 [p.pre,p.post] left) (szS 300 p.body))
def ij (l : List PP) (left : Int) : Bool:=if 50 < l.length then false else jV l left
def Dn {α : Type} (f : α→Int→Int) : Prop:=∀ x left,-1≤left→-1≤f x left∧f x left≤left
theorem fF {a b : Int} (ha : -1≤a∧a≤b) {f : Int→Int} (hf : ∀ c,-1≤c→-1≤f c∧f c≤c) : -1≤eM a f∧eM a f≤b:=by
 unfold eM;split
 ·have:=hf a ha.1;omega
 ·exact ha
theorem zq {f : List PE→Int→Int} (hf : Dn f) : Dn (oU f)
 | [],left=>fun h=>⟨h,Int.le_refl _⟩
 | .mk k n x ks :: r,left=>fun h=>by
  unfold oU
  split
  ·exact ⟨h,Int.le_refl _⟩
  split
  ·omega
  ·have h1:=hf ks (left - 1) (by omega)
   have h2:=zq hf r (f ks (left - 1)) h1.1
   omega
theorem kC : ∀ d,Dn (szE d)
 | 0=>fun _ left h=>⟨Int.le_refl _,h⟩
 | d + 1=>zq (kC d)
theorem uA (d : Nat) {f : List PC→Int→Int} (hf : Dn f) : Dn (oT d f)
 | [],left=>fun h=>⟨h,Int.le_refl _⟩
 | .mk k e ks :: r,left=>fun h=>by
  unfold oT
  split
  ·exact ⟨h,Int.le_refl _⟩
  ·have h1:=kC d e (left - 1) (by omega)
   split
   ·have h2:=hf ks _ h1.1
    have h3:=uA d hf r _ h2.1
    omega
   ·have h3:=uA d hf r _ h1.1
    omega
theorem qx : ∀ d,Dn (szC d)
 | 0=>fun _ left h=>⟨Int.le_refl _,h⟩
 | d + 1=>uA d (qx d)
theorem zo (d : Nat) {f : List PA→Int→Int} (hf : Dn f) : Dn (oS d f)
 | [],left=>fun h=>⟨h,Int.le_refl _⟩
 | .mk k c e v x n ks :: r,left=>fun h=>by
  unfold oS
  split
  ·exact ⟨h,Int.le_refl _⟩
  split
  ·omega
  ·have h1:=qx d [c] (left - 1) (by omega)
   have h2:=fF (fF h1 (kC d [e,v])) (hf ks)
   have h3:=zo d hf r _ h2.1
   omega
theorem tq : ∀ d,Dn (szA d)
 | 0=>fun _ left h=>⟨Int.le_refl _,h⟩
 | d + 1=>zo d (tq d)
theorem zr (d : Nat) {f : List PS'→Int→Int} (hf : Dn f) : Dn (ol d f)
 | [],left=>fun h=>⟨h,Int.le_refl _⟩
 | .mk k x y z e v c a rs gs fs b l :: r,left=>fun h=>by
  unfold ol
  split
  ·exact ⟨h,Int.le_refl _⟩
  split
  ·omega
  ·have h1:=qx d [c] (left - 1) (by omega)
   have h2:=fF (fF (fF (fF (fF (fF h1 (kC d [e,v])) (kC d rs)) (kC d gs)) (tq d [a])) (hf b)) (hf l)
   have h3:=zr d hf r _ h2.1
   omega
theorem uB : ∀ d,Dn (szS d)
 | 0=>fun _ left h=>⟨Int.le_refl _,h⟩
 | d + 1=>zr d (uB d)
def mxN : List Nat→Nat
 | []=>0
 | a :: r=>max a (mxN r)
def dE : Nat→PE→Nat
 | 0,_=>1
 | b + 1,.mk _ _ _ ks=>mxN (ks.map (dE b)) + 1
def dC : Nat→PC→Nat
 | 0,_=>1
 | b + 1,.mk _ e ks=>max (mxN (e.map (dE b))) (mxN (ks.map (dC b))) + 1
def dA : Nat→PA→Nat
 | 0,_=>1
 | b + 1,.mk _ c e v _ _ ks=>max (max (dC b c) (max (dE b e) (dE b v))) (mxN (ks.map (dA b))) + 1
def dS : Nat→PS'→Nat
 | 0,_=>1
 | b + 1,.mk _ _ _ _ e v c a rs gs _ bd l=>max (max (max (max (max (max (dC b c) (max (dE b e) (dE b v))) (dA b a)) (mxN (rs.map (dE b)))) (mxN (gs.map (dE b)))) (mxN (bd.map (dS b)))) (mxN (l.map (dS b))) + 1
def fy : Nat→PE→Bool
 | 0,_=>true
 | b + 1,.mk _ _ _ ks=>ks.any (fy b)
def ju : Nat→PC→Bool
 | 0,_=>true
 | b + 1,.mk _ e ks=>e.any (fy b) || ks.any (ju b)
def gC : Nat→PA→Bool
 | 0,_=>true
 | b + 1,.mk _ c e v _ _ ks=>ju b c || (fy b e || (fy b v || ks.any (gC b)))
def fZ : Nat→PS'→Bool
 | 0,_=>true
 | b + 1,.mk _ _ _ _ e v c a rs gs _ bd l=>fy b e || (fy b v || (ju b c || (gC b a || (rs.any (fy b) || (gs.any (fy b) || (bd.any (fZ b) || l.any (fZ b)))))))
theorem Eh {a b c : Nat} : a < max b c ↔ a < b∨a < c:=by omega
theorem nM {α : Type} {f : α→Nat} {p : α→Bool} {b : Nat} (h : ∀ x,p x = true ↔ b < f x) : ∀ l : List α,l.any p = true ↔ b < mxN (l.map f)
 | []=>by simp [mxN]
 | a :: r=>by rw [List.any_cons,Bool.or_eq_true,List.map_cons,mxN,Eh,h,nM h r]
theorem hH : ∀ b e,fy b e = true ↔ b < dE b e
 | 0,_=>by simp [fy,dE]
 | b + 1,.mk _ _ _ ks=>by rw [fy,dE,nM (hH b)];omega
theorem ox : ∀ b e,ju b e = true ↔ b < dC b e
 | 0,_=>by simp [ju,dC]
 | b + 1,.mk _ e ks=>by rw [ju,dC,Bool.or_eq_true,nM (hH b),nM (ox b)];omega
theorem lX : ∀ b e,gC b e = true ↔ b < dA b e
 | 0,_=>by simp [gC,dA]
 | b + 1,.mk _ c e v _ _ ks=>by rw [gC,dA,Bool.or_eq_true,Bool.or_eq_true,Bool.or_eq_true,nM (lX b),hH,hH,ox];omega
theorem oy : ∀ b e,fZ b e = true ↔ b < dS b e
 | 0,_=>by simp [fZ,dS]
 | b + 1,.mk _ _ _ _ e v c a rs gs _ bd l=>by
  rw [fZ,dS]
  simp only [Bool.or_eq_true]
  rw [nM (hH b),nM (hH b),nM (oy b),nM (oy b),hH,hH,ox,lX];omega
def gK (n : Int) : Bool:=decide (-1073741824≤n) && decide (n≤1073741824)
def rU (k n : Int) (x : Wd) (m : Nat) : Bool :=
 if k = 0 then gK n && (x.isEmpty && decide (m = 0))
 else if k = 1 then dQ x && (decide (n = 0) && decide (m = 0))
 else if k = 2∨k = 3 then x.isEmpty && (decide (n = 0) && decide (m = 2))
 else if k = 4 then gK n && (x.isEmpty && decide (m = 1))
 else false
mutual
def seE : PE→Bool
 | .mk k n x ks=>rU k n x ks.length && gV ks
def gV : List PE→Bool
 | []=>true
 | e :: r=>seE e && gV r
end
def jC (k : Int) (m n : Nat) : Bool :=
 if k = 0∨k = 1 then decide (m = 0) && decide (n = 0)
 else if k = 2∨k = 3∨k = 4∨k = 5 then decide (m = 2) && decide (n = 0)
 else if k = 6 then decide (m = 0) && decide (n = 1)
 else if k = 7∨k = 8 then decide (m = 0) && decide (n = 2)
 else false
mutual
def seC : PC→Bool
 | .mk k e ks=>jC k e.length ks.length && (gV e && lO ks)
def lO : List PC→Bool
 | []=>true
 | e :: r=>seC e && lO r
end
def dG : PE→Bool
 | .mk k n x ks=>!decide (k = 0) || (!decide (n = 0) || (!x.isEmpty || decide (0 < ks.length)))
def fi : PC→Bool
 | .mk k e ks=>!decide (k = 0) || decide (0 < e.length + ks.length)
def mN (e : PE) (f : Wd) (n : Int) : Bool:=seE e && (dQ f && (decide (0≤n) && decide (n≤1073741824)))
def x5 (e : PE) (f : Wd) (n : Int) : Bool:=!dG e && (f.isEmpty && decide (n = 0))
def vO (k : Int) (c : PC) (e v : PE) (f : Wd) (n : Int) (m : Nat) : Bool :=
 if k = 0 then decide (m = 0) && (!fi c && (x5 e f n && !dG v))
 else if k = 1 then decide (m = 0) && (seC c && (x5 e f n && !dG v))
 else if k = 2 then decide (m = 0) && (!fi c && (mN e f n && !dG v))
 else if k = 3 then decide (m = 0) && (!fi c && (mN e f n && seE v))
 else if k = 4 then decide (m = 2) && (!fi c && (x5 e f n && !dG v))
 else if k = 5 then decide (m = 2) && (seC c && (x5 e f n && !dG v))
 else false
mutual
def seA : PA→Bool
 | .mk k c e v f n ks=>vO k c e v f n ks.length && lN ks
def lN : List PA→Bool
 | []=>true
 | e :: r=>seA e && lN r
end
def fP : PA→Bool
 | .mk k c e v f n ks=>!decide (k = 0) || (fi c || (dG e || (dG v || (!f.isEmpty || (!decide (n = 0) || decide (0 < ks.length))))))
def gx (l : List Wd) : Bool:=l.all dQ
mutual
def seS : PS'→Bool
 | .mk k x f y e v c a rs gs fs b l =>
  if k = 0 then x.isEmpty && (f.isEmpty && (y.isEmpty && (!dG e && (!dG v && (!fi c && (!fP a && (rs.isEmpty && (gs.isEmpty && (fs.isEmpty && (b.isEmpty && l.isEmpty))))))))))
  else if k = 1 then dQ x && (f.isEmpty && (y.isEmpty && (seE e && (!dG v && (!fi c && (!fP a && (rs.isEmpty && (gs.isEmpty && (fs.isEmpty && (b.isEmpty && l.isEmpty))))))))))
  else if k = 2 then dQ x && (dQ f && (y.isEmpty && (seE e && (!dG v && (!fi c && (!fP a && (rs.isEmpty && (gs.isEmpty && (fs.isEmpty && (b.isEmpty && l.isEmpty))))))))))
  else if k = 3 then x.isEmpty && (dQ f && (y.isEmpty && (seE e && (seE v && (!fi c && (!fP a && (rs.isEmpty && (gs.isEmpty && (fs.isEmpty && (b.isEmpty && l.isEmpty))))))))))
  else if k = 4 then dQ x && (f.isEmpty && (y.isEmpty && (!dG e && (!dG v && (!fi c && (!fP a && (rs.isEmpty && (gs.isEmpty && ((!fs.isEmpty && gx fs) && (b.isEmpty && l.isEmpty))))))))))
  else if k = 5 then x.isEmpty && (dQ f && (y.isEmpty && (seE e && (!dG v && (!fi c && (!fP a && (rs.isEmpty && (gs.isEmpty && (fs.isEmpty && (b.isEmpty && l.isEmpty))))))))))
  else if k = 6 then x.isEmpty && (f.isEmpty && (y.isEmpty && (!dG e && (!dG v && (seC c && (!fP a && (rs.isEmpty && (gs.isEmpty && (fs.isEmpty && (gW b && gW l))))))))))
  else if k = 7 then x.isEmpty && (f.isEmpty && (y.isEmpty && (!dG e && (!dG v && (seC c && (seA a && (rs.isEmpty && (gs.isEmpty && (fs.isEmpty && (gW b && l.isEmpty))))))))))
  else if k = 8 then x.isEmpty && (f.isEmpty && (y.isEmpty && (!dG e && (!dG v && (seC c && (!fP a && (rs.isEmpty && (gs.isEmpty && (fs.isEmpty && (b.isEmpty && l.isEmpty))))))))))
  else if k = 9 then (x.isEmpty || dQ x) && (f.isEmpty && (dQ y && (!dG e && (!dG v && (!fi c && (!fP a && (gV rs && (gV gs && (fs.isEmpty && (b.isEmpty && l.isEmpty))))))))))
  else false
def gW : List PS'→Bool
 | []=>true
 | e :: r=>seS e && gW r
end
def fp (p : PP) : Bool:=gC 100 p.pre || (gC 100 p.post || p.body.any (fZ 100))
def fC (p : PP) : Bool:=dQ p.name && (gx p.params && (gx p.ghosts && (seA p.pre && (seA p.post && gW p.body))))
def eO (l : List PP) : Nat:=if l.any fp then 4 else if l.all fC then 0 else 5
end Go.Proofs.YtkjnkkmokojnpaaGreatDoor
namespace Go.Proofs.YtkjnkkmokojnpaaGreatDoor
set_option linter.unusedSimpArgs false
set_option linter.unusedVariables false
open Go.RowKit
def aX : List Wd→Wd
 | []=>[]
 | a :: r=>if r.isEmpty then a else a ++ 32 :: aX r
theorem xY (a : Wd) : aX [a] = a:=rfl
theorem jw (a : Wd) {r : List Wd} (h : r ≠ []) : aX (a :: r) = a ++ 32 :: aX r:=by
 rw [aX,if_neg (by simpa using h)]
theorem oF : ∀ {a b : List Wd},a ≠ []→b ≠ []→aX (a ++ b) = aX a ++ 32 :: aX b
 | [],_,h,_=>absurd rfl h
 | [x],b,_,h=>by rw [List.singleton_append,jw x h,xY]
 | x :: y :: r,b,_,h=>by
  rw [List.cons_append,jw x (by simp),jw x (by simp),oF (by simp) h,List.append_assoc,List.cons_append]
def gB (l : List Wd) : Wd:=l.flatMap fun x=>x ++ [32]
theorem du (a b : List Wd) : gB (a ++ b) = gB a ++ gB b:=by simp [gB]
theorem fS : ∀ {l : List Wd},l ≠ []→gB l = aX l ++ [32]
 | [],h=>absurd rfl h
 | [x],_=>by simp [gB,aX]
 | x :: y :: r,_=>by
  rw [jw x (by simp),List.append_assoc,List.cons_append,← fS (l:=y :: r) (by simp)]
  simp [gB]
def rT : Nat→Nat→Wd
 | 0,_=>[]
 | f + 1,n=>if n < 10 then [UInt8.ofNat (48 + n)] else rT f (n / 10) ++ [UInt8.ofNat (48 + n % 10)]
def dec (n : Nat) : Wd:=rT (n + 1) n
theorem su : ∀ (f g n : Nat),n < f→n < g→rT f n = rT g n
 | 0,_,_,h,_=>absurd h (by omega)
 | _,0,_,_,h=>absurd h (by omega)
 | f + 1,g + 1,n,h,k=>by
  unfold rT
  split
  ·rfl
  ·rw [su f g (n / 10) (by omega) (by omega)]
theorem yX {n : Nat} (h : n < 10) : dec n = [UInt8.ofNat (48 + n)]:=by unfold dec rT;rw [if_pos h]
theorem yW {n : Nat} (h : 10≤n) : dec n = dec (n / 10) ++ [UInt8.ofNat (48 + n % 10)]:=by
 unfold dec
 rw [rT,if_neg (by omega),su n (n / 10 + 1) (n / 10) (by omega) (by omega)]
def fR (n : Int) : List Wd:=if n < 0 then [[45],dec (-n).toNat] else [dec n.toNat]
theorem vw (n : Int) : fR n ≠ []:=by unfold fR;split <;> simp
def inT (p : Int × List Wd) : List Wd:=if p.1 = 2∨p.1 = 3 then [[40]] ++ p.2 ++ [[41]] else p.2
def PE.kind : PE→Int
 | .mk k _ _ _=>k
mutual
def tkE : PE→List Wd
 | .mk k n x ks=>if k = 0 then fR n else if k = 1 then [x] else if k = 4 then fR n ++ [[42]] ++ inT ((mY ks).getD 0 (0,[]))
  else ((mY ks).getD 0 (0,[])).2 ++ [if k = 3 then [45] else [43]] ++ inT ((mY ks).getD 1 (0,[]))
def mY : List PE→List (Int × List Wd)
 | []=>[]
 | .mk k n x ks :: r=>(k,tkE (.mk k n x ks)) :: mY r
end
theorem jA : ∀ l : List PE,mY l = l.map fun e=>(e.kind,tkE e)
 | []=>rfl
 | .mk k n x ks :: r=>by rw [mY,jA r];rfl
def PC.kind : PC→Int
 | .mk k _ _=>k
def fT (b : Bool) (l : List Wd) : List Wd:=if b then [[91]] ++ l ++ [[93]] else l
def rR (k : Int) : Wd:=if k = 3 then [33,61] else if k = 4 then [60] else if k = 5 then [60,61] else [61,61]
mutual
def tkC : PC→List Wd
 | .mk k e ks =>
  let a:=(jX ks).getD 0 (0,[])
  let b:=(jX ks).getD 1 (0,[])
  if k = 0 then [[116,114,117,101]] else if k = 1 then [[102,97,108,115,101]]
  else if k = 6 then [[33]] ++ fT (decide (a.1 = 7) || decide (a.1 = 8)) a.2
  else if k = 7 then fT (decide (a.1 = 8)) a.2 ++ [[38,38]] ++ fT (decide (b.1 = 7) || decide (b.1 = 8)) b.2
  else if k = 8 then a.2 ++ [[124,124]] ++ fT (decide (b.1 = 8)) b.2
  else ((mY e).getD 0 (0,[])).2 ++ [rR k] ++ ((mY e).getD 1 (0,[])).2
def jX : List PC→List (Int × List Wd)
 | []=>[]
 | .mk k e ks :: r=>(k,tkC (.mk k e ks)) :: jX r
end
theorem jz : ∀ l : List PC,jX l = l.map fun e=>(e.kind,tkC e)
 | []=>rfl
 | .mk k n x :: r=>by rw [jX,jz r];rfl
def PA.kind : PA→Int
 | .mk k _ _ _ _ _ _=>k
mutual
def tkA : PA→List Wd
 | .mk k c e v f n ks =>
  let a:=(rB ks).getD 0 (0,[])
  let b:=(rB ks).getD 1 (0,[])
  if k = 0 then [[101,109,112]]
  else if k = 1 then [[91]] ++ tkC c ++ [[93]]
  else if k = 2 then [[97,99,99],[40]] ++ tkE e ++ [[46],f,[44]] ++ fR n ++ [[41]]
  else if k = 3 then [[112,116,115],[40]] ++ tkE e ++ [[46],f,[44]] ++ fR n ++ [[44]] ++ tkE v ++ [[41]]
  else if k = 4 then a.2 ++ [[38]] ++ (if b.1 = 4 then [[40]] ++ b.2 ++ [[41]] else b.2)
  else [[105,102]] ++ tkC c ++ [[123]] ++ a.2 ++ [[125],[101,108,115,101],[123]] ++ b.2 ++ [[125]]
def rB : List PA→List (Int × List Wd)
 | []=>[]
 | .mk k c e v f n ks :: r=>(k,tkA (.mk k c e v f n ks)) :: rB r
end
theorem lT : ∀ l : List PA,rB l = l.map fun e=>(e.kind,tkA e)
 | []=>rfl
 | .mk k c e v f n ks :: r=>by rw [rB,lT r];rfl
def ew : List (List Wd)→List Wd
 | []=>[]
 | a :: r=>if r.isEmpty then a else a ++ [[44]] ++ ew r
def fM (e : PE) (f : Wd) : List Wd:=tkE e ++ [[46],f]
mutual
def tkS : PS'→List Wd
 | .mk k x f y e v c a rs gs fs b l =>
  let nm:=if x.isEmpty then [] else [x,[58,61]]
  if k = 0 then [[115,107,105,112],[59]]
  else if k = 1 then nm ++ tkE e ++ [[59]]
  else if k = 2 then nm ++ [[103,101,116]] ++ fM e f ++ [[59]]
  else if k = 3 then [[112,117,116]] ++ fM e f ++ [[58,61]] ++ tkE v ++ [[59]]
  else if k = 4 then nm ++ [[110,101,119],[40]] ++ ew (fs.map fun x=>[x]) ++ [[41],[59]]
  else if k = 5 then [[102,114,101,101]] ++ fM e f ++ [[59]]
  else if k = 6 then [[105,102]] ++ tkC c ++ [[123]] ++ eE b ++ [[125],[101,108,115,101],[123]] ++ eE l ++ [[125]]
  else if k = 7 then [[119,104,105,108,101]] ++ tkC c ++ [[105,110,118,97,114,105,97,110,116]] ++ tkA a ++ [[123]] ++ eE b ++ [[125]]
  else if k = 8 then [[97,115,115,101,114,116]] ++ tkC c ++ [[59]]
  else nm ++ [[99,97,108,108],y,[40]] ++ ew (rs.map tkE) ++ [[59]] ++ ew (gs.map tkE) ++ [[41],[59]]
def eE : List PS'→List Wd
 | []=>[]
 | e :: r=>tkS e ++ eE r
end
def tkB (l : List PS') : List Wd:=[[123]] ++ eE l ++ [[125]]
def tkP (p : PP) : List Wd:=[[112,114,111,99],p.name,[40]] ++ ew (p.params.map fun x=>[x]) ++ [[59]] ++ ew (p.ghosts.map fun x=>[x]) ++ [[41],[114,101,113,117,105,114,101,115]] ++ tkA p.pre ++ [[101,110,115,117,114,101,115]] ++ tkA p.post ++ tkB p.body
def dX (l : List PP) : List Wd:=l.flatMap tkP
def fK (l : List PP) : Wd × Nat:=if eO l = 0 then (if (aX (dX l)).length≤65536 then (aX (dX l),0) else ([],2)) else ([],eO l)
end Go.Proofs.YtkjnkkmokojnpaaGreatDoor
namespace Go.Proofs.YtkjnkkmokojnpaaGreatDoor
set_option linter.unusedSimpArgs false
set_option linter.unusedVariables false
open Go.RowKit
mutual
def nE : PE→Nat
 | .mk _ _ _ ks=>1 + nEs ks
def nEs : List PE→Nat
 | []=>0
 | e :: r=>nE e + nEs r
end
mutual
def nC : PC→Nat
 | .mk _ e ks=>1 + nEs e + nCs ks
def nCs : List PC→Nat
 | []=>0
 | e :: r=>nC e + nCs r
end
mutual
def nA : PA→Nat
 | .mk _ c e v _ _ ks=>1 + nC c + nE e + nE v + nAs ks
def nAs : List PA→Nat
 | []=>0
 | e :: r=>nA e + nAs r
end
mutual
def nS : PS'→Nat
 | .mk _ _ _ _ e v c a rs gs _ b l=>1 + nC c + nE e + nE v + nEs rs + nEs gs + nA a + nSs b + nSs l
def nSs : List PS'→Nat
 | []=>0
 | e :: r=>nS e + nSs r
end
theorem gj {a : Int} {f : Int→Int} (h : 0≤eM a f) : 0≤a∧eM a f = f a:=by
 unfold eM at h ⊢
 by_cases ha : 0≤a
 ·rw [if_pos ha];exact ⟨ha,rfl⟩
 ·rw [if_neg ha] at h;exact absurd h ha
theorem mEl (d : Nat) (ih : ∀ (l : List PE) (left : Int),-1≤left→0≤szE d l left→(nEs l : Int)≤left - szE d l left) : ∀ (l : List PE) (left : Int),-1≤left→0≤oU (szE d) l left→(nEs l : Int)≤left - oU (szE d) l left
 | [],left,_,_=>by simp [oU,nEs]
 | .mk k n x ks :: r,left,hl,h=>by
  unfold oU at h ⊢
  by_cases h1 : left < 0
  ·rw [if_pos h1] at h;omega
  rw [if_neg h1] at h ⊢
  by_cases h2 : 200 < x.length
  ·rw [if_pos h2] at h;omega
  rw [if_neg h2] at h ⊢
  have d1:=kC d ks (left - 1) (by omega)
  have d2:=zq (kC d) r (szE d ks (left - 1)) d1.1
  have i1:=ih ks (left - 1) (by omega) (by omega)
  have i2:=mEl d ih r _ d1.1 h
  have hv : nEs (.mk k n x ks :: r) = 1 + nEs ks + nEs r:=by rw [nEs,nE]
  omega
theorem mE : ∀ (d : Nat) (l : List PE) (left : Int),-1≤left→0≤szE d l left→(nEs l : Int)≤left - szE d l left
 | 0=>fun l left _ h=>absurd h (by simp [szE])
 | d + 1=>mEl d (mE d)
theorem mCl (d : Nat) (ih : ∀ (l : List PC) (left : Int),-1≤left→0≤szC d l left→(nCs l : Int)≤left - szC d l left) : ∀ (l : List PC) (left : Int),-1≤left→0≤oT d (szC d) l left→(nCs l : Int)≤left - oT d (szC d) l left
 | [],left,_,_=>by simp [oT,nCs]
 | .mk k e ks :: r,left,hl,h=>by
  unfold oT at h ⊢
  by_cases h1 : left < 0
  ·rw [if_pos h1] at h;omega
  rw [if_neg h1] at h ⊢
  have d1:=kC d e (left - 1) (by omega)
  by_cases h2 : 0≤szE d e (left - 1)
  ·rw [if_pos h2] at h ⊢
   have d2:=qx d ks _ d1.1
   have d3:=uA d (qx d) r _ d2.1
   have i0:=mE d e (left - 1) (by omega) h2
   have i1:=ih ks _ d1.1 (by omega)
   have i2:=mCl d ih r _ d2.1 h
   have hv : nCs (.mk k e ks :: r) = 1 + nEs e + nCs ks + nCs r:=by rw [nCs,nC]
   omega
  ·rw [if_neg h2] at h
   have d3:=uA d (qx d) r _ d1.1
   omega
theorem mC : ∀ (d : Nat) (l : List PC) (left : Int),-1≤left→0≤szC d l left→(nCs l : Int)≤left - szC d l left
 | 0=>fun l left _ h=>absurd h (by simp [szC])
 | d + 1=>mCl d (mC d)
theorem mAl (d : Nat) (ih : ∀ (l : List PA) (left : Int),-1≤left→0≤szA d l left→(nAs l : Int)≤left - szA d l left) : ∀ (l : List PA) (left : Int),-1≤left→0≤oS d (szA d) l left→(nAs l : Int)≤left - oS d (szA d) l left
 | [],left,_,_=>by simp [oS,nAs]
 | .mk k c e v x n ks :: r,left,hl,h=>by
  unfold oS at h ⊢
  by_cases h1 : left < 0
  ·rw [if_pos h1] at h;omega
  rw [if_neg h1] at h ⊢
  by_cases h2 : 200 < x.length
  ·rw [if_pos h2] at h;omega
  rw [if_neg h2] at h ⊢
  have d1:=qx d [c] (left - 1) (by omega)
  have d2:=fF d1 (kC d [e,v])
  have d3:=fF d2 (tq d ks)
  have d4:=zo d (tq d) r _ d3.1
  obtain ⟨p2,e2⟩:=gj (a:=eM (szC d [c] (left - 1)) (szE d [e,v])) (f:=szA d ks) (by omega)
  obtain ⟨p1,e1⟩:=gj p2
  have i0:=mC d [c] (left - 1) (by omega) p1
  have i1:=mE d [e,v] _ d1.1 (by omega)
  have i2:=ih ks _ d2.1 (by omega)
  have i3:=mAl d ih r _ d3.1 h
  have v1 : nCs [c] = nC c:=by simp [nCs]
  have v2 : nEs [e,v] = nE e + nE v:=by simp [nEs]
  have hv : nAs (.mk k c e v x n ks :: r) = 1 + nC c + nE e + nE v + nAs ks + nAs r:=by rw [nAs,nA]
  omega
theorem mA : ∀ (d : Nat) (l : List PA) (left : Int),-1≤left→0≤szA d l left→(nAs l : Int)≤left - szA d l left
 | 0=>fun l left _ h=>absurd h (by simp [szA])
 | d + 1=>mAl d (mA d)
mutual
def lZ : PS'→Bool
 | .mk _ _ _ _ _ _ _ _ _ _ fs b l=>decide (fs.length≤50) && (gT b && gT l)
def gT : List PS'→Bool
 | []=>true
 | e :: r=>lZ e && gT r
end
def SN (l : List PS') (n : Int) : Prop:=(nSs l : Int)≤n∧gT l = true
theorem mSl (d : Nat) (ih : ∀ (l : List PS') (left : Int),-1≤left→0≤szS d l left→SN l (left - szS d l left)) : ∀ (l : List PS') (left : Int),-1≤left→0≤ol d (szS d) l left→SN l (left - ol d (szS d) l left)
 | [],left,_,_=>⟨by simp [ol,nSs],rfl⟩
 | .mk k x y z e v c a rs gs fs b l :: r,left,hl,h=>by
  unfold ol at h ⊢
  by_cases h1 : left < 0
  ·rw [if_pos h1] at h;omega
  rw [if_neg h1] at h ⊢
  by_cases h2 : 50 < fs.length∨200 < x.length∨200 < y.length∨200 < z.length
  ·rw [if_pos h2] at h;omega
  rw [if_neg h2] at h ⊢
  have d1:=qx d [c] (left - 1) (by omega)
  have d2:=fF ⟨d1.1,Int.le_refl _⟩ (kC d [e,v])
  have d3:=fF ⟨d2.1,Int.le_refl _⟩ (kC d rs)
  have d4:=fF ⟨d3.1,Int.le_refl _⟩ (kC d gs)
  have d5:=fF ⟨d4.1,Int.le_refl _⟩ (tq d [a])
  have d6:=fF ⟨d5.1,Int.le_refl _⟩ (uB d b)
  have d7:=fF ⟨d6.1,Int.le_refl _⟩ (uB d l)
  have d8:=zr d (uB d) r _ d7.1
  have i3:=mSl d ih r _ d7.1 h
  generalize hz1 : szC d [c] (left - 1) = z1 at *
  generalize hz2 : eM z1 (szE d [e,v]) = z2 at *
  generalize hz3 : eM z2 (szE d rs) = z3 at *
  generalize hz4 : eM z3 (szE d gs) = z4 at *
  generalize hz5 : eM z4 (szA d [a]) = z5 at *
  generalize hz6 : eM z5 (szS d b) = z6 at *
  generalize hz7 : eM z6 (szS d l) = z7 at *
  obtain ⟨n6,e7⟩:=gj (a:=z6) (f:=szS d l) (by rw [hz7];omega)
  obtain ⟨n5,e6⟩:=gj (a:=z5) (f:=szS d b) (by rw [hz6];omega)
  obtain ⟨n4,e5⟩:=gj (a:=z4) (f:=szA d [a]) (by rw [hz5];omega)
  obtain ⟨n3,e4⟩:=gj (a:=z3) (f:=szE d gs) (by rw [hz4];omega)
  obtain ⟨n2,e3⟩:=gj (a:=z2) (f:=szE d rs) (by rw [hz3];omega)
  obtain ⟨n1,e2⟩:=gj (a:=z1) (f:=szE d [e,v]) (by rw [hz2];omega)
  rw [hz7] at e7
  rw [hz6] at e6
  rw [hz5] at e5
  rw [hz4] at e4
  rw [hz3] at e3
  rw [hz2] at e2
  have i0:=mC d [c] (left - 1) (by omega) (by rw [hz1];omega)
  rw [hz1] at i0
  have i1:=mE d [e,v] z1 (by omega) (by rw [← e2];omega)
  have i2:=mE d rs z2 (by omega) (by rw [← e3];omega)
  have i4:=mE d gs z3 (by omega) (by rw [← e4];omega)
  have i7:=mA d [a] z4 (by omega) (by rw [← e5];omega)
  have i5:=ih b z5 (by omega) (by rw [← e6];omega)
  have i6:=ih l z6 (by omega) (by rw [← e7];omega)
  rw [← e2] at i1
  rw [← e3] at i2
  rw [← e4] at i4
  rw [← e5] at i7
  rw [← e6] at i5
  rw [← e7] at i6
  have v1 : nCs [c] = nC c:=by simp [nCs]
  have v2 : nEs [e,v] = nE e + nE v:=by simp [nEs]
  have v3 : nAs [a] = nA a:=by simp [nAs]
  have hv : nSs (.mk k x y z e v c a rs gs fs b l :: r) = 1 + nC c + nE e + nE v + nEs rs + nEs gs + nA a + nSs b + nSs l + nSs r:=by rw [nSs,nS]
  refine ⟨?_,?_⟩
  ·have:=i3.1;have:=i5.1;have:=i6.1
   omega
  ·rw [gT,lZ,i3.2,i5.2,i6.2]
   simp;omega
theorem mS : ∀ (d : Nat) (l : List PS') (left : Int),-1≤left→0≤szS d l left→SN l (left - szS d l left)
 | 0=>fun l left _ h=>absurd h (by simp [szS])
 | d + 1=>mSl d (mS d)
def tl : List Wd→Nat
 | []=>0
 | a :: r=>a.length + 1 + tl r
theorem eF : ∀ a b : List Wd,tl (a ++ b) = tl a + tl b
 | [],b=>by simp [tl]
 | x :: r,b=>by rw [List.cons_append,tl,tl,eF r b];omega
theorem gk : ∀ l : List Wd,(aX l).length≤tl l
 | []=>Nat.le_refl _
 | a :: r=>by
  rw [aX,tl]
  split
  ·omega
  ·have:=gk r
   rw [List.length_append,List.length_cons];omega
theorem uq : ∀ l : List Wd,(gB l).length = tl l
 | []=>rfl
 | a :: r=>by
  have:=uq r
  unfold gB at *
  rw [List.flatMap_cons,List.length_append,this,tl];simp
theorem uw : ∀ (f n k : Nat),n < 10 ^ (k + 1)→(rT f n).length≤k + 1
 | 0,n,k,_=>by simp [rT]
 | f + 1,n,k,h=>by
  unfold rT
  split
  ·simp
  ·rename_i hn
   obtain _ | k:=k
   ·simp at h;omega
   ·have:=uw f (n / 10) k (by rw [Nat.div_lt_iff_lt_mul (by decide),← Nat.pow_succ];exact h)
    rw [List.length_append,List.length_singleton];omega
theorem pF {n : Nat} (h : n≤1073741824) : (dec n).length≤10:=uw _ n 9 (by omega)
theorem kv {n : Int} (h : gK n = true) : tl (fR n)≤13:=by
 unfold gK at h
 simp at h
 unfold fR
 split
 ·have:=pF (n:=(-n).toNat) (by omega)
  simp only [tl,List.length_cons,List.length_nil];omega
 ·have:=pF (n:=n.toNat) (by omega)
  simp only [tl];omega
theorem fE {x : Wd} (h : dQ x = true) : x.length≤32:=by
 unfold dQ at h
 simp at h
 exact h.1
theorem tu (p : Int × List Wd) : tl (inT p)≤tl p.2 + 4:=by
 unfold inT;split
 ·simp only [eF,tl,List.length_cons,List.length_nil];omega
 ·omega
theorem lz (b : Bool) (l : List Wd) : tl (fT b l)≤tl l + 4:=by
 unfold fT;split
 ·simp only [eF,tl,List.length_cons,List.length_nil];omega
 ·omega
def tlp : List (Int × List Wd)→Nat
 | []=>0
 | a :: r=>tl a.2 + tlp r
theorem pU : ∀ (l : List (Int × List Wd)),tl (l.getD 0 (0,[])).2 + tl (l.getD 1 (0,[])).2≤tlp l
 | []=>by simp [tl]
 | [a]=>by simp [tl,tlp]
 | a :: b :: r=>by simp only [tlp,List.getD_cons_zero,List.getD_cons_succ];omega
mutual
theorem li : ∀ e,seE e = true→tl (tkE e)≤50 * nE e
 | .mk k n x ks,h=>by
  rw [seE,Bool.and_eq_true] at h
  obtain ⟨h1,h2⟩:=h
  have ih:=uc ks h2
  have g:=pU (mY ks)
  have q0:=tu ((mY ks).getD 0 (0,[]))
  have q1:=tu ((mY ks).getD 1 (0,[]))
  rw [tkE,nE]
  unfold rU at h1
  by_cases k0 : k = 0
  ·rw [if_pos k0] at h1 ⊢
   simp only [Bool.and_eq_true] at h1
   have:=kv h1.1
   omega
  rw [if_neg k0] at h1 ⊢
  by_cases k1 : k = 1
  ·rw [if_pos k1] at h1 ⊢
   simp only [Bool.and_eq_true] at h1
   have:=fE h1.1
   simp only [tl];omega
  rw [if_neg k1] at h1 ⊢
  by_cases k4 : k = 4
  ·have k23 : ¬ (k = 2∨k = 3):=by omega
   rw [if_neg k23,if_pos k4] at h1
   rw [if_pos k4]
   simp only [Bool.and_eq_true] at h1
   have:=kv h1.1
   simp only [eF,tl,List.length_cons,List.length_nil];omega
  ·rw [if_neg k4]
   have : (if k = 3 then [45] else [43] : Wd).length = 1:=by split <;> rfl
   simp only [eF,tl,this];omega
theorem uc : ∀ l,gV l = true→tlp (mY l)≤50 * nEs l
 | [],_=>by simp [mY,tlp]
 | .mk k n x ks :: r,h=>by
  rw [gV,Bool.and_eq_true] at h
  have h1:=li (.mk k n x ks) h.1
  have h2:=uc r h.2
  rw [mY,tlp,nEs];dsimp only;omega
end
theorem yU (k : Int) : (rR k).length≤2:=by unfold rR;split <;> (try split) <;> (try split) <;> simp
mutual
theorem mX : ∀ e,seC e = true→tl (tkC e)≤50 * nC e
 | .mk k e ks,h=>by
  rw [seC] at h
  simp only [Bool.and_eq_true] at h
  obtain ⟨h1,h2,h3⟩:=h
  have i1:=uc e h2
  have i2:=xx ks h3
  have g:=pU (mY e)
  have g2:=pU (jX ks)
  rw [tkC,nC]
  have c:=yU k
  have b0:=lz (decide (((jX ks).getD 0 (0,[])).1 = 7) || decide (((jX ks).getD 0 (0,[])).1 = 8)) ((jX ks).getD 0 (0,[])).2
  have b1:=lz (decide (((jX ks).getD 0 (0,[])).1 = 8)) ((jX ks).getD 0 (0,[])).2
  have b2:=lz (decide (((jX ks).getD 1 (0,[])).1 = 7) || decide (((jX ks).getD 1 (0,[])).1 = 8)) ((jX ks).getD 1 (0,[])).2
  have b3:=lz (decide (((jX ks).getD 1 (0,[])).1 = 8)) ((jX ks).getD 1 (0,[])).2
  generalize (jX ks).getD 0 (0,[]) = A at *
  generalize (jX ks).getD 1 (0,[]) = B at *
  repeat' split
  all_goals (simp only [eF,tl,List.length_cons,List.length_nil];omega)
theorem xx : ∀ l,lO l = true→tlp (jX l)≤50 * nCs l
 | [],_=>by simp [jX,tlp]
 | .mk k n x :: r,h=>by
  rw [lO,Bool.and_eq_true] at h
  have h1:=mX (.mk k n x) h.1
  have h2:=xx r h.2
  rw [jX,tlp,nCs];dsimp only;omega
end
theorem tE0 {e : PE} (h : dG e = false) : e = .mk 0 0 [] []:=by
 obtain ⟨k,n,x,ks⟩:=e
 simp [dG] at h
 obtain ⟨rfl,rfl,rfl,rfl⟩:=h
 rfl
theorem jq {n : Int} (h1 : 0≤n) (h2 : n≤1073741824) : gK n = true:=by unfold gK;simp;omega
mutual
theorem rz : ∀ e,seA e = true→tl (tkA e)≤80 * nA e
 | .mk k c e v f n ks,h=>by
  rw [seA] at h
  simp only [Bool.and_eq_true] at h
  obtain ⟨h1,h3⟩:=h
  have i2:=xw ks h3
  have g2:=pU (rB ks)
  rw [tkA,nA]
  generalize (rB ks).getD 0 (0,[]) = A at *
  generalize (rB ks).getD 1 (0,[]) = B at *
  unfold vO mN at h1
  by_cases k0 : k = 0
  ·rw [if_pos k0];simp only [eF,tl,List.length_cons,List.length_nil];omega
  rw [if_neg k0] at h1 ⊢
  by_cases k1 : k = 1
  ·rw [if_pos k1] at h1 ⊢
   simp only [Bool.and_eq_true] at h1
   have:=mX c h1.2.1
   simp only [eF,tl,List.length_cons,List.length_nil];omega
  rw [if_neg k1] at h1 ⊢
  by_cases k2 : k = 2
  ·rw [if_pos k2] at h1 ⊢
   simp only [Bool.and_eq_true,decide_eq_true_eq] at h1
   have:=li e h1.2.2.1.1
   have:=fE h1.2.2.1.2.1
   have:=kv (jq h1.2.2.1.2.2.1 h1.2.2.1.2.2.2)
   simp only [eF,tl,List.length_cons,List.length_nil];omega
  rw [if_neg k2] at h1 ⊢
  by_cases k3 : k = 3
  ·rw [if_pos k3] at h1 ⊢
   simp only [Bool.and_eq_true,decide_eq_true_eq] at h1
   have:=li e h1.2.2.1.1
   have:=fE h1.2.2.1.2.1
   have:=kv (jq h1.2.2.1.2.2.1 h1.2.2.1.2.2.2)
   have:=li v h1.2.2.2
   simp only [eF,tl,List.length_cons,List.length_nil];omega
  rw [if_neg k3] at h1 ⊢
  by_cases k4 : k = 4
  ·rw [if_pos k4] at h1 ⊢
   split
   ·simp only [eF,tl,List.length_cons,List.length_nil];omega
   ·simp only [eF,tl,List.length_cons,List.length_nil];omega
  rw [if_neg k4] at h1 ⊢
  by_cases k5 : k = 5
  ·rw [if_pos k5] at h1
   simp only [Bool.and_eq_true,decide_eq_true_eq] at h1
   have:=mX c h1.2.1
   simp only [eF,tl,List.length_cons,List.length_nil];omega
  ·rw [if_neg k5] at h1;cases h1
theorem xw : ∀ l,lN l = true→tlp (rB l)≤80 * nAs l
 | [],_=>by simp [rB,tlp]
 | .mk k c e v f n ks :: r,h=>by
  rw [lN,Bool.and_eq_true] at h
  have h1:=rz (.mk k c e v f n ks) h.1
  have h2:=xw r h.2
  rw [rB,tlp,nAs];dsimp only;omega
end
def iW : List (List Wd)→Nat
 | []=>0
 | a :: r=>tl a + 2 + iW r
theorem jt : ∀ l : List (List Wd),tl (ew l)≤iW l
 | []=>Nat.le_refl _
 | a :: r=>by
  have:=jt r
  rw [ew,iW]
  split
  ·omega
  ·simp only [eF,tl,List.length_cons,List.length_nil];omega
theorem rG : ∀ l : List PE,gV l = true→iW (l.map tkE)≤60 * nEs l
 | [],_=>by simp [iW]
 | e :: r,h=>by
  rw [gV,Bool.and_eq_true] at h
  have h1:=li e h.1
  have h2:=rG r h.2
  have h3 : 1≤nE e:=by obtain ⟨k,n,x,ks⟩:=e;rw [nE];omega
  rw [List.map_cons,iW,nEs];omega
theorem mZ : ∀ l : List Wd,gx l = true→iW (l.map fun x=>[x])≤40 * l.length
 | [],_=>by simp [iW]
 | x :: r,h=>by
  unfold gx at h
  rw [List.all_cons,Bool.and_eq_true] at h
  have h1:=fE h.1
  have h2:=mZ r h.2
  rw [List.map_cons,iW,List.length_cons];simp only [tl];omega
theorem mO {e : PE} {f : Wd} (he : seE e = true) (hf : dQ f = true) : tl (fM e f)≤50 * nE e + 40:=by
 have:=li e he
 have:=fE hf
 unfold fM
 simp only [eF,tl,List.length_cons,List.length_nil];omega
theorem pO {x : Wd} (h : dQ x = true) : tl (if x.isEmpty then [] else [x,[58,61]])≤40:=by
 have:=fE h
 split
 ·exact Nat.zero_le _
 ·simp only [tl,List.length_cons,List.length_nil];omega
theorem z8 {x : Wd} (h : (x.isEmpty || dQ x) = true) : tl (if x.isEmpty then [] else [x,[58,61]])≤40:=by
 by_cases hx : x.isEmpty = true
 ·rw [if_pos hx];exact Nat.zero_le _
 ·exact pO (by simpa [hx] using h)
mutual
theorem AJ : ∀ e,seS e = true→lZ e = true→tl (tkS e)≤3000 * nS e
 | .mk k x f y e v c a rs gs fs b l,h,hf=>by
  rw [lZ] at hf
  simp only [Bool.and_eq_true,decide_eq_true_eq] at hf
  obtain ⟨hf1,hf2,hf3⟩:=hf
  rw [seS] at h
  rw [tkS,nS]
  by_cases k0 : k = 0
  ·rw [if_pos k0];simp only [eF,tl,List.length_cons,List.length_nil];omega
  rw [if_neg k0] at h ⊢
  by_cases k1 : k = 1
  ·rw [if_pos k1] at h ⊢
   simp only [Bool.and_eq_true] at h
   have:=pO h.1
   have:=li e h.2.2.2.1
   simp only [eF,tl,List.length_cons,List.length_nil];omega
  rw [if_neg k1] at h ⊢
  by_cases k2 : k = 2
  ·rw [if_pos k2] at h ⊢
   simp only [Bool.and_eq_true] at h
   have:=pO h.1
   have:=mO h.2.2.2.1 h.2.1
   simp only [eF,tl,List.length_cons,List.length_nil];omega
  rw [if_neg k2] at h ⊢
  by_cases k3 : k = 3
  ·rw [if_pos k3] at h ⊢
   simp only [Bool.and_eq_true] at h
   have:=mO h.2.2.2.1 h.2.1
   have:=li v h.2.2.2.2.1
   simp only [eF,tl,List.length_cons,List.length_nil];omega
  rw [if_neg k3] at h ⊢
  by_cases k4 : k = 4
  ·rw [if_pos k4] at h ⊢
   simp only [Bool.and_eq_true] at h
   have:=pO h.1
   have:=jt (fs.map fun x=>[x])
   have:=mZ fs h.2.2.2.2.2.2.2.2.2.1.2
   simp only [eF,tl,List.length_cons,List.length_nil];omega
  rw [if_neg k4] at h ⊢
  by_cases k5 : k = 5
  ·rw [if_pos k5] at h ⊢
   simp only [Bool.and_eq_true] at h
   have:=mO h.2.2.2.1 h.2.1
   simp only [eF,tl,List.length_cons,List.length_nil];omega
  rw [if_neg k5] at h ⊢
  by_cases k6 : k = 6
  ·rw [if_pos k6] at h ⊢
   simp only [Bool.and_eq_true] at h
   have:=mX c h.2.2.2.2.2.1
   have:=jN b h.2.2.2.2.2.2.2.2.2.2.1 hf2
   have:=jN l h.2.2.2.2.2.2.2.2.2.2.2 hf3
   simp only [eF,tl,List.length_cons,List.length_nil];omega
  rw [if_neg k6] at h ⊢
  by_cases k7 : k = 7
  ·rw [if_pos k7] at h ⊢
   simp only [Bool.and_eq_true] at h
   have:=mX c h.2.2.2.2.2.1
   have:=rz a h.2.2.2.2.2.2.1
   have:=jN b h.2.2.2.2.2.2.2.2.2.2.1 hf2
   simp only [eF,tl,List.length_cons,List.length_nil];omega
  rw [if_neg k7] at h ⊢
  by_cases k8 : k = 8
  ·rw [if_pos k8] at h ⊢
   simp only [Bool.and_eq_true] at h
   have:=mX c h.2.2.2.2.2.1
   simp only [eF,tl,List.length_cons,List.length_nil];omega
  rw [if_neg k8] at h ⊢
  by_cases k9 : k = 9
  ·rw [if_pos k9] at h
   simp only [Bool.and_eq_true] at h
   have:=z8 h.1
   have:=fE h.2.2.1
   have:=jt (rs.map tkE)
   have:=jt (gs.map tkE)
   have:=rG rs h.2.2.2.2.2.2.2.1
   have:=rG gs h.2.2.2.2.2.2.2.2.1
   simp only [eF,tl,List.length_cons,List.length_nil];omega
  ·rw [if_neg k9] at h;cases h
theorem jN : ∀ l,gW l = true→gT l = true→tl (eE l)≤3000 * nSs l
 | [],_,_=>by simp [eE,tl]
 | e :: r,h,hf=>by
  rw [gW,Bool.and_eq_true] at h
  rw [gT,Bool.and_eq_true] at hf
  have h1:=AJ e h.1 hf.1
  have h2:=jN r h.2 hf.2
  rw [eE,nSs,eF];omega
end
def LtT (x : PP) (n : Int) : Prop:=x.params.length≤50∧x.ghosts.length≤50∧(nA x.pre : Int)≤n∧(nA x.post : Int)≤n∧SN x.body n
theorem SN.le {l : List PS'} {n m : Int} (h : SN l n) (hm : n≤m) : SN l m:=⟨by have:=h.1;omega,h.2⟩
theorem uQ : ∀ (l : List PP) (left : Int),-1≤left→jV l left = true→∀ x ∈ l,LtT x left
 | [],_,_,_=>fun x hx=>absurd hx List.not_mem_nil
 | p :: r,left,hl,h=>fun x hx=>by
  unfold jV at h
  by_cases h1 : left < 0
  ·rw [if_pos h1] at h;cases h
  rw [if_neg h1] at h
  by_cases h2 : 50 < p.params.length∨50 < p.ghosts.length∨200 < p.name.length
  ·rw [if_pos h2] at h;cases h
  rw [if_neg h2] at h
  have d1:=tq 300 [p.pre,p.post] left hl
  have d2:=fF d1 (uB 300 p.body)
  have hp : 0≤eM (szA 300 [p.pre,p.post] left) (szS 300 p.body):=by
   cases r with
   | nil=>rw [jV] at h;exact of_decide_eq_true h
   | cons a b =>
    unfold jV at h
    by_cases h3 : eM (szA 300 [p.pre,p.post] left) (szS 300 p.body) < 0
    ·rw [if_pos h3] at h;cases h
    ·omega
  rcases List.mem_cons.1 hx with rfl | hx
  ·obtain ⟨p1,e1⟩:=gj hp
   have i1:=mA 300 [x.pre,x.post] left hl p1
   have i2:=mS 300 x.body _ d1.1 (by omega)
   have hv : nAs [x.pre,x.post] = nA x.pre + nA x.post:=by simp [nAs]
   exact ⟨by omega,by omega,by omega,by omega,i2.le (by omega)⟩
  ·obtain ⟨q1,q2,q3,q4,q5⟩:=uQ r _ d2.1 h x hx
   exact ⟨q1,q2,by omega,by omega,q5.le (by omega)⟩
theorem EH {x : PP} (h : fC x = true) (hl : LtT x 600) : tl (tkP x)≤2000000:=by
 obtain ⟨h1,h2,h3,h4,h5,h6⟩:=hl
 unfold fC at h
 simp only [Bool.and_eq_true] at h
 have:=fE h.1
 have:=jt (x.params.map fun x=>[x])
 have:=jt (x.ghosts.map fun x=>[x])
 have:=mZ x.params h.2.1
 have:=mZ x.ghosts h.2.2.1
 have:=rz x.pre h.2.2.2.1
 have:=rz x.post h.2.2.2.2.1
 have:=jN x.body h.2.2.2.2.2 h6
 unfold tkP tkB
 simp only [eF,tl,List.length_cons,List.length_nil];omega
theorem ud : ∀ (l : List PP),(∀ x ∈ l,fC x = true∧LtT x 600)→tl (dX l)≤2000000 * l.length
 | [],_=>by simp [dX,tl]
 | x :: r,h=>by
  have h1:=EH (h x (List.mem_cons_self ..)).1 (h x (List.mem_cons_self ..)).2
  have h2:=ud r fun y hy=>h y (List.mem_cons_of_mem _ hy)
  have e : dX (x :: r) = tkP x ++ dX r:=rfl
  rw [e,eF,List.length_cons];omega
end Go.Proofs.YtkjnkkmokojnpaaGreatDoor
namespace Go.Proofs.YtkjnkkmokojnpaaGreatDoor
set_option linter.unusedSimpArgs false
set_option linter.unusedVariables false
open Go.RowKit
theorem fD {a b : List Wd} (hb : b ≠ []) : aX (a ++ b) = gB a ++ aX b:=by
 by_cases ha : a = []
 ·subst ha;rfl
 ·rw [oF ha hb,fS ha,List.append_assoc];rfl
theorem eA (l : List Wd) (x : Wd) : aX (l ++ [x]) = gB l ++ x:=fD (by simp)
theorem df (x : Wd) (r : List Wd) : gB (x :: r) = x ++ 32 :: gB r:=by simp [gB]
theorem dB : gB [] = []:=rfl
theorem zH {p : Int × List Wd} (h : p.2 ≠ []) : inT p ≠ []:=by unfold inT;split <;> simp [h]
theorem pE (b : Bool) {l : List Wd} (h : l ≠ []) : fT b l ≠ []:=by unfold fT;split <;> simp [h]
theorem rF : ∀ e,tkE e ≠ []
 | .mk k n x ks=>by
  rw [tkE]
  split
  ·exact vw n
  split
  ·simp
  split
  ·simp
  ·simp
theorem rD : ∀ e,tkC e ≠ []
 | .mk k e ks=>by
  rw [tkC]
  repeat' split
  all_goals simp
theorem AN : ∀ e,tkA e ≠ []
 | .mk k c e v f n ks=>by
  rw [tkA]
  repeat' split
  all_goals simp
theorem EJ : ∀ e,tkS e ≠ []
 | .mk k x f y e v c a rs gs fs b l=>by
  rw [tkS]
  repeat' split
  all_goals simp
abbrev dg (n : Int) : Wd:=aX (fR n)
theorem DZ {n : Int} (h : n < 0) : dg n = [45,32] ++ dec (-n).toNat:=by unfold dg fR;rw [if_pos h];rfl
theorem D0 {n : Int} (h : ¬ n < 0) : dg n = dec n.toNat:=by unfold dg fR;rw [if_neg h];rfl
theorem vV {n : Int} (h : gK n = true) : (dg n).length≤13:=Nat.le_trans (gk _) (kv h)
theorem tc (n : Int) : gB (fR n) = dg n ++ [32]:=fS (vw n)
theorem pe (e : PE) : gB (tkE e) = aX (tkE e) ++ [32]:=fS (rF e)
theorem ql (e : PC) : gB (tkC e) = aX (tkC e) ++ [32]:=fS (rD e)
theorem ur (e : PA) : gB (tkA e) = aX (tkA e) ++ [32]:=fS (AN e)
theorem E2 (e : PS') : gB (tkS e) = aX (tkS e) ++ [32]:=fS (EJ e)
abbrev jg (e : PE) : List Wd:=inT (e.kind,tkE e)
theorem FK {e : PE} (h : e.kind = 2∨e.kind = 3) : aX (jg e) = [40,32] ++ aX (tkE e) ++ [32,41]:=by
 unfold jg inT
 rw [if_pos h,eA]
 simp [du,df,dB,pe]
theorem EN {e : PE} (h : ¬ (e.kind = 2∨e.kind = 3)) : aX (jg e) = aX (tkE e):=by
 unfold jg inT
 rw [if_neg h]
theorem Fw (n : Int) (x : Wd) (a : PE) : aX (tkE (.mk 4 n x [a])) = dg n ++ [32,42,32] ++ aX (jg a):=by
 have : tkE (.mk 4 n x [a]) = fR n ++ [[42]] ++ jg a:=by rw [tkE,jA];simp
 rw [this,fD (zH (rF a))]
 simp [du,df,dB,tc]
theorem EL {k : Int} (hk : k = 2∨k = 3) (n : Int) (x : Wd) (a b : PE) : aX (tkE (.mk k n x [a,b])) = aX (tkE a) ++ (if k = 3 then [32,45,32] else [32,43,32]) ++ aX (jg b):=by
 have : tkE (.mk k n x [a,b]) = tkE a ++ [if k = 3 then [45] else [43]] ++ jg b:=by
  rw [tkE,jA,if_neg (by omega),if_neg (by omega),if_neg (by omega)];simp
 rw [this,fD (zH (rF b))]
 split <;> simp [du,df,dB,pe]
theorem EM (b : Bool) (c : PC) : aX (fT b (tkC c)) = if b then [91,32] ++ aX (tkC c) ++ [32,93] else aX (tkC c):=by
 unfold fT
 cases b
 ·rfl
 ·rw [if_pos rfl,if_pos rfl,eA]
  simp [du,df,dB,ql]
theorem Bg (b : Bool) (c : PC) : gB (fT b (tkC c)) = aX (fT b (tkC c)) ++ [32]:=fS (pE b (rD c))
def hi7 (c : PC) : Bool:=decide (c.kind = 7) || decide (c.kind = 8)
def hi8 (c : PC) : Bool:=decide (c.kind = 8)
theorem Fs (e : List PE) (a : PC) : aX (tkC (.mk 6 e [a])) = [33,32] ++ aX (fT (hi7 a) (tkC a)):=by
 have : tkC (.mk 6 e [a]) = [[33]] ++ fT (hi7 a) (tkC a):=by rw [tkC,jz];simp [hi7]
 rw [this,fD (pE _ (rD a))]
 simp [du,df,dB]
theorem Ft (e : List PE) (a b : PC) : aX (tkC (.mk 7 e [a,b])) = aX (fT (hi8 a) (tkC a)) ++ [32,38,38,32] ++ aX (fT (hi7 b) (tkC b)):=by
 have : tkC (.mk 7 e [a,b]) = fT (hi8 a) (tkC a) ++ [[38,38]] ++ fT (hi7 b) (tkC b):=by rw [tkC,jz];simp [hi7,hi8]
 rw [this,fD (pE _ (rD b))]
 simp [du,df,dB,Bg]
theorem Fu (e : List PE) (a b : PC) : aX (tkC (.mk 8 e [a,b])) = aX (tkC a) ++ [32,124,124,32] ++ aX (fT (hi8 b) (tkC b)):=by
 have : tkC (.mk 8 e [a,b]) = tkC a ++ [[124,124]] ++ fT (hi8 b) (tkC b):=by rw [tkC,jz];simp [hi7,hi8]
 rw [this,fD (pE _ (rD b))]
 simp [du,df,dB,ql]
def opT (k : Int) : Wd:=if k = 3 then [32,33,61,32] else if k = 4 then [32,60,32] else if k = 5 then [32,60,61,32] else [32,61,61,32]
theorem Fv {k : Int} (hk : k = 2∨k = 3∨k = 4∨k = 5) (a b : PE) : aX (tkC (.mk k [a,b] [])) = aX (tkE a) ++ opT k ++ aX (tkE b):=by
 have : tkC (.mk k [a,b] []) = tkE a ++ [rR k] ++ tkE b:=by
  rw [tkC,jA]
  rw [if_neg (by omega),if_neg (by omega),if_neg (by omega),if_neg (by omega),if_neg (by omega)];simp
 rw [this,fD (rF b)]
 rcases hk with rfl | rfl | rfl | rfl <;> simp [du,df,dB,pe,opT,rR]
theorem Fl (c : PC) (e v : PE) (f : Wd) (n : Int) (ks : List PA) : aX (tkA (.mk 1 c e v f n ks)) = [91,32] ++ aX (tkC c) ++ [32,93]:=by
 have : tkA (.mk 1 c e v f n ks) = [[91]] ++ tkC c ++ [[93]]:=by rw [tkA];simp
 rw [this,eA]
 simp [du,df,dB,ql]
theorem Fm (c : PC) (e v : PE) (f : Wd) (n : Int) (ks : List PA) : aX (tkA (.mk 2 c e v f n ks)) = [97,99,99,32,40,32] ++ aX (tkE e) ++ [32,46,32] ++ f ++ [32,44,32] ++ dg n ++ [32,41]:=by
 have : tkA (.mk 2 c e v f n ks) = [[97,99,99],[40]] ++ tkE e ++ [[46],f,[44]] ++ fR n ++ [[41]]:=by rw [tkA];simp
 rw [this,eA]
 simp [du,df,dB,pe,tc]
theorem Fo (c : PC) (e v : PE) (f : Wd) (n : Int) (ks : List PA) : aX (tkA (.mk 3 c e v f n ks)) = [112,116,115,32,40,32] ++ aX (tkE e) ++ [32,46,32] ++ f ++ [32,44,32] ++ dg n ++ [32,44,32] ++ aX (tkE v) ++ [32,41]:=by
 have : tkA (.mk 3 c e v f n ks) = [[112,116,115],[40]] ++ tkE e ++ [[46],f,[44]] ++ fR n ++ [[44]] ++ tkE v ++ [[41]]:=by rw [tkA];simp
 rw [this,eA]
 simp [du,df,dB,pe,tc]
theorem Fp (c : PC) (e v : PE) (f : Wd) (n : Int) (a b : PA) : aX (tkA (.mk 4 c e v f n [a,b])) = aX (tkA a) ++ [32,38,32] ++ (if b.kind = 4 then [40,32] ++ aX (tkA b) ++ [32,41] else aX (tkA b)):=by
 have : tkA (.mk 4 c e v f n [a,b]) = tkA a ++ [[38]] ++ (if b.kind = 4 then [[40]] ++ tkA b ++ [[41]] else tkA b):=by rw [tkA,lT];simp
 rw [this]
 split
 ·rw [fD (by simp),eA]
  simp [du,df,dB,ur]
 ·rw [fD (AN b)]
  simp [du,df,dB,ur]
theorem Fq (c : PC) (e v : PE) (f : Wd) (n : Int) (a b : PA) : aX (tkA (.mk 5 c e v f n [a,b])) = [105,102,32] ++ aX (tkC c) ++ [32,123,32] ++ aX (tkA a) ++ [32,125,32,101,108,115,101,32,123,32] ++ aX (tkA b) ++ [32,125]:=by
 have : tkA (.mk 5 c e v f n [a,b]) = [[105,102]] ++ tkC c ++ [[123]] ++ tkA a ++ [[125],[101,108,115,101],[123]] ++ tkA b ++ [[125]]:=by rw [tkA,lT];simp
 rw [this,eA]
 simp [du,df,dB,ql,ur]
def ly (b : List PS') : Wd:=[123,32] ++ gB (eE b) ++ [125]
theorem rI (b : List PS') : aX (tkB b) = ly b:=by
 unfold tkB ly
 rw [eA]
 simp [du,df,dB]
theorem ue (b : List PS') : tkB b ≠ []:=by simp [tkB]
theorem E1 (b : List PS') : gB (tkB b) = ly b ++ [32]:=by rw [fS (ue b),rI]
def ig (l : List (List Wd)) : Wd:=gB (ew l)
def nmT (x : Wd) : Wd:=if x = [] then [] else x ++ [32,58,61,32]
def nmW (x : Wd) : List Wd:=if x.isEmpty then [] else [x,[58,61]]
theorem tb (x : Wd) : gB (nmW x) = nmT x:=by
 unfold nmW nmT
 cases x <;> simp [gB]
def plT (e : PE) (f : Wd) : Wd:=aX (tkE e) ++ [32,46,32] ++ f
theorem vQ (e : PE) (f : Wd) : gB (fM e f) = plT e f ++ [32]:=by
 unfold fM plT
 simp [du,df,dB,pe]
section
variable (x f y : Wd) (e v : PE) (c : PC) (a : PA) (rs gs : List PE) (fs : List Wd) (b l : List PS')
theorem Fy : aX (tkS (.mk 0 x f y e v c a rs gs fs b l)) = [115,107,105,112,32,59]:=by rw [tkS];rfl
theorem Fz : aX (tkS (.mk 1 x f y e v c a rs gs fs b l)) = nmT x ++ aX (tkE e) ++ [32,59]:=by
 have : tkS (.mk 1 x f y e v c a rs gs fs b l) = nmW x ++ tkE e ++ [[59]]:=by rw [tkS];rfl
 rw [this,eA]
 simp [du,df,dB,pe,tb]
theorem FB : aX (tkS (.mk 2 x f y e v c a rs gs fs b l)) = nmT x ++ [103,101,116,32] ++ plT e f ++ [32,59]:=by
 have : tkS (.mk 2 x f y e v c a rs gs fs b l) = nmW x ++ [[103,101,116]] ++ fM e f ++ [[59]]:=by rw [tkS];rfl
 rw [this,eA]
 simp [du,df,dB,vQ,tb]
theorem FD : aX (tkS (.mk 3 x f y e v c a rs gs fs b l)) = [112,117,116,32] ++ plT e f ++ [32,58,61,32] ++ aX (tkE v) ++ [32,59]:=by
 have : tkS (.mk 3 x f y e v c a rs gs fs b l) = [[112,117,116]] ++ fM e f ++ [[58,61]] ++ tkE v ++ [[59]]:=by rw [tkS];rfl
 rw [this,eA]
 simp [du,df,dB,vQ,pe]
theorem FE : aX (tkS (.mk 4 x f y e v c a rs gs fs b l)) = nmT x ++ [110,101,119,32,40,32] ++ ig (fs.map fun x=>[x]) ++ [41,32,59]:=by
 have : tkS (.mk 4 x f y e v c a rs gs fs b l) = nmW x ++ [[110,101,119],[40]] ++ ew (fs.map fun x=>[x]) ++ [[41]] ++ [[59]]:=by rw [tkS];simp [nmW]
 rw [this,eA]
 simp [du,df,dB,ig,tb]
theorem FF : aX (tkS (.mk 5 x f y e v c a rs gs fs b l)) = [102,114,101,101,32] ++ plT e f ++ [32,59]:=by
 have : tkS (.mk 5 x f y e v c a rs gs fs b l) = [[102,114,101,101]] ++ fM e f ++ [[59]]:=by rw [tkS];rfl
 rw [this,eA]
 simp [du,df,dB,vQ]
theorem FG : aX (tkS (.mk 6 x f y e v c a rs gs fs b l)) = [105,102,32] ++ aX (tkC c) ++ [32] ++ ly b ++ [32,101,108,115,101,32] ++ ly l:=by
 have : tkS (.mk 6 x f y e v c a rs gs fs b l) = [[105,102]] ++ tkC c ++ tkB b ++ [[101,108,115,101]] ++ tkB l:=by rw [tkS];simp [tkB]
 rw [this,fD (ue l),rI]
 simp [du,df,dB,ql,E1]
theorem FH : aX (tkS (.mk 7 x f y e v c a rs gs fs b l)) = [119,104,105,108,101,32] ++ aX (tkC c) ++ [32,105,110,118,97,114,105,97,110,116,32] ++ aX (tkA a) ++ [32] ++ ly b:=by
 have : tkS (.mk 7 x f y e v c a rs gs fs b l) = [[119,104,105,108,101]] ++ tkC c ++ [[105,110,118,97,114,105,97,110,116]] ++ tkA a ++ tkB b:=by rw [tkS];simp [tkB]
 rw [this,fD (ue b),rI]
 simp [du,df,dB,ql,ur]
theorem FI : aX (tkS (.mk 8 x f y e v c a rs gs fs b l)) = [97,115,115,101,114,116,32] ++ aX (tkC c) ++ [32,59]:=by
 have : tkS (.mk 8 x f y e v c a rs gs fs b l) = [[97,115,115,101,114,116]] ++ tkC c ++ [[59]]:=by rw [tkS];rfl
 rw [this,eA]
 simp [du,df,dB,ql]
theorem FJ : aX (tkS (.mk 9 x f y e v c a rs gs fs b l)) = nmT x ++ [99,97,108,108,32] ++ y ++ [32,40,32] ++ ig (rs.map tkE) ++ [59,32] ++ ig (gs.map tkE) ++ [41,32,59]:=by
 have : tkS (.mk 9 x f y e v c a rs gs fs b l) = nmW x ++ [[99,97,108,108],y,[40]] ++ ew (rs.map tkE) ++ [[59]] ++ ew (gs.map tkE) ++ [[41]] ++ [[59]]:=by rw [tkS];simp [nmW]
 rw [this,eA]
 simp [du,df,dB,ig,tb]
end
theorem F1 (p : PP) : aX (tkP p) = [112,114,111,99,32] ++ p.name ++ [32,40,32] ++ ig (p.params.map fun x=>[x]) ++ [59,32] ++ ig (p.ghosts.map fun x=>[x]) ++ [41,32,114,101,113,117,105,114,101,115,32] ++ aX (tkA p.pre) ++ [32,101,110,115,117,114,101,115,32] ++ aX (tkA p.post) ++ [32] ++ ly p.body:=by
 unfold tkP
 rw [fD (ue _),rI]
 simp [du,df,dB,ig,ur]
theorem AO (p : PP) : tkP p ≠ []:=by simp [tkP]
theorem C6 {p : PP} {r : List PP} : dX (p :: r) ≠ []:=by simp [dX,AO]
theorem yC (l : List PP) (p : PP) : dX (l ++ [p]) = dX l ++ tkP p:=by simp [dX]
theorem Fx (l : List PP) (p : PP) : aX (dX (l ++ [p])) = if l = [] then aX (tkP p) else aX (dX l) ++ [32] ++ aX (tkP p):=by
 rw [yC]
 cases l with
 | nil=>simp [dX]
 | cons a r=>rw [oF C6 (AO p),if_neg (by simp)];simp
theorem yD {l : List PP} {k : Nat} (h : k < l.length) : aX (dX (l.take (k + 1))) = if k = 0 then aX (tkP l[k]) else aX (dX (l.take k)) ++ [32] ++ aX (tkP l[k]):=by
 rw [List.take_succ_eq_append_getElem h,Fx]
 by_cases hk : k = 0
 ·subst hk;rfl
 ·rw [if_neg hk,if_neg]
  intro e
  have:=congrArg List.length e
  rw [List.length_take,List.length_nil] at this
  omega
theorem sq (l : List (List Wd)) (a : List Wd) : ew (l ++ [a]) = if l = [] then a else ew l ++ [[44]] ++ a:=by
 induction l with
 | nil=>simp [ew]
 | cons x r ih =>
  have h1 : ew (x :: (r ++ [a])) = x ++ [[44]] ++ ew (r ++ [a]):=by rw [ew,if_neg (by simp)]
  rw [List.cons_append,h1,ih,if_neg (show ¬ x :: r = [] by simp)]
  by_cases hr : r = []
  ·subst hr;simp [ew]
  ·have h2 : ew (x :: r) = x ++ [[44]] ++ ew r:=by rw [ew,if_neg (by simpa using hr)]
   rw [if_neg hr,h2];simp
theorem yc {l : List (List Wd)} {k : Nat} (h : k < l.length) (hne : l[k] ≠ []) : ig (l.take (k + 1)) = (if k = 0 then [] else ig (l.take k) ++ [44,32]) ++ aX l[k] ++ [32]:=by
 unfold ig
 rw [List.take_succ_eq_append_getElem h,sq]
 by_cases hk : k = 0
 ·subst hk;simp [fS hne]
 ·rw [if_neg hk,if_neg]
  ·simp [du,df,dB,fS hne]
  ·intro e
   have:=congrArg List.length e
   rw [List.length_take,List.length_nil] at this
   omega
theorem Be {l : List PS'} {k : Nat} (h : k < l.length) : gB (eE (l.take (k + 1))) = gB (eE (l.take k)) ++ aX (tkS l[k]) ++ [32]:=by
 have : ∀ a b : List PS',eE (a ++ b) = eE a ++ eE b:=fun a b=>by
  induction a with
  | nil=>rfl
  | cons x r ih=>rw [List.cons_append,eE,eE,ih,List.append_assoc]
 rw [List.take_succ_eq_append_getElem h,this,du]
 simp [eE,E2]
end Go.Proofs.YtkjnkkmokojnpaaGreatDoor
namespace Go.Proofs.YtkjnkkmokojnpaaGreatDoor
set_option linter.unusedSimpArgs false
set_option linter.unusedVariables false
open Go.RowKit
def ofB : Bool→Own
 | true=>.full
 | false=>.none
@[go_sem] theorem EU (tk : Bool) (k : Nat) (cs : List AV) (n : Nat) (b : Bool) : names tk (k + 1) (.sl cs n (ofB b)) = []:=by cases b <;> rfl
@[go_sem] theorem FR (g : List (Nat × Nat)) (k : Nat) (cs : List AV) (n : Nat) (b : Bool) : ren g (k + 1) (.sl cs n (ofB b)) = .sl cs n (ofB b):=by cases b <;> rfl
@[go_sem] theorem E6 (ex : List Nat) (σ : bL) (k : Nat) (cs : List AV) (n : Nat) (b : Bool) : i8 ex σ (k + 1) (.sl cs n (ofB b)) = .sl cs n (ofB b):=by cases b <;> rfl
@[go_sem] theorem D8 (d k : Nat) (cs : List AV) (n : Nat) (b : Bool) : eP d (k + 1) (.sl cs n (ofB b)) = false:=by cases b <;> rfl
@[go_sem] theorem EW (ex : List Nat) (σ : bL) (k : Nat) (cs : List AV) (n : Nat) (b : Bool) : ip ex σ (k + 1) (.sl cs n (ofB b)) = .sl cs n (ofB b):=by cases b <;> rfl
@[go_sem] theorem EV (k : Nat) (cs : List AV) (n : Nat) (b : Bool) : fd (k + 1) (.sl cs n (ofB b)) = some (.sl cs n (ofB b)):=by cases b <;> rfl
end Go.Proofs.YtkjnkkmokojnpaaGreatDoor
