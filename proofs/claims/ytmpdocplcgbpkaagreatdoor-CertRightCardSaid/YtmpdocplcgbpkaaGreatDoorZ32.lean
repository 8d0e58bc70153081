/- A certificate that is taken shows that the formula is false by any values: plain. -/
import Derived.Test.YtmpdocplcgbpkaaGreatDoorZ27
import Derived.Test.YtmpdocplcgbpkaaGreatDoorZ31
namespace Go.Proofs.YtmpdocplcgbpkaaGreatDoor
set_option linter.unusedSimpArgs false
set_option linter.unusedVariables false
def Fits (τ : Nat→Bool) (s : Sta) : Prop:=∀ l : Int,l ≠ 0→(ofA s.a l = 1→sat τ l = true)∧(ofA s.a l = -1→sat τ l = false)
theorem yV {a : List Int} {l x : Int} (hl : l ≠ 0) (hb : l.natAbs < a.length) (v : Int) : ofA (a.set l.natAbs (if 0 < l then 1 else -1)) x = if x = l then 1 else if x = -l then -1 else ofA a x:=by
 have hg : ∀ i : Nat,(a.set l.natAbs (if 0 < l then 1 else -1)).getD i 0 = if l.natAbs = i then (if 0 < l then 1 else -1) else a.getD i 0:=fun i=>fz _ _ _ _ _ hb
 unfold ofA
 by_cases h0 : x < 0
 ·rw [if_pos h0,hg]
  by_cases h1 : l.natAbs = (-x).toNat
  ·rw [if_pos h1]
   by_cases h2 : 0 < l
   ·rw [if_pos h2,if_neg (by omega),if_pos (by omega)]
   ·rw [if_neg h2,if_pos (by omega),Int.neg_neg]
  ·rw [if_neg h1,if_neg (by omega),if_neg (by omega),if_pos h0]
 ·rw [if_neg h0,hg]
  by_cases h1 : l.natAbs = x.toNat
  ·rw [if_pos h1]
   by_cases h2 : 0 < l
   ·rw [if_pos h2,if_pos (by omega)]
   ·rw [if_neg h2,if_neg (by omega),if_pos (by omega)]
  ·rw [if_neg h1,if_neg (by omega),if_neg (by omega),if_neg h0]
theorem As (τ : Nat→Bool) (n : Nat) : Fits τ ⟨List.replicate (n + 1) 0,[],[],0⟩:=fun l hl=>by
 have hz : ∀ i : Nat,(List.replicate (n + 1) (0 : Int)).getD i 0 = 0:=fun i=>by
  rw [List.getD_eq_getElem?_getD,List.getElem?_replicate]
  split <;> rfl
 have : ofA (List.replicate (n + 1) 0) l = 0:=by
  unfold ofA
  split
  ·rw [hz];rfl
  ·exact hz _
 show (ofA (List.replicate (n + 1) 0) l = 1→_)∧(ofA (List.replicate (n + 1) 0) l = -1→_)
 rw [this]
 exact ⟨fun e=>absurd e (by decide),fun e=>absurd e (by decide)⟩
theorem Fits.put {τ : Nat→Bool} {s : Sta} (h : Fits τ s) {l : Int} (hl : l ≠ 0) (hb : l.natAbs < s.a.length) (ht : sat τ l = true) : Fits τ (ny s l):=fun x hx=>by
 have e : ofA (ny s l).a x = if x = l then 1 else if x = -l then -1 else ofA s.a x:=yV hl hb 0
 rw [e]
 by_cases h1 : x = l
 ·subst h1;rw [if_pos rfl];exact ⟨fun _=>ht,fun e=>absurd e (by decide)⟩
 rw [if_neg h1]
 by_cases h2 : x = -l
 ·subst h2;rw [if_pos rfl];exact ⟨fun e=>absurd e (by decide),fun _=>by rw [jN τ hl,ht];rfl⟩
 rw [if_neg h2]
 exact h x hx
theorem zq {n : Nat} {τ : Nat→Bool} {s : Sta} (h : Fits τ s) (hs : OkSt n s) {l : Int} (hl : OkL n l) (ht : sat τ l = true) : (setS s l).1 = true∧Fits τ (setS s l).2:=by
 unfold setS
 split
 ·rename_i e
  rw [(h l hl.1).2 e] at ht;cases ht
 ·split
  ·exact ⟨rfl,h.put hl.1 (by have:=hs.len;have:=hl.2;omega) ht⟩
  ·exact ⟨rfl,h⟩
theorem qT {n : Nat} {τ : Nat→Bool} : ∀ {r : List Int} {s : Sta},Fits τ s→OkSt n s→(∀ l ∈ r,OkL n l∧sat τ l = true)→(gh r s).1 = true∧Fits τ (gh r s).2
 | [],s,h,_,_=>⟨rfl,h⟩
 | l :: r,s,h,hs,hr=>by
  obtain ⟨h1,h2⟩:=zq h hs (hr l (by simp)).1 (hr l (by simp)).2
  rw [gh,if_pos h1]
  exact qT h2 (hs.set (hr l (by simp)).1) fun x hx=>hr x (by simp [hx])
theorem mK {n : Nat} {τ : Nat→Bool} {s : Sta} (h : Fits τ s) (hs : OkSt n s) : ∀ (c : List Int) (one : Int),(∀ l ∈ c,OkL n l)→((one ≠ 0∧sat τ one = true)∨gu τ c = true∨(dW s.a c one).1 = true)→(one ≠ 0→ofA s.a one = 0) →
  (dW s.a c one).1 = true∨((dW s.a c one).2 ≠ 0∧sat τ (dW s.a c one).2 = true)
 | [],one,_,ho,_=>by
  rw [dW] at ho ⊢
  rcases ho with ⟨h1,h2⟩ | h1 | h1
  ·exact .inr ⟨h1,h2⟩
  ·cases h1
  ·cases h1
 | l :: r,one,hc,ho,hone=>by
  have hl:=hc l (by simp)
  have hr:=fun x (hx : x ∈ r)=>hc x (by simp [hx])
  rw [dW] at ho ⊢
  by_cases h1 : ofA s.a l = 1
  ·rw [if_pos h1];exact .inl rfl
  rw [if_neg h1] at ho ⊢
  have hcl : gu τ (l :: r) = (sat τ l || gu τ r):=rfl
  by_cases h0 : ofA s.a l = 0
  ·rw [if_pos h0] at ho ⊢
   by_cases h2 : one ≠ 0∧one ≠ l
   ·rw [if_pos h2];exact .inl rfl
   ·rw [if_neg h2] at ho ⊢
    refine mK h hs r l hr ?_ fun _=>h0
    rcases ho with ⟨a1,a2⟩ | a1 | a1
    ·have : one = l:=by
      by_cases e : one = l
      ·exact e
      ·exact absurd ⟨a1,e⟩ h2
     exact .inl ⟨hl.1,this ▸ a2⟩
    ·rw [hcl,Bool.or_eq_true] at a1
     rcases a1 with a1 | a1
     ·exact .inl ⟨hl.1,a1⟩
     ·exact .inr (.inl a1)
    ·exact .inr (.inr a1)
  ·rw [if_neg h0] at ho ⊢
   refine mK h hs r one hr ?_ hone
   have hm : sat τ l = false:=(h l hl.1).2 (by
    have:=hs.a l.natAbs
    have hv : ofA s.a l = s.a.getD l.natAbs 0∨ofA s.a l = -s.a.getD l.natAbs 0:=by
     unfold ofA
     split
     ·right;rw [show l.natAbs = (-l).toNat by omega]
     ·left;rw [show l.natAbs = l.toNat by omega]
    omega)
   rcases ho with a | a | a
   ·exact .inl a
   ·rw [hcl,hm,Bool.false_or] at a
    exact .inr (.inl a)
   ·exact .inr (.inr a)
theorem wG {n : Nat} {τ : Nat→Bool} {s : Sta} (h : Fits τ s) (hs : OkSt n s) {c : List Int} (hc : ∀ l ∈ c,OkL n l) (ht : gu τ c = true) : (d8 s c).1 = true∧Fits τ (d8 s c).2:=by
 have h1:=mK h hs c 0 hc (.inr (.inl ht)) fun e=>absurd rfl e
 unfold d8
 split
 ·exact ⟨rfl,h⟩
 ·rename_i h2
  obtain ⟨h3,h4⟩:=h1.resolve_left h2
  rw [if_neg h3]
  have hm : (dW s.a c 0).2 ∈ c:=by
   rcases gw s.a c 0 with e | e | e
   ·exact absurd e h3
   ·exact absurd e h3
   ·exact e
  exact ⟨rfl,h.put h3 (by have:=hs.len;have:=(hc _ hm).2;omega) h4⟩
theorem lc {n : Nat} {τ : Nat→Bool} : ∀ {r : List (List Int)} {s : Sta},Fits τ s→OkSt n s→(∀ c ∈ r,(∀ l ∈ c,OkL n l)∧gu τ c = true)→(dy r s).1 = true∧Fits τ (dy r s).2
 | [],s,h,_,_=>⟨rfl,h⟩
 | c :: r,s,h,hs,hr=>by
  obtain ⟨h1,h2⟩:=wG h hs (hr c (by simp)).1 (hr c (by simp)).2
  rw [dy,if_pos h1]
  exact lc h2 (hs.look (hr c (by simp)).1) fun x hx=>hr x (by simp [hx])
theorem og {n : Nat} {τ : Nat→Bool} {cls : List (List Int)} (hc : ∀ c ∈ cls,(∀ l ∈ c,OkL n l)∧gu τ c = true) : ∀ (m : Nat) {s : Sta},Fits τ s→OkSt n s→(fC cls m s).1 = true
 | 0,s,_,_=>rfl
 | m + 1,s,h,hs=>by
  rw [fC]
  split
  ·rfl
  ·have hp : Fits τ (nx s):=h
   have hr : ∀ c ∈ (gm cls (-(s.q.headD 0))).map (fun i=>cls.getD i []),(∀ l ∈ c,OkL n l)∧gu τ c = true:=fun c hcm=>by
    obtain ⟨i,hi,rfl⟩:=List.mem_map.1 hcm
    have hil:=oE hi
    rw [List.getD_eq_getElem?_getD,List.getElem?_eq_getElem hil]
    exact hc _ (List.getElem_mem hil)
   obtain ⟨h1,h2⟩:=lc hp hs.pop hr
   rw [if_pos h1]
   exact og hc m h2 (hs.pop.looks fun c hcm=>(hr c hcm).1)
theorem se {n : Nat} {τ : Nat→Bool} {cls : List (List Int)} {lits : List Int} (hc : ∀ c ∈ cls,(∀ l ∈ c,OkL n l)∧gu τ c = true) (hl : ∀ l ∈ lits,OkL n l∧sat τ l = true) : (gN n cls lits).1 = true:=by
 obtain ⟨h1,h2⟩:=qT (As τ n) (sE n) hl
 have hs1:=(sE n).sets (r:=lits) fun l hl'=>(hl l hl').1
 obtain ⟨h3,h4⟩:=lc h2 hs1 hc
 unfold gN
 simp only
 rw [if_pos h1,if_pos h3]
 exact og hc _ h4 (hs1.looks fun c hcm=>(hc c hcm).1)
theorem wU {n : Nat} {τ : Nat→Bool} {c : List Int} (hc : ∀ l ∈ c,OkL n l) (h : gu τ c = false) : ∀ l ∈ kc c,OkL n l∧sat τ l = true:=fun l hl=>by
 refine ⟨tJ hc l hl,?_⟩
 obtain ⟨x,hx,rfl⟩:=List.mem_map.1 hl
 have h1:=List.any_eq_false.1 h x hx
 rw [jN τ (hc x hx).1]
 simpa using h1
theorem tO {n : Nat} {τ : Nat→Bool} {all : List (List Int)} {base : Nat} (hall : ∀ c ∈ all,∀ l ∈ c,OkL n l) : ∀ (ss : List (List Int)) (i : Nat),all.drop (base + i) = ss→(∀ c ∈ all.take (base + i),gu τ c = true)→(kL n all base ss i).1 = 0→∀ c ∈ all,gu τ c = true
 | [],i,hd,ht,_=>fun c hc=>by
  have : all.take (base + i) = all:=List.take_of_length_le (by
   have:=congrArg List.length hd
   rw [List.length_drop,List.length_nil] at this;omega)
  rw [this] at ht
  exact ht c hc
 | s :: r,i,hd,ht,h=>by
  rw [kL] at h
  split at h
  ·cases h
  rename_i hf
  have hlt : base + i < all.length:=by
   have:=congrArg List.length hd
   rw [List.length_drop,List.length_cons] at this;omega
  have hg : all[base + i] = s:=by
   rw [List.drop_eq_getElem_cons hlt] at hd
   exact (List.cons.inj hd).1
  have hr : all.drop (base + (i + 1)) = r:=by
   rw [List.drop_eq_getElem_cons hlt] at hd
   exact (List.cons.inj hd).2
  refine tO hall r (i + 1) hr (fun c hc=>?_) h
  have e : all.take (base + (i + 1)) = all.take (base + i) ++ [s]:=by
   show all.take (base + i + 1) = _
   rw [List.take_succ_eq_append_getElem hlt,hg]
  rw [e] at hc
  rcases List.mem_append.1 hc with hc | hc
  ·exact ht c hc
  ·rw [List.mem_singleton] at hc
   subst hc
   cases hsc : gu τ c with
   | true=>rfl
   | false =>
    have hcm : c ∈ all:=hg ▸ List.getElem_mem hlt
    exact absurd (se (cls:=all.take (base + i)) (fun d hd'=>⟨hall d (List.mem_of_mem_take hd'),ht d hd'⟩) (wU (hall c hcm) hsc)) hf
theorem zo {n : Int} {cls steps : List (List Int)} {τ : Nat→Bool} (h : (pI n cls steps).1 = 0) (hs : ∀ c ∈ cls,gu τ c = true) : False:=by
 rw [tP] at h
 split at h
 ·rename_i h1;exact h1 h
 split at h
 ·rename_i h1;exact h1 h
 rename_i h2
 rw [Decidable.not_not] at h2
 obtain ⟨_,_,_,hl⟩:=jb h2
 split at h
 ·rename_i h1;exact h1 h
 rename_i h3
 rw [Decidable.not_not] at h3
 split at h
 ·rename_i he
  obtain ⟨c,hc,h4⟩:=List.any_eq_true.1 he
  have : c = []:=List.eq_nil_of_length_eq_zero (of_decide_eq_true h4)
  subst this
  have:=tO (τ:=τ) hl steps 0 (by simp) (by simpa using hs) h3 [] hc
  cases this
 ·cases h
theorem yH {u : Int→Int} {ls : List Ln} {l : Lem} {τ : Nat→Bool} (ha : AtR u ls τ) (h : pr ls l = 0) : gu τ l.lits = true:=by
 unfold pr at h
 split at h
 ·rename_i h1;exact absurd h h1
 rename_i h1
 rw [Decidable.not_not] at h1
 obtain ⟨hlin,hbad,hps⟩:=qJ h1
 cases hs : gu τ l.lits with
 | true=>rfl
 | false =>
  exfalso
  have hle : ∀ p ∈ (gG ls l.lits).2,dK u p≤0:=fun p hp=>by
   rw [hps] at hp
   obtain ⟨z,hz,rfl⟩:=List.mem_map.1 hp
   have hf : sat τ z = false:=by simpa using List.any_eq_false.1 hs z hz
   have hb:=hbad z hz
   obtain ⟨z0,z1,z2⟩:=oO hb
   obtain ⟨i,hi,he,hiz⟩:=oN hb
   have hτ:=ha i hi
   unfold jr
   by_cases hneg : z < 0
   ·rw [if_pos hneg]
    rw [if_pos hneg] at hiz
    unfold sat at hf
    rw [if_neg (by omega),show (-z).toNat = i + 1 by omega,hτ] at hf
    simp only
    rw [he]
    simpa using hf
   ·rw [if_neg hneg]
    rw [if_neg hneg] at hiz
    unfold sat at hf
    rw [if_pos (by omega),show z.toNat = i + 1 by omega,hτ] at hf
    have hgt : 0 < dK u ls[i]:=by simpa using hf
    split
    ·rw [he]
     have:=ry u ls[i].c ls[i].t
     show dK u ⟨1 - ls[i].c,cz (-1) ls[i].t⟩≤0
     rw [this]
     show 1 - dK u ls[i]≤0
     omega
    ·unfold dK;simp [dI]
  by_cases e : (dj (gG ls l.lits).2 l.steps).1 = 0
  ·rw [pG hle e] at h;cases h
  ·unfold gf at h
   dsimp only at h
   rw [if_neg e] at h
   exact e h
theorem qt {u : Int→Int} {ls : List Ln} {τ : Nat→Bool} (ha : AtR u ls τ) : ∀ (ms : List Lem) (i : Nat),(gS ls ms i).1 = 0→∀ m ∈ ms,gu τ m.lits = true
 | [],_,_=>fun m hm=>absurd hm List.not_mem_nil
 | l :: r,i,h=>fun m hm=>by
  rw [gS] at h
  split at h
  ·rename_i h1;exact absurd h h1
  rename_i h1
  rw [Decidable.not_not] at h1
  rcases List.mem_cons.1 hm with rfl | hm
  ·exact yH ha h1
  ·exact qt ha r (i + 1) h m hm
theorem vQ {f : Fo} {c : Crt} (h : (kp f c).1 = 0) (u : Int→Int) : tru u f = false:=by
 rw [qb] at h
 split at h
 ·rename_i h1;exact absurd h h1
 rename_i h1
 rw [Decidable.not_not] at h1
 split at h
 ·rename_i h2;exact absurd h h2
 rename_i h2
 rw [Decidable.not_not] at h2
 split at h
 ·cases h
 split at h
 ·rename_i h3;exact absurd h h3
 rename_i h3
 rw [Decidable.not_not] at h3
 have hn : dP f = 0∧(c7 f).2 = (dG f false).2∧(dG f false).1 = 0:=by
  unfold c7 at h1 ⊢
  split at h1
  ·rename_i e;rw [if_pos e];exact ⟨e,rfl,h1⟩
  ·rename_i e;exact absurd h1 e
 obtain ⟨hc0,hn2,hn1⟩:=hn
 have htr:=lg u f false (lT hc0).2.2 hn1
 rw [← hn2] at htr
 obtain ⟨hisN,hN,hls,hcls,_,_⟩:=l9 h2
 generalize (c7 f).2 = n at *
 cases ht : tru u f with
 | false=>rfl
 | true =>
  exfalso
  rw [ht] at htr
  have htn : tru u n = true:=by simpa using htr
  obtain ⟨τ0,hτ0⟩ : ∃ τ0 : Nat→Bool,τ0 = fun v=>decide (dK u ((c8 n []).getD (v - 1) ⟨0,[]⟩)≤0):=⟨_,rfl⟩
  have hat0 : AtR u (c8 n []) τ0:=fun i hi=>by
   rw [hτ0]
   simp only [Nat.add_sub_cancel]
   rw [List.getD_eq_getElem?_getD,List.getElem?_eq_getElem hi];rfl
  have hok : okk n:=oB n 128 20480 (by unfold isN at hisN;exact of_decide_eq_true hisN)
  obtain ⟨τ,a1,a2,a3,a4,a5⟩:=mE u (c8 n []) n ((c8 n []).length : Int) [] τ0 hok (qi n []).2 (Int.le_refl _) hat0 (fun c hc=>absurd hc List.not_mem_nil)
  have hat:=hat0.agree a1 (Int.le_refl _)
  refine zo (τ:=τ) h fun c hc=>?_
  rcases List.mem_append.1 hc with hc | hc
  ·rw [hcls] at hc
   obtain ⟨d,hd,rfl⟩:=List.mem_map.1 hc
   unfold mL at hd
   rcases List.mem_append.1 hd with hd | hd
   ·exact (a5 d hd).2
   ·rw [List.mem_singleton] at hd
    subst hd
    unfold gu
    simp only [List.any_cons,List.any_nil,Bool.or_false]
    rw [a4];exact htn
  ·obtain ⟨m,hm,rfl⟩:=List.mem_map.1 hc
   rw [hls] at h3
   exact qt hat _ 0 h3 m hm
theorem rT {f : Fo} {c : Crt} {vs : List Int} (h : (kp f c).1 = 0) (hv : (jw f vs).2 = 0) : (jw f vs).1 = false:=by
 unfold jw at hv ⊢
 split at hv
 ·rename_i h1;rw [if_pos h1]
 rename_i h1
 rw [Decidable.not_not] at h1
 rw [if_neg (by rw [h1];decide)]
 split at hv
 ·cases hv
 rename_i h2
 rw [if_neg h2]
 simp only
 rw [ng vs f (lT h1).2.2 fun v hvm=>by simpa using List.any_eq_false.1 (by simpa using h2) v hvm]
 exact vQ h (ofN vs)
end Go.Proofs.YtmpdocplcgbpkaaGreatDoor
