/- What is amiss with a procedure's names: the code's proc, in K (printed by gen_proc.py). The round over statements: the closure of proc that sets what is amiss, in K (printed by gen_proc.py). -/
import Derived.Test.YtkjnkkmokojnpaaGreatDoorZ17
import Derived.Test.YtkjnkkmokojnpaaGreatDoorZ19
import Derived.Test.YtkjnkkmokojnpaaGreatDoorZ11
namespace Go.Proofs.YtkjnkkmokojnpaaGreatDoor
set_option linter.unusedSimpArgs false
set_option linter.unusedVariables false
open Go.RowKit
def fu : Nat → List Nat
 | 0 => [0]
 | 1 => [0]
 | 2 => [0,3]
 | 3 => [0,3,9,10,11]
 | 4 => [0,3,9,10,11]
 | 5 => [0,3,5,9,10,11]
 | 6 => [0,3,9,10,11]
 | 7 => [0,3,9,10,11]
 | 8 => [0,3,9,10,11]
 | 9 => [0,3]
 | 10 => [0,6]
 | 11 => [6,25,26,27]
 | 12 => [6,25,26,27]
 | 13 => [6,8,25,26,27]
 | 14 => [6,25,26,27]
 | 15 => [6]
 | _ => []
set_option maxRecDepth 100000 in
set_option maxHeartbeats 4000000 in
theorem yd (a b : List Wd) (h : a.length + b.length ≤ 1000) : AFn Tryz.prog 64 [.sl [.sl (a.map bs) a.length .none,.sl (b.map bs) b.length .none] 2 .full] [] (.sl ((a ++ b).map bs) (a ++ b).length .none) [] := by
 have hg := C5 (a.length + b.length) h
 have u0 : IntKind.i64.wrap (0 + (a.length : Int)) = (a.length : Int) := by rw [cF (by omega) (by omega)]; omega
 have u1 : IntKind.i64.wrap ((a.length : Int) + (b.length : Int)) = ((a.length + b.length : Nat) : Int) := by rw [cF (by omega) (by omega)]; omega
 have n0 : ((a.length : Int) < 0) = False := eq_false (by omega)
 have n1 : (((a.length + b.length : Nat) : Int) < 0) = False := eq_false (by omega)
 have ui : IntKind.i64.wrap 1 = 1 := rfl
 have uj : IntKind.i64.wrap 2 = 2 := rfl
 rw [List.map_append,List.length_append]
 generalize hA : a.map bs = A
 generalize hB : b.map bs = B
 have lA : A.length = a.length := by rw [← hA,List.length_map]
 have lB : B.length = b.length := by rw [← hB,List.length_map]
 generalize a.length = na at *
 generalize b.length = nb at *
 clear hA hB
 refine aM [] Tryz.func64 rfl Tryz.ntmps64 (Nat.le_of_ble_eq_true rfl) (Nat.le_of_ble_eq_true rfl) fun w0 G0 B0 Pr hB0 => ?_
 simp only [aW,aL,List.cons_append,List.nil_append]
 repeat' (first | (with_reducible refine hY _ ?_; clear hY Y) | ((with_reducible first | refine au rfl (ay fun K' hK' => aa ?_) | refine hK' _ (ab fun Y hY => aa ?_) | refine ab fun Y hY => aa ?_ | refine ac tk0 fu (ab fun Y hY => aa ?_) | refine aa ?_ | refine ax ?_); (try clear hK' K'); (try dsimp only [aop]); try simp only [go_sem,seval,fu,Tryz.results64,u0,u1,n0,n1,ui,uj,lA,lB]) | (with_reducible first | refine ag ?_ | refine am ?_ | refine aq ?_ | refine aG fun K hK => ?_ | refine aA ?_ | refine bY ?_ | refine ba ?_ | refine bF ?_ | refine av ?_ | refine aH ?_ | refine aB ?_ | refine bE ?_ | refine bR ?_) | (with_reducible refine hK _ ?_; clear hK K) | ((with_reducible refine ai ?_ ?_); (· decide)) | ((with_reducible refine fi (fun hc => ?_) (fun hc => ?_)) <;> (try simp only [decide_eq_true_eq,decide_eq_false_iff_not,Bool.not_true,Bool.not_false,Bool.not_eq_true',Bool.not_eq_false'] at hc) <;> (try (exfalso; omega))) | (with_reducible refine bm ?_ ?_; (· (try and_intros) <;> first | omega | assumption | (simp only [List.length_append,List.length_map,List.length_cons,List.length_nil] <;> omega))) | (with_reducible refine ae (hg) ?_) | ((with_reducible refine rr ?_)))
 all_goals simp_all
def gE : Nat → List Nat
 | 0 => [0,1]
 | 1 => [1,2]
 | _ => []
set_option maxRecDepth 100000 in
set_option maxHeartbeats 4000000 in
theorem Em (o x : PP) : AFn Tryz.prog 68 [.agg (ppA o),.rf (ppA x) 0] [] (.c (.bool (o.name == x.name))) [] := by
 obtain ⟨nm,prs,ghs,⟨ak,⟨ack,ace,acks⟩,⟨aek,aen,aex,aeks⟩,⟨avk,avn,avx,avks⟩,af,an,aks⟩,⟨qk,⟨qck,qce,qcks⟩,⟨qek,qen,qex,qeks⟩,⟨qvk,qvn,qvx,qvks⟩,qf,qn,qks⟩,bd⟩ := o
 obtain ⟨nm2,prs2,ghs2,pre2,post2,bd2⟩ := x
 simp only [ppA,paA,ci,peA,List.cons_append,List.nil_append]
 refine aM [] Tryz.func68 rfl Tryz.ntmps68 (Nat.le_of_ble_eq_true rfl) (Nat.le_of_ble_eq_true rfl) fun w0 G0 B0 Pr hB0 => ?_
 simp only [aW,aL,List.cons_append,List.nil_append]
 repeat' (first | (with_reducible refine hY _ ?_; clear hY Y) | ((with_reducible first | refine au rfl (ay fun K' hK' => aa ?_) | refine hK' _ (ab fun Y hY => aa ?_) | refine ac tk0 gE (ab fun Y hY => aa ?_) | refine aa ?_ | refine ax ?_); (try clear hK' K'); (try dsimp only [aop]); try simp only [go_sem,seval,gE,Tryz.results68]) | (with_reducible first | refine ag ?_ | refine am ?_ | refine aq ?_ | refine aG fun K hK => ?_ | refine aB ?_) | (with_reducible refine hK _ ?_; clear hK K) | (with_reducible refine bm ?_ ?_; (· (try and_intros) <;> first | omega | assumption | (simp only [List.length_append,List.length_map,List.length_cons,List.length_nil] <;> omega))) | (with_reducible refine bv (bW _) ?_))
def gF : Nat → List Nat
 | 0 => [0,1]
 | 1 => [0,1]
 | _ => []
set_option maxRecDepth 100000 in
theorem CH (own : List Wd) (hl : own.length ≤ 1000) (x : Wd) : AFn Tryz.prog 71 [bs x,.rf [.sl (own.map bs) own.length .none] 0] [] (.c (.bool (own.contains x))) [] := by
 have h1 := iS own x (by omega)
 generalize own.contains x = b at *
 refine aM [] Tryz.func71 rfl Tryz.ntmps71 (Nat.le_of_ble_eq_true rfl) (Nat.le_of_ble_eq_true rfl) fun w0 G0 B0 Pr hB0 => ?_
 simp only [aW,aL,List.cons_append,List.nil_append]
 repeat' (first | (with_reducible refine hY _ ?_; clear hY Y) | ((with_reducible first | refine au rfl (ay fun K' hK' => aa ?_) | refine hK' _ (ab fun Y hY => aa ?_) | refine ac tk0 gF (ab fun Y hY => aa ?_) | refine aa ?_ | refine ax ?_); (try clear hK' K'); (try dsimp only [aop]); try simp only [go_sem,seval,gF,Tryz.results71]) | (with_reducible first | refine ag ?_ | refine am ?_ | refine aq ?_ | refine aG fun K hK => ?_ | refine aB ?_) | (with_reducible refine hK _ ?_; clear hK K) | (with_reducible refine ae (h1) ?_))
set_option maxRecDepth 100000 in
theorem En (own : List Wd) (hl : own.length ≤ 1000) : IsC 71 [.sl (own.map bs) own.length .none] (fun w => own.contains w) := ⟨rfl,fun x _ => CH own hl x⟩
def gG : Nat → List Nat
 | 0 => [0,1]
 | 1 => [0,1]
 | _ => []
set_option maxRecDepth 100000 in
theorem Eo (x : PP) (hl : x.ghosts.length ≤ 1000) : IsC 72 (ppA x) (fun w => x.ghosts.contains w) := by
 refine ⟨rfl,fun w hw => ?_⟩
 have h1 := iS x.ghosts w (by omega)
 obtain ⟨nm2,prs2,ghs2,pre2,post2,bd2⟩ := x
 simp only at h1
 simp only [ppA,List.cons_append,List.nil_append]
 generalize ghs2.contains w = b at *
 refine aM [] Tryz.func72 rfl Tryz.ntmps72 (Nat.le_of_ble_eq_true rfl) (Nat.le_of_ble_eq_true rfl) fun w0 G0 B0 Pr hB0 => ?_
 simp only [aW,aL,List.cons_append,List.nil_append]
 repeat' (first | (with_reducible refine hY _ ?_; clear hY Y) | ((with_reducible first | refine au rfl (ay fun K' hK' => aa ?_) | refine hK' _ (ab fun Y hY => aa ?_) | refine ac tk0 gG (ab fun Y hY => aa ?_) | refine aa ?_ | refine ax ?_); (try clear hK' K'); (try dsimp only [aop]); try simp only [go_sem,seval,gG,Tryz.results72]) | (with_reducible first | refine ag ?_ | refine am ?_ | refine aq ?_ | refine aG fun K hK => ?_ | refine aB ?_) | (with_reducible refine hK _ ?_; clear hK K) | (with_reducible refine bm ?_ ?_; (· (try and_intros) <;> first | omega | assumption | (simp only [List.length_append,List.length_map,List.length_cons,List.length_nil] <;> omega))) | (with_reducible refine ae (h1) ?_))
def gH : Nat → List Nat
 | 0 => [0,1]
 | 1 => [0,1]
 | _ => []
set_option maxRecDepth 100000 in
theorem Ep {F : Nat} {cc : List AV} {q : Wd → Bool} (h : IsC F cc q) : IsC 76 [isF F cc] (fun w => !q w) := by
 refine ⟨rfl,fun x hx => ?_⟩
 have h1 := h.tells x hx
 have hok := h.ok
 generalize q x = b at *
 simp only [isF]
 refine aM [] Tryz.func76 rfl Tryz.ntmps76 (Nat.le_of_ble_eq_true rfl) (Nat.le_of_ble_eq_true rfl) fun w0 G0 B0 Pr hB0 => ?_
 simp only [aW,aL,List.cons_append,List.nil_append]
 repeat' (first | (with_reducible refine hY _ ?_; clear hY Y) | ((with_reducible first | refine au rfl (ay fun K' hK' => aa ?_) | refine hK' _ (ab fun Y hY => aa ?_) | refine ac tk0 gH (ab fun Y hY => aa ?_) | refine aa ?_ | refine ax ?_); (try clear hK' K'); (try dsimp only [aop]); try simp only [go_sem,seval,gH,Tryz.results76,hok]) | (with_reducible first | refine ag ?_ | refine am ?_ | refine aq ?_ | refine aG fun K hK => ?_ | refine aB ?_) | (with_reducible refine hK _ ?_; clear hK K) | (with_reducible refine ae (h1) ?_))
def gI : Nat → List Nat
 | 0 => [0,1]
 | 1 => [0,1]
 | _ => []
set_option maxRecDepth 100000 in
theorem Eq {F : Nat} {cc : List AV} {q : Wd → Bool} (h : IsC F cc q) : IsC 77 [isF F cc] (fun w => !q w && !(w == oq)) := by
 refine ⟨rfl,fun x hx => ?_⟩
 have h1 := h.tells x hx
 have hok := h.ok
 generalize q x = b at *
 simp only [isF,oq]
 refine aM [] Tryz.func77 rfl Tryz.ntmps77 (Nat.le_of_ble_eq_true rfl) (Nat.le_of_ble_eq_true rfl) fun w0 G0 B0 Pr hB0 => ?_
 simp only [aW,aL,List.cons_append,List.nil_append]
 repeat' (first | (with_reducible refine hY _ ?_; clear hY Y) | ((with_reducible first | refine au rfl (ay fun K' hK' => aa ?_) | refine hK' _ (ab fun Y hY => aa ?_) | refine bf rfl (ab fun Y hY => aa ?_) | refine ab fun Y hY => aa ?_ | refine ay fun K' hK' => aa ?_ | refine ac tk0 gI (ab fun Y hY => aa ?_) | refine aa ?_ | refine ax ?_); (try clear hK' K'); (try dsimp only [aop]); try simp only [go_sem,seval,gI,Tryz.results77,hok]) | (with_reducible first | refine ag ?_ | refine aU rfl ?_ | refine aK ?_ | refine cN ?_ ?_ | refine am ?_ | refine aq ?_ | refine aG fun K hK => ?_ | refine aB ?_) | (with_reducible refine hK _ ?_; clear hK K) | ((with_reducible refine aJ ?_ ?_); (· decide)) | ((with_reducible refine bP (fun hc => ?_) (fun hc => ?_)) <;> (try simp only [decide_eq_true_eq,decide_eq_false_iff_not,Bool.not_true,Bool.not_false,Bool.not_eq_true',Bool.not_eq_false'] at hc) <;> (try (exfalso; omega))) | (with_reducible refine ae (h1) ?_) | (with_reducible refine bv (bW _) ?_))
 all_goals simp_all
end Go.Proofs.YtkjnkkmokojnpaaGreatDoor
namespace Go.Proofs.YtkjnkkmokojnpaaGreatDoor
set_option linter.unusedSimpArgs false
set_option linter.unusedVariables false
open Go.RowKit
def uy (ps : List PP) : PS' → Bool
 | .mk k x y z e v c a rs gs fs b l => decide (k = 9) && match (gB ps z).bind fun i => ps[i]? with
  | some p => decide (p.params.length ≠ rs.length) || decide (p.ghosts.length ≠ gs.length)
  | none => decide (0 ≠ rs.length) || decide (0 ≠ gs.length)
def l8 (ps : List PP) (gs : List Wd) (st : Bool × Bool × Bool) (s : PS') : Bool × Bool × Bool := (st.1 || stN ps gs s,st.2.1 || stP s,st.2.2 || uy ps s)
def bU : Nat → List Nat
 | 0 => [0,1,2,3,4,5]
 | 1 => [1,2,3,4,5,6]
 | 2 => [1,3,4,5,6]
 | 3 => [1,4,5,6]
 | 4 => [1,4,5,6]
 | 5 => [1,5,6,7,8]
 | 6 => [5,6,7]
 | _ => []
set_option maxRecDepth 100000 in
set_option maxHeartbeats 32000000 in
theorem Er (ps : List PP) (hps : Lg ps) {F : Nat} {cc : List AV} {ghs : List Wd} (hg : IsC F cc (fun w => ghs.contains w)) (s : PS') (ho : OkS s) (st : Bool × Bool × Bool) :
  AFn Tryz.prog 80 [.agg (psA s),.loc 20000 0,.rf [isF F cc] 0,.loc 20001 0,.rf [dN ps] 0,.loc 20002 0] [.bc [.c (.bool st.1)] 4,.bc [.c (.bool st.2.1)] 4,.bc [.c (.bool st.2.2)] 4] (.tup [])
   [.bc [.c (.bool (l8 ps ghs st s).1)] 4,.bc [.c (.bool (l8 ps ghs st s).2.1)] 4,.bc [.c (.bool (l8 ps ghs st s).2.2)] 4] := by
 obtain ⟨n0,p0,c0⟩ := st
 obtain ⟨k,x,f,z,e,v,c,a,rs,gs,fs,bd,els⟩ := s
 obtain ⟨_,_,_,_,he,hv,hc,ha,⟨hrs,hro⟩,⟨hgs,_⟩,_⟩ := ho
 have h1 := uc hg e he
 have h2 := uc hg v hv
 have h3 := yI hg c hc
 have h4 := yJ hg rs hrs hro
 have h5 := nB a ha
 have h6 := C3 ps hps z
 unfold rX at h1 h2
 unfold rW at h3
 unfold pq at h4
 unfold je at h5
 obtain ⟨N,hN⟩ : ∃ N,N = (l8 ps ghs (n0,p0,c0) (.mk k x f z e v c a rs gs fs bd els)).1 := ⟨_,rfl⟩
 obtain ⟨Q,hQ⟩ : ∃ Q,Q = (l8 ps ghs (n0,p0,c0) (.mk k x f z e v c a rs gs fs bd els)).2.1 := ⟨_,rfl⟩
 obtain ⟨C,hC⟩ : ∃ C,C = (l8 ps ghs (n0,p0,c0) (.mk k x f z e v c a rs gs fs bd els)).2.2 := ⟨_,rfl⟩
 rw [← hN,← hQ,← hC]
 simp only [l8,stN,stP,uy,List.any_append,← sc,← uN,← oT] at hN hQ hC
 have hnone : (gB ps z).isNone = ((gB ps z).bind fun i => ps[i]?).isNone := by
  cases hf : gB ps z with
  | none => rfl
  | some i => rw [Option.bind_some,List.getElem?_eq_getElem (kT hf).2]; rfl
 rw [hnone] at hN
 obtain ⟨one,pu,len,g0,g1,g2,g3,s4,s8,s12,s15,g30,g31,g32,g33,g34⟩ := jG k x f z e v c a rs gs fs bd els
 generalize psA (.mk k x f z e v c a rs gs fs bd els) = SC at *
 have nE := (dF e).nm3
 have nV := (dF v).nm3
 have nC := (eE c).nm3
 have nA := (dP a).nm3
 have rE := (dF e).rn3
 have rV := (dF v).rn3
 have rC := (eE c).rn3
 have rA := (dP a).rn3
 unfold Lg at hrs hgs
 clear hnone hg he hv hc ha hro g1 g2 g32 g33 g34
 generalize ma (fun w => ghs.contains w) e = b1 at *
 generalize ma (fun w => ghs.contains w) v = b2 at *
 generalize oL (fun w => ghs.contains w) c = b3 at *
 generalize kG (fun w => ghs.contains w) rs = b4 at *
 generalize fE a = b5 at *
 generalize ((gB ps z).bind fun i => ps[i]?) = fo at *
 generalize peA e = EA at *
 generalize peA v = VA at *
 generalize ci c = CA at *
 generalize paA a = AA at *
 generalize cl rs = RA at *
 generalize cl gs = GA at *
 generalize hl1 : rs.length = l1 at *
 generalize hl2 : gs.length = l2 at *
 simp only [isF] at h1 h2 h3 h4 ⊢
 refine aM [] Tryz.func80 rfl Tryz.ntmps80 (Nat.le_of_ble_eq_true rfl) (Nat.le_of_ble_eq_true rfl) fun w0 G0 B0 Pr hB0 => ?_
 simp only [aW,aL,List.cons_append,List.nil_append]
 repeat' (first | (with_reducible refine hY _ ?_; clear hY Y) | ((with_reducible first | refine au rfl (ay fun K' hK' => aa ?_) | refine hK' _ (ab fun Y hY => aa ?_)); (try clear hK' K'); (try dsimp only [aop]); try simp only [go_sem,seval,bU,Tryz.results80,one]) | (with_reducible first | refine ag ?_ | refine am ?_ | refine aG fun K hK => ?_) | ((with_reducible refine bC 1 ?_ ?_); (· rfl)) | ((with_reducible refine aS 1 tk0 bU ?_ (ab fun Y hY => aa ?_)); (· rfl); (try dsimp only [aop]); try simp only [go_sem,seval,bU,Tryz.results80,one]) | (with_reducible refine hK _ ?_; clear hK K))
 refine dj 10006 ⟨by decide,by decide⟩ rfl rfl pu (by simp only [go_sem,seval]; exact rfl) ?_
 apply fm (α := Bool) (fun q => [(1,.loc 20000 0),(3,.loc 20001 0),(4,.rf [dN ps] 0),(5,.loc 20002 0),(6,.rf SC 0),(20000,.bc [.c (.bool q)] 4),(20001,.bc [.c (.bool p0)] 4),(20002,.bc [.c (.bool c0)] 4)]) (fun q => q = (n0 || (b1 || (b2 || (b3 || b4)))))
 case use =>
  intro key
  repeat' (first | (with_reducible refine hY _ ?_; clear hY Y) | ((with_reducible first | refine au rfl (ay fun K' hK' => aa ?_) | refine hK' _ (ab fun Y hY => aa ?_) | refine bf rfl (ab fun Y hY => aa ?_) | refine ab fun Y hY => aa ?_ | refine ay fun K' hK' => aa ?_ | refine aa ?_); (try clear hK' K'); (try dsimp only [aop]); try simp only [go_sem,seval,bU,Tryz.results80,len,s4,s8,s12,g30,nE,nV,nC,rE,rV,rC]) | (with_reducible first | refine ag ?_ | refine aU rfl ?_ | refine aK ?_ | refine cN ?_ ?_ | refine am ?_ | refine aG fun K hK => ?_) | ((with_reducible refine bC 2 ?_ ?_); (· rfl)) | ((with_reducible refine aS 2 tk0 bU ?_ (ab fun Y hY => aa ?_)); (· rfl); (try dsimp only [aop]); try simp only [go_sem,seval,bU,Tryz.results80,len,s4,s8,s12,g30,nE,nV,nC,rE,rV,rC]) | (with_reducible refine hK _ ?_; clear hK K) | ((with_reducible refine aJ ?_ ?_); (· decide)) | ((with_reducible refine bP (fun hc => ?_) (fun hc => ?_)) <;> (try simp only [decide_eq_true_eq,decide_eq_false_iff_not,Bool.not_true,Bool.not_false,Bool.not_eq_true',Bool.not_eq_false'] at hc) <;> (try (exfalso; omega))) | (with_reducible refine ae (h1) ?_) | (with_reducible refine ae (h2) ?_) | (with_reducible refine ae (h3) ?_) | (with_reducible refine ae (h4) ?_))
  all_goals refine b9 (L := [1,3,4,5,6]) (by simp only [go_sem,seval]; exact rfl) ?_
  all_goals exact key _ (by clear key hN hQ hC; simp_all)
 case key =>
 rintro q1 hq1
 apply fm (α := Bool) (fun q => [(1,.loc 20000 0),(4,.rf [dN ps] 0),(5,.loc 20002 0),(6,.rf SC 0),(20000,.bc [.c (.bool q1)] 4),(20001,.bc [.c (.bool q)] 4),(20002,.bc [.c (.bool c0)] 4)]) (fun q => q = (p0 || (decide (k = 7) && b5)))
 case use =>
  intro key
  repeat' (first | (with_reducible refine hY _ ?_; clear hY Y) | ((with_reducible first | refine au rfl (ay fun K' hK' => aa ?_) | refine hK' _ (ab fun Y hY => aa ?_) | refine bf rfl (ab fun Y hY => aa ?_) | refine ab fun Y hY => aa ?_ | refine ay fun K' hK' => aa ?_ | refine aa ?_); (try clear hK' K'); (try dsimp only [aop]); try simp only [go_sem,seval,bU,Tryz.results80,len,g0,s15,nA,rA]) | (with_reducible first | refine ag ?_ | refine aU rfl ?_ | refine aK ?_ | refine eN ?_ | refine cN ?_ ?_ | refine am ?_ | refine aG fun K hK => ?_) | ((with_reducible refine bC 3 ?_ ?_); (· rfl)) | ((with_reducible refine aS 3 tk0 bU ?_ (ab fun Y hY => aa ?_)); (· rfl); (try dsimp only [aop]); try simp only [go_sem,seval,bU,Tryz.results80,len,g0,s15,nA,rA]) | (with_reducible refine hK _ ?_; clear hK K) | ((with_reducible refine aJ ?_ ?_); (· decide)) | ((with_reducible refine bP (fun hc => ?_) (fun hc => ?_)) <;> (try simp only [decide_eq_true_eq,decide_eq_false_iff_not,Bool.not_true,Bool.not_false,Bool.not_eq_true',Bool.not_eq_false'] at hc) <;> (try (exfalso; omega))) | (with_reducible refine ae (h5) ?_))
  all_goals refine b9 (L := [1,4,5,6]) (by simp only [go_sem,seval]; exact rfl) ?_
  all_goals exact key _ (by clear key hN hQ hC; simp_all)
 case key =>
 rintro q2 hq2
 have hQ' : Q = q2 := by rw [hQ,hq2]
 clear h1 h2 h3 h4 h5 hq2
 by_cases k9 : k = 9
 ·have k9' : (k = 9) = True := eq_true k9
  simp only [k9',decide_true,Bool.true_and] at hN hC
  cases fo with
  | none =>
   simp only [dq (e := 15) (by decide),List.map_id] at h6
   have hN' : N = true := by rw [hN]; simp
   have e1 : decide ((0 : Int) = (l1 : Int)) = decide (0 = l1) := by rw [decide_eq_decide]; omega
   have e2 : decide ((0 : Int) = (l2 : Int)) = decide (0 = l2) := by rw [decide_eq_decide]; omega
   have hz1 : (ppA ppZ).getD 1 .u = .sl [] 0 .none := rfl
   have hz2 : (ppA ppZ).getD 2 .u = .sl [] 0 .none := rfl
   have hz3 : eu (ppA ppZ) = true := rfl
   have hz4 : (ppA ppZ).length = 34 := rfl
   have zr2 := (wy ppZ).rn2
   have zr3 := (wy ppZ).rn3
   generalize ppA ppZ = ZC at *
   repeat' (first | (with_reducible refine hY _ ?_; clear hY Y) | ((with_reducible first | refine au rfl (ay fun K' hK' => aa ?_) | refine hK' _ (ab fun Y hY => aa ?_) | refine bf rfl (ab fun Y hY => aa ?_) | refine ab fun Y hY => aa ?_ | refine ay fun K' hK' => aa ?_ | refine ac tk0 bU (ab fun Y hY => aa ?_) | refine aa ?_ | refine jF ?_); (try clear hK' K'); (try dsimp only [aop]); try simp only [go_sem,seval,bU,Tryz.results80,len,k9',g0,g3,g30,g31,e1,e2,hz1,hz2,hz3,hz4,zr2,zr3]) | (with_reducible first | refine ag ?_ | refine aU rfl ?_ | refine aK ?_ | refine cN ?_ ?_ | refine am ?_ | refine aq ?_ | refine aG fun K hK => ?_ | refine az ?_) | (with_reducible refine hK _ ?_; clear hK K) | ((with_reducible first | refine aJ ?_ ?_ | refine ai ?_ ?_); (· decide)) | ((with_reducible refine bP (fun hc => ?_) (fun hc => ?_)) <;> (try simp only [decide_eq_true_eq,decide_eq_false_iff_not,Bool.not_true,Bool.not_false,Bool.not_eq_true',Bool.not_eq_false'] at hc) <;> (try (exfalso; omega))) | (with_reducible refine ae (h6) ?_))
   all_goals (clear h6; simp_all)
  | some pr =>
   obtain ⟨o1,_,o3,_,o4,o5,_,_,_⟩ := nl pr
   simp only [Option.isNone_some,Bool.or_false] at hN
   simp only at hC h6
   have hN' : N = q1 := by rw [hN,hq1]; simp [Bool.or_assoc]
   have e1 : decide ((pr.params.length : Int) = (l1 : Int)) = decide (pr.params.length = l1) := by rw [decide_eq_decide]; omega
   have e2 : decide ((pr.ghosts.length : Int) = (l2 : Int)) = decide (pr.ghosts.length = l2) := by rw [decide_eq_decide]; omega
   have zr2 := (wy pr).rn2
   have zr3 := (wy pr).rn3
   generalize ppA pr = ZC at *
   generalize pr.params.map bs = PB at *
   generalize pr.ghosts.map bs = GB at *
   generalize pr.params.length = pl at *
   generalize pr.ghosts.length = gl at *
   repeat' (first | (with_reducible refine hY _ ?_; clear hY Y) | ((with_reducible first | refine au rfl (ay fun K' hK' => aa ?_) | refine hK' _ (ab fun Y hY => aa ?_) | refine bf rfl (ab fun Y hY => aa ?_) | refine ab fun Y hY => aa ?_ | refine ay fun K' hK' => aa ?_ | refine ac tk0 bU (ab fun Y hY => aa ?_) | refine aa ?_ | refine jF ?_); (try clear hK' K'); (try dsimp only [aop]); try simp only [go_sem,seval,bU,Tryz.results80,len,k9',g0,g3,g30,g31,e1,e2,o1,o3,o4,o5,zr2,zr3]) | (with_reducible first | refine ag ?_ | refine aU rfl ?_ | refine aK ?_ | refine cN ?_ ?_ | refine am ?_ | refine aq ?_ | refine aG fun K hK => ?_ | refine az ?_) | (with_reducible refine hK _ ?_; clear hK K) | ((with_reducible first | refine aJ ?_ ?_ | refine ai ?_ ?_); (· decide)) | ((with_reducible refine bP (fun hc => ?_) (fun hc => ?_)) <;> (try simp only [decide_eq_true_eq,decide_eq_false_iff_not,Bool.not_true,Bool.not_false,Bool.not_eq_true',Bool.not_eq_false'] at hc) <;> (try (exfalso; omega))) | (with_reducible refine ae (h6) ?_) | (with_reducible refine bv (sW) ?_))
   all_goals (clear h6; simp_all)
 ·have k9' : (k = 9) = False := eq_false k9
  simp only [k9',decide_false,Bool.false_and,Bool.or_false] at hN hC
  have hN' : N = q1 := by rw [hN,hq1]; simp [Bool.or_assoc]
  repeat' (first | (with_reducible refine hY _ ?_; clear hY Y) | ((with_reducible first | refine au rfl (ay fun K' hK' => aa ?_) | refine hK' _ (ab fun Y hY => aa ?_) | refine ab fun Y hY => aa ?_ | refine ac tk0 bU (ab fun Y hY => aa ?_) | refine aa ?_ | refine jF ?_); (try clear hK' K'); (try dsimp only [aop]); try simp only [go_sem,seval,bU,Tryz.results80,len,k9',g0]) | (with_reducible first | refine ag ?_ | refine am ?_ | refine aq ?_ | refine aG fun K hK => ?_ | refine aA ?_ | refine aH ?_) | (with_reducible refine hK _ ?_; clear hK K) | ((with_reducible refine ai ?_ ?_); (· decide)))
  all_goals (clear h6; simp_all)
theorem Cy (ps : List PP) (gs : List Wd) : ∀ (l : List PS') (st : Bool × Bool × Bool),l.foldl (l8 ps gs) st = (st.1 || l.any (stN ps gs),st.2.1 || l.any stP,st.2.2 || l.any (uy ps))
 | [],st => by simp
 | s :: r,st => by rw [List.foldl_cons,Cy ps gs r]; simp [l8,Bool.or_assoc]
end Go.Proofs.YtkjnkkmokojnpaaGreatDoor
