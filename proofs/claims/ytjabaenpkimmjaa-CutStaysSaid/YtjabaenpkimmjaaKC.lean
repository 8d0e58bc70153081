/- K: the operations' trees. No program is in sight. -/
import Derived.Test.YtjabaenpkimmjaaKB
namespace Go.Proofs.Ytjabaenpkimmjaa
set_option linter.unusedSimpArgs false
set_option linter.unusedVariables false
open Go.RowKit

def putAt (cs : List AV) (o : Nat) (vs : List AV) : List AV := cs.take o ++ vs ++ cs.drop (o + vs.length)

/-- A row of one's own is read; what is noted where it turns. -/
def rdRow (k : Nat) (f : List AV → Nat → TypeId → Nat → (List AV → Nat → Nat × AV) → TR) : TR :=
  if k < 1000000 then .rd k fun
    | .br cs v e sz => f cs v e sz fun cs' v' => (k, .br cs' v' e sz)
    | _ => fail
  else .need (10000 ≤ encB k) (.rd (encB k) fun
    | .fo rows => (match rowAt rows (encI k) with
      | .br cs v e sz => f cs v e sz fun cs' v' => (encB k, .fo (rows.set (encI k) (.br cs' v' e sz)))
      | _ => fail)
    | _ => fail)
/-! ### Reading and writing of variables. -/
def kLd (P : Program) (t : TypeId) (cs : List AV) (off : Nat) (f : AV → TR) : TR :=
  match szOf P t, aggOf P t with
  | some n, some true => .need (off + n ≤ cs.length) (f (.agg ((cs.drop off).take n)))
  | some _, some false => .need (off < cs.length) (f (cs.getD off .u))
  | _, _ => fail
def kLoad (P : Program) (t : TypeId) (a : AV) (f : AV → TR) : TR :=
  match a with
  | .loc b off => .rd b fun | .bc cs _ => kLd P t cs off f | _ => fail
  | .rf cs off => kLd P t cs off f
  | .lo b off v => rdRow b fun cs v' _ _ _ => .need (v = v') (kLd P t cs off f)
  | _ => fail
def kStore (P : Program) (N : Nat) (o : Oper) (t : TypeId) (a v : AV) : TR :=
  match a with
  | .loc b off => .rd b fun
    | .bc cs ty => .need (szOf P t = some (cellsOfA v).length ∧ off + (cellsOfA v).length ≤ cs.length ∧ allOne (cellsOfA v) = true ∧ dstOk N o) (.done ((b, .bc (putAt cs off (cellsOfA v)) ty) :: outs o .u))
    | _ => fail
  | .lo b off vn => rdRow b fun cs v' e sz wr => .need (vn = v' ∧ szOf P t = some (cellsOfA v).length ∧ off + (cellsOfA v).length ≤ cs.length ∧ allOne (cellsOfA v) = true ∧ dstOk N o) (.done (wr (putAt cs off (cellsOfA v)) v' :: outs o .u))
  | _ => fail
def kAlloc (P : Program) (N : Nat) (o : Oper) (t : TypeId) : TR :=
  match o.dst, zeroOf P t with
  | some d, some z => .need (dstOk N o) (.rd (10000 + d) fun | .u => .need (allOne (z.map ofV) = true ∧ isM t = false) (.done [(10000 + d, .bc (z.map ofV) t), (d, .loc (10000 + d) 0)]) | _ => fail)
  | _, _ => fail
def kBox (N : Nat) (o : Oper) (t : TypeId) (v : AV) : TR :=
  match o.dst with
  | some d => .need (dstOk N o) (.rd (10000 + d) fun | .u => .need (allOne (cellsOfA v) = true ∧ isM t = false) (.done [(10000 + d, .bc (cellsOfA v) t), (d, .loc (10000 + d) 0)]) | _ => fail)
  | _ => fail
def kNil (N : Nat) (o : Oper) (v : AV) : TR :=
  match v with
  | .loc b off => ret N o (.loc b off)
  | .lo b off v => ret N o (.lo b off v)
  | .rf cs off => ret N o (.rf cs off)
  | .fn (.func i) a b => ret N o (.fn (.func i) a b)
  | .ifc t x => ret N o (.ifc t x)
  | _ => fail
def kFieldAddr (P : Program) (N : Nat) (o : Oper) (s : TypeId) (a : AV) (i : Nat) : TR :=
  match fieldOf P s i with
  | some (off, ft) => .need (nzOf P ft = true) (match a with
    | .loc b o' => ret N o (.loc b (o' + off))
    | .lo b o' v => ret N o (.lo b (o' + off) v)
    | .rf cs o' => ret N o (.rf cs (o' + off))
    | _ => fail)
  | none => fail
def kField (P : Program) (N : Nat) (o : Oper) (s : TypeId) (a : AV) (i : Nat) : TR :=
  match fieldOf P s i, a with
  | some (off, ft), .agg cs => kLd P ft cs off fun v => ret N o v
  | _, _ => fail
def kIndexAddr (P : Program) (N : Nat) (o : Oper) (t : TypeId) (a i : AV) : TR :=
  match (elemOf P t).bind (szOf P), a, i with
  | some sz, .sl cs n _, .c (.int _ z) => .need (0 ≤ z ∧ z < (n : Int)) (ret N o (.rf cs (z.toNat * sz)))
  | some sz, .arr b off n _, .c (.int _ z) => .need (0 ≤ z ∧ z < (n : Int)) (ret N o (.loc b (off + z.toNat * sz)))
  | some sz, .ow b off n v, .c (.int _ z) => rdRow b fun _ v' _ _ _ => .need (v = v' ∧ 0 ≤ z ∧ z < (n : Int)) (ret N o (.lo b (off + z.toNat * sz) v))
  | _, _, _ => fail
def kIndex (P : Program) (N : Nat) (o : Oper) (t : TypeId) (a i : AV) : TR :=
  match strOfT P t, a, i with
  | true, .c (.string s), .c (.int _ z) => .need (0 ≤ z ∧ z < (s.size : Int)) (ret N o (.c (.int .u8 (s.data.toList.getD z.toNat 0).toNat)))
  | _, _, _ => fail
/-! ### Computing. -/
def intBin (op : BinOp) (k : IntKind) (a b : Int) : Option Value :=
  match op with
  | .add => some (.int k (k.wrap (a + b)))
  | .sub => some (.int k (k.wrap (a - b)))
  | .mul => some (.int k (k.wrap (a * b)))
  | .quo => if b = 0 then none else some (.int k (k.wrap (a.tdiv b)))
  | .rem => if b = 0 then none else some (.int k (a.tmod b))
  | .eql => some (.bool (decide (a = b)))
  | .neq => some (.bool (!decide (a = b)))
  | .lss => some (.bool (decide (a < b)))
  | .leq => some (.bool (decide (a ≤ b)))
  | .gtr => some (.bool (decide (b < a)))
  | .geq => some (.bool (decide (b ≤ a)))
  | .and => some (.int k (bits .and k a b))
  | .or => some (.int k (bits .or k a b))
  | .xor => some (.int k (bits .xor k a b))
  | .shl => if 0 ≤ b then some (.int k (k.wrap (a * 2 ^ min b.toNat k.bits))) else none
  | .shr => if 0 ≤ b then some (.int k (a.fdiv (2 ^ min b.toNat k.bits))) else none
  | _ => none
def isShift : BinOp → Bool
  | .shl | .shr => true
  | _ => false
/-- The value that a tree of constants stands for. -/
def valC : AV → Option Value
  | .c x => some x
  | _ => none
def valOf : AV → Option Value
  | .agg l => (l.mapM valC).map fun xs => .agg xs.toArray
  | .c x => some x
  | .ifc t x => (valOf x).map (.iface t)
  | _ => none
def isConstO : Operand → Bool
  | .const _ => true
  | _ => false
def kBinGen (P : Program) (N : Nat) (o : Oper) (op : BinOp) (t : TypeId) (x y : Operand) (vx vy : Value) : TR :=
  .ex (fun v => ∀ w, ((do eqGuard op t x y vx vy; binOp op t vx vy) : Sem Value).run P w = .ok v w) fun v => ret N o (.c v)
def eqIface (op : BinOp) : Option Bool :=
  match op with
  | .eql => some true
  | .neq => some false
  | _ => none
def kBin (P : Program) (N : Nat) (o : Oper) (op : BinOp) (t : TypeId) (x y : Operand) (a b : AV) : TR :=
  match a, b with
  | .c (.int k z), .c (.int k' z') => .need (k = k' ∨ isShift op = true) (match intBin op k z z' with | some v => ret N o (.c v) | none => fail)
  | .ifc _ _, .c .nilIface => match eqIface op with | some r => .need (concreteT P t = false ∧ (P.underlying t).isSome = true) (ret N o (.c (.bool (!r)))) | none => fail
  | .c .nilIface, .ifc _ _ => match eqIface op with | some r => .need (concreteT P t = false ∧ (P.underlying t).isSome = true) (ret N o (.c (.bool (!r)))) | none => fail
  | a, b => match valOf a, valOf b with
    | some vx, some vy => kBinGen P N o op t x y vx vy
    | _, _ => fail
def kUn (N : Nat) (o : Oper) (op : UnOp) (a : AV) : TR :=
  match op, a with
  | .not, .c (.bool b) => ret N o (.c (.bool (!b)))
  | .neg, .c (.int k n) => ret N o (.c (.int k (k.wrap (0 - n))))
  | _, _ => fail
def kPick (N : Nat) (o : Oper) (c : AV) (x y : AV) : TR :=
  match c with
  | .c (.bool b) => ret N o (if b then x else y)
  | _ => fail
def byteA (b : UInt8) : AV := .c (.int .u8 (b.toNat : Int))
def toBytes : List AV → List UInt8
  | [] => []
  | .c (.int _ z) :: r => UInt8.ofNat z.toNat :: toBytes r
  | _ :: r => 0 :: toBytes r
def kConvert (P : Program) (N : Nat) (o : Oper) (src dst : TypeId) (a : AV) : TR :=
  match a with
  | .c (.int _ n) => match intOfT P dst with | some k => .need ((P.underlying src).isSome = true) (ret N o (.c (.int k (k.wrap n)))) | none => fail
  | .c (.string s) =>
    if strOfT P dst then .need ((P.underlying src).isSome = true) (ret N o (.c (.string s)))
    else match elemOf P dst with
    | some e =>   .need (strOfT P src = true ∧ intOfT P e = some .u8) (ret N o (.sl (s.data.toList.map byteA) s.size .none))
    | none => fail
  | .sl cs n _ => match elemOf P src with
    | some e => .need (strOfT P dst = true ∧ intOfT P e = some .u8 ∧ n = cs.length ∧ cs = (toBytes cs).map byteA) (ret N o (.c (.string ⟨(toBytes cs).toArray⟩)))
    | none => fail
  | .arr b 0 n _ => match elemOf P src with
    | some e => .rd b fun
      | .bc cs _ => .need (strOfT P dst = true ∧ intOfT P e = some .u8 ∧ n = cs.length ∧ cs = (toBytes cs).map byteA) (ret N o (.c (.string ⟨(toBytes cs).toArray⟩)))
      | _ => fail
    | none => fail
  | .ow b 0 n v => match elemOf P src with
    | some e => rdRow b fun cs v' _ _ _ => .need (v = v' ∧ strOfT P dst = true ∧ intOfT P e = some .u8 ∧ n = cs.length ∧ cs = (toBytes cs).map byteA) (ret N o (.c (.string ⟨(toBytes cs).toArray⟩)))
    | none => fail
  | _ => fail
def kIface (P : Program) (N : Nat) (o : Oper) (t : TypeId) (a : AV) : TR := .need (concreteT P t = true) (ret N o (.ifc t a))
def kExtract (N : Nat) (o : Oper) (a : AV) (i : Nat) : TR :=
  match a with
  | .tup cs => .need (i < cs.length) (ret N o (cs.getD i .u))
  | _ => fail
/-! ### Building. -/
def fillA (place : Nat → Option (Nat × Nat)) : List AV → List (Nat × AV) → Option (List AV)
  | cs, [] => some cs
  | cs, (i, v) :: r => match place i with
    | some (off, size) => if (cellsOfA v).length = size ∧ off + size ≤ cs.length ∧ allOne (cellsOfA v) = true then fillA place (putAt cs off (cellsOfA v)) r else none
    | none => none
def placesOf (P : Program) (t : TypeId) : Option (List (Nat × Nat)) := (P.underlying t).bind fun | .struct fs => fs.toList.mapM fun f => (P.info? f.type).map fun i => (f.offset, i.size) | _ => none
def kBuild (P : Program) (N : Nat) (o : Oper) (t : TypeId) (parts : List (Nat × AV)) : TR :=
  match placesOf P t, zeroOf P t with
  | some pl, some z => match fillA (fun i => pl[i]?) (z.map ofV) parts with
    | some cs => .need (allOne (z.map ofV) = true) (ret N o (.agg cs))
    | none => fail
  | _, _ => fail
def repA (z : List AV) : Nat → List AV
  | 0 => []
  | n + 1 => z ++ repA z n
def kBuildSlice (P : Program) (N : Nat) (o : Oper) (t : TypeId) (len : Nat) (parts : List (Nat × AV)) : TR :=
  match (elemOf P t), (elemOf P t).bind (szOf P), (elemOf P t).bind (zeroOf P) with
  | some e, some sz, some z => match parts.mapM fun p => (pureA 4 p.2).map fun v => (p.1, v) with
    | some ps => match fillA (fun i => some (i * sz, sz)) (repA (z.map ofV) len) ps with
      | some cs => .need (allOne (z.map ofV) = true ∧ z.length = sz ∧ len * sz ≤ 16777216) (ret N o (.sl cs len .full))
      | none => fail
    | none => match fillA (fun i => some (i * sz, sz)) (repA (z.map ofV) len) parts, o.dst with
      | some cs, some d => .need (dstOk N o ∧ allOne (z.map ofV) = true ∧ z.length = sz ∧ len * sz ≤ 16777216) (.rd (10000 + d) fun | .u => .done [(10000 + d, .br cs 0 e sz), (d, .ow (10000 + d) 0 len 0)] | _ => fail)
      | _, _ => fail
  | _, _, _ => fail
def kMakeB (P : Program) (N : Nat) (o : Oper) (e sz : Nat) (z : List Value) : AV → AV → TR
  | .c (.int _ n), .c (.int _ m) => .need (n = m ∧ 0 ≤ n ∧ (bytesOfT P e : Int) * n ≤ 281474976710656 ∧ n ≤ 9223372036854775807 ∧ allOne (z.map ofV) = true ∧ z.length = sz) (ret N o (.sl (repA (z.map ofV) n.toNat) n.toNat .full))
  | _, _ => fail
/-- The same, as a box of its own that may be written. -/
def kMakeM (P : Program) (N : Nat) (o : Oper) (e sz : Nat) (z : List Value) : AV → AV → TR
  | .c (.int _ n), .c (.int _ m) => match o.dst with
    | some d => .need (n = m ∧ 0 ≤ n ∧ (bytesOfT P e : Int) * n ≤ 281474976710656 ∧ n ≤ 9223372036854775807 ∧ allOne (z.map ofV) = true ∧ z.length = sz ∧ dstOk N o ∧ isM e = false)
        (.rd (10000 + d) fun | .u => .done [(10000 + d, .bc (repA (z.map ofV) n.toNat) e), (d, .arr (10000 + d) 0 n.toNat e)] | _ => fail)
    | none => fail
  | _, _ => fail
def kMakeX (P : Program) (N : Nat) (o : Oper) (e sz : Nat) (z : List Value) (l c : AV) : Value → TR
  | .bool true => kMakeM P N o e sz z l c
  | _ => kMakeB P N o e sz z l c
def kMakeSlice (P : Program) (N : Nat) (o : Oper) (t : TypeId) (l c : AV) : TR :=
  match (elemOf P t), (elemOf P t).bind (szOf P), (elemOf P t).bind (zeroOf P) with
  | some e, some sz, some z => .ex (fun v => v = .bool true ∨ v = .bool false) fun v => kMakeX P N o e sz z l c v
  | _, _, _ => fail
/-! ### Slicing. -/
def natOfA : AV → Option Int
  | .c (.int _ z) => some z
  | _ => none
def kSliceR (N : Nat) (o : Oper) (b off n v sz : Nat) (p : Prop) (l h : Nat) : TR :=
  rdRow b fun _ v' _ sz' _ => .need (v = v' ∧ sz' = sz ∧ p) (ret N o (.ow b (off + l * sz) (h - l) v))
def kSlice (P : Program) (N : Nat) (o : Oper) (t : TypeId) (a : AV) (lo hi mx : Option AV) : TR :=
  match a with
  | .c (.string s) => match strOfT P t, lo, hi, mx with
    | true, none, none, none => ret N o (.c (.string (s.extract 0 s.size)))
    | true, some (.c (.int _ l)), none, none => .need (0 ≤ l ∧ l ≤ (s.size : Int)) (ret N o (.c (.string (s.extract l.toNat s.size))))
    | true, none, some (.c (.int _ h)), none => .need (0 ≤ h ∧ h ≤ (s.size : Int)) (ret N o (.c (.string (s.extract 0 h.toNat))))
    | true, some (.c (.int _ l)), some (.c (.int _ h)), none => .need (0 ≤ l ∧ l ≤ h ∧ h ≤ (s.size : Int)) (ret N o (.c (.string (s.extract l.toNat h.toNat))))
    | _, _, _, _ => fail
  | .sl cs n _ => match (elemOf P t).bind (szOf P), lo, hi, mx with
    | some sz, some (.c (.int _ l)), none, none => .need (0 ≤ l ∧ l ≤ (n : Int) ∧ cs.length = n * sz) (ret N o (.sl (cs.drop (l.toNat * sz)) (n - l.toNat) .none))
    | some sz, none, some (.c (.int _ h)), none => .need (0 ≤ h ∧ h ≤ (n : Int)) (ret N o (.sl (cs.take (h.toNat * sz)) h.toNat .none))
    | some sz, some (.c (.int _ l)), some (.c (.int _ h)), none => .need (0 ≤ l ∧ l ≤ h ∧ h ≤ (n : Int)) (ret N o (.sl ((cs.drop (l.toNat * sz)).take ((h - l).toNat * sz)) (h - l).toNat .none))
    | some sz, none, some (.c (.int _ 0)), some (.c (.int _ 0)) => ret N o (.sl [] 0 .full)
    | _, _, _, _ => fail
  | .ow b off n v => match (elemOf P t).bind (szOf P), lo, hi, mx with
    | some sz, some (.c (.int _ l)), none, none => kSliceR N o b off n v sz (0 ≤ l ∧ l ≤ (n : Int)) l.toNat n
    | some sz, none, some (.c (.int _ h)), none => kSliceR N o b off n v sz (0 ≤ h ∧ h ≤ (n : Int)) 0 h.toNat
    | some sz, some (.c (.int _ l)), some (.c (.int _ h)), none => kSliceR N o b off n v sz (0 ≤ l ∧ l ≤ h ∧ h ≤ (n : Int)) l.toNat h.toNat
    | _, _, _, _ => fail
  | _ => fail
/-! ### Rows that grow. -/
def kLen (P : Program) (N : Nat) (o : Oper) (t : TypeId) (a : AV) : TR :=
  match a with
  | .sl _ n _ => .need ((elemOf P t).isSome = true) (ret N o (.c (.int .i64 n)))
  | .arr _ _ n _ => .need ((elemOf P t).isSome = true) (ret N o (.c (.int .i64 n)))
  | .ow _ _ n _ => .need ((elemOf P t).isSome = true) (ret N o (.c (.int .i64 n)))
  | .c (.string s) => .need (strOfT P t = true) (ret N o (.c (.int .i64 s.size)))
  | _ => fail
def kAppTok (d e n m : Nat) (cs news : List AV) (b : Nat) : AV → TR
  | .bt tip e' => .need (tip = n ∧ e' = e) (.done [(b, .bt (n + m) e), (d, .sl (cs ++ news) (n + m) (.tok b))])
  | _ => fail
def kAppFull (d e n m : Nat) (cs news : List AV) : AV → TR
  | .u => .done [(10000 + d, .bt (n + m) e), (d, .sl (cs ++ news) (n + m) (.tok (10000 + d)))]
  | _ => fail
/-- .. or a row of one's own is made. -/
def kAppNew (d e m sz : Nat) (news : List AV) : AV → TR
  | .u => .done [(10000 + d, .br news m e sz), (d, .ow (10000 + d) 0 m m)]
  | .fo rows => .done [(10000 + d, .fo (rows ++ [.br news m e sz])), (d, .ow (enc (10000 + d) rows.length) 0 m m)]
  | _ => fail
def kAppX (d e n m sz : Nat) (cs news : List AV) : Value → TR
  | .bool true => .need (n = 0 ∧ cs = []) (.rd (10000 + d) (kAppNew d e m sz news))
  | _ => .rd (10000 + d) (kAppFull d e n m cs news)
def kAppOwn (d e n m sz : Nat) (cs news : List AV) : Own → TR
  | .tok b => .rd b (kAppTok d e n m cs news b)
  | .full => match cs with
    | [] => .ex (fun v => v = .bool true ∨ v = .bool false) (kAppX d e n m sz cs news)
    | _ => .rd (10000 + d) (kAppFull d e n m cs news)
  | .none => fail
/-- Some of a row's cells. -/
def rowCut (cs : List AV) (off k : Nat) : List AV := if off = 0 ∧ cs.length = k then cs else (cs.drop off).take k
/-- To a row of one's own: it has a new version then. -/
def kAppRow (d e n m off v sz b : Nat) (news : List AV) : TR :=
  rdRow b fun cs v' e' sz' wr => .need (v' = v ∧ e' = e ∧ sz' = sz ∧ off + n * sz ≤ cs.length ∧ (0 < m ∨ (off = 0 ∧ cs.length = n * sz))) (.done [wr (rowCut cs off (n * sz) ++ news) (v + m), (d, .ow b 0 (n + m) (v + m))])
def kAppend (P : Program) (N : Nat) (o : Oper) (t : TypeId) (s : AV) (news : List AV) (m : Nat) : TR :=
  match o.dst, elemOf P t, s with
  | some d, some e, .sl cs n own => match szOf P e, zeroOf P e with
    | some sz, some z => .need (dstOk N o ∧ 0 < sz ∧ z.length = sz ∧ cs.length = n * sz ∧ news.length = m * sz ∧ (n + m) * bytesOfT P e ≤ 140737488355328 ∧ n + m ≤ 140737488355328) (kAppOwn d e n m sz cs news own)
    | _, _ => fail
  | some d, some e, .ow b off n v => match szOf P e, zeroOf P e with
    | some sz, some z => .need (dstOk N o ∧ 0 < sz ∧ z.length = sz ∧ news.length = m * sz ∧ (n + m) * bytesOfT P e ≤ 140737488355328 ∧ n + m ≤ 140737488355328) (kAppRow d e n m off v sz b news)
    | _, _ => fail
  | _, _, _ => fail
/-- The cells of a row that are appended to another one. -/
def kNews (P : Program) (N : Nat) (o : Oper) (t : TypeId) (s : AV) (b off m v : Nat) : TR :=
  rdRow b fun cs v' e' sz' _ => .need (v = v' ∧ (elemOf P t).bind (szOf P) = some sz' ∧ off + m * sz' ≤ cs.length) (match s with
    | .sl .. => match (rowCut cs off (m * sz')).mapM (pureA 4) with | some news => kAppend P N o t s news m | none => fail
    | _ => kAppend P N o t s (rowCut cs off (m * sz')) m)
def kApp (P : Program) (N : Nat) (o : Oper) (t t' : TypeId) (s x : AV) : TR :=
  match x with
  | .ow b off m v => .need (t' = t) (kNews P N o t s b off m v)
  | .sl news m _ => .need (t' = t) (kAppend P N o t s news m)
  | .c (.string b) => .need (strOfT P t' = true ∧ (elemOf P t).bind (intOfT P) = some .u8) (kAppend P N o t s (b.data.toList.map byteA) b.size)
  | _ => fail
/-! ### Maps. -/
def mlook (n : Int) : List AV → Option AV
  | .c (.int _ k) :: v :: r => if k = n then some v else mlook n r
  | _ => none
def mputC (q : IntKind) (n : Int) (x : AV) : List AV → List AV
  | .c (.int q' k) :: v :: r => if k = n then .c (.int q' k) :: x :: r else .c (.int q' k) :: v :: mputC q n x r
  | _ => [.c (.int q n), x]
def keysOk (q : IntKind) : List AV → Bool
  | [] => true
  | .c (.int q' _) :: _ :: r => decide (q' = q) && keysOk q r
  | _ => false
def mapOfT (P : Program) (t : TypeId) : Option (IntKind × TypeId) := (P.underlying t).bind fun | .map k e => (intOfT P k).map fun q => (q, e) | _ => none
def zeroVal (P : Program) (t : TypeId) : Option Value := (P.info? t).bind fun i => i.zero
def kMakeMap (P : Program) (N : Nat) (o : Oper) (t : TypeId) : TR :=
  match o.dst with
  | some d => .need (dstOk N o) (.rd (10000 + d) fun | .u => .done [(10000 + d, .bc [] (1000000000 + t)), (d, .mp (10000 + d))] | _ => fail)
  | none => fail
def foundA (ok : Bool) (z : Value) : Option AV → AV
  | some v => if ok then .tup [v, .c (.bool true)] else v
  | none => if ok then .tup [.c z, .c (.bool false)] else .c z
def kLookup (P : Program) (N : Nat) (o : Oper) (t : TypeId) (m k : AV) (ok : Bool) : TR :=
  match m, k, mapOfT P t with
  | .mp b, .c (.int q n), some (q', e) => match zeroVal P e with
    | some z => .rd b fun
      | .bc cs _ => .need (q = q' ∧ keysOk q' cs = true) (ret N o (foundA ok z (mlook n cs)))
      | _ => fail
    | none => fail
  | _, _, _ => fail
def kMapUpd (P : Program) (N : Nat) (o : Oper) (t : TypeId) (m k x : AV) : TR :=
  match m, k, x, mapOfT P t with
  | .mp b, .c (.int q n), .c v, some (q', e) => .rd b fun
    | .bc cs ty => .need (q = q' ∧ keysOk q' cs = true ∧ dstOk N o) (.done ((b, .bc (mputC q n (.c v) cs) ty) :: outs o .u))
    | _ => fail
  | _, _, _, _ => fail
/-! ### Calls. -/
def lookN : List (Nat × Nat) → Nat → Option Nat
  | [], _ => none
  | (a, b) :: r, k => if a = k then some b else lookN r k
/-- A row's name turns with its family's. -/
def lookK (g : List (Nat × Nat)) (k : Nat) : Option Nat := if k < 1000000 then lookN g k else (lookN g (encB k)).map fun b => enc b (encI k)
/-- Names turned; what has none becomes unknown, a token is struck. -/
def ren (g : List (Nat × Nat)) : Nat → AV → AV
  | 0, _ => .u
  | k + 1, .sl cs n (.tok b) => match lookN g b with | some b' => .sl cs n (.tok b') | none => .sl cs n .none
  | k + 1, .loc b off => match lookN g b with | some b' => .loc b' off | none => .u
  | k + 1, .arr b off n e => match lookN g b with | some b' => .arr b' off n e | none => .u
  | _ + 1, .mp b => match lookN g b with | some b' => .mp b' | none => .u
  | k + 1, .agg cs => .agg (cs.map (ren g k))
  | k + 1, .tup cs => .tup (cs.map (ren g k))
  | k + 1, .ifc t x => .ifc t (ren g k x)
  | k + 1, .fn f a b => .fn f (a.map (ren g k)) (b.map (ren g k))
  | _ + 1, .c x => .c x
  | _ + 1, .sl cs n .none => .sl cs n .none
  | _ + 1, .sl cs n .full => .sl cs n .full
  | _ + 1, .rf cs o => .rf cs o
  | _ + 1, .u => .u
  | _ + 1, .bc _ _ => .u
  | _ + 1, .bt _ _ => .u
  | _ + 1, .ow b off n v => match lookK g b with | some b' => .ow b' off n v | none => .u
  | _ + 1, .lo b off v => match lookK g b with | some b' => .lo b' off v | none => .u
  | _ + 1, .br _ _ _ _ => .u
  | _ + 1, .fo _ => .u
def renBox (g : List (Nat × Nat)) : AV → AV
  | .bc cs ty => .bc (cs.map (ren g 4)) ty
  | .br cs v e sz => .br (cs.map (ren g 4)) v e sz
  | .fo rows => .fo (rows.map fun | .br cs v e sz => .br (cs.map (ren g 4)) v e sz | x => x)
  | x => x
/-- The box of a row. -/
def baseK (k : Nat) : Nat := if k < 1000000 then k else encB k
def names (tk : Bool) : Nat → AV → List Nat
  | 0, _ => []
  | _ + 1, .sl _ _ (.tok b) => if tk then [b] else []
  | _ + 1, .loc b _ => [b]
  | _ + 1, .arr b _ _ _ => [b]
  | _ + 1, .mp b => [b]
  | _ + 1, .ow b _ _ _ => [baseK b]
  | _ + 1, .lo b _ _ => [baseK b]
  | k + 1, .agg cs => cs.flatMap (names tk k)
  | k + 1, .tup cs => cs.flatMap (names tk k)
  | k + 1, .ifc _ x => names tk k x
  | k + 1, .fn _ a b => a.flatMap (names tk k) ++ b.flatMap (names tk k)
  | k + 1, .bc cs _ => cs.flatMap (names tk k)
  | k + 1, .br cs _ _ _ => cs.flatMap (names tk k)
  | k + 1, .fo rows => rows.flatMap fun | .br cs _ _ _ => cs.flatMap (names tk k) | _ => []
  | _, _ => []
def addN : List Nat → List Nat → List Nat
  | m, [] => m
  | m, x :: r => if m.contains x then addN m r else addN (m ++ [x]) r
def rdBoxes : List Nat → (List AV → TR) → TR
  | [], f => f []
  | b :: r, f => .need (10000 ≤ b ∧ b < 1000000) (.rd b fun x => rdBoxes r fun xs => f (x :: xs))
def gather (tk : Bool) : Nat → List Nat → (List Nat → List AV → TR) → TR
  | 0, _, _ => fail
  | k + 1, ns, f => rdBoxes ns fun bs => if (addN ns (bs.flatMap (names tk 4))).length = ns.length then f ns bs else gather tk k (addN ns (bs.flatMap (names tk 4))) f
def zipFrom (i : Nat) : List Nat → List (Nat × Nat)
  | [] => []
  | b :: r => (b, 20000 + i) :: zipFrom (i + 1) r
def flipN (g : List (Nat × Nat)) : List (Nat × Nat) := g.map fun p => (p.2, p.1)
def backs (g : List (Nat × Nat)) : List Nat → List AV → List (Nat × AV)
  | b :: r, x :: xs => (b, renBox g x) :: backs g r xs
  | _, _ => []
def isBox : AV → Bool
  | .bc _ _ | .bt _ _ | .br _ _ _ _ | .fo _ => true
  | _ => false
def callOk (P : Program) (f : FuncId) : Bool := match P.funcs[f]? with | some fn => fn.body.isSome && !(fn.name == "runtime.NumGoroutine") | none => false
def kBack (o : Oper) (ns : List Nat) (r : AV) (bs : List AV) : TR := .done (backs (flipN (zipFrom 0 ns)) ns bs ++ outs o (ren (flipN (zipFrom 0 ns)) 4 r))
/-- One new box may come back: it is named by the slot of the result. -/
def kNew (o : Oper) (ns : List Nat) (r : AV) (bs : List AV) : TR :=
  match o.dst with
  | some d => .rd (10000 + d) fun | .u => .need (ns.contains (10000 + d) = false ∧ bs.length = ns.length + 1) (kBack o (ns ++ [10000 + d]) r bs) | _ => fail
  | none => fail
def kCall (P : Program) (N : Nat) (tk : Bool) (o : Oper) (f : FuncId) (args : List AV) : TR :=
  .need (callOk P f = true ∧ dstOk N o) (gather tk 4 (addN [] (args.flatMap (names tk 4))) fun ns bs =>
    .need (bs.all isBox = true ∧ ns.length ≤ 1000) (.call f (args.map (ren (zipFrom 0 ns) 4)) (bs.map (renBox (zipFrom 0 ns))) fun r bs' =>
      if bs'.length = ns.length then kBack o ns r bs' else kNew o ns r bs'))
/-- A function without a body that leaves the world alone. -/
def kExt (P : Program) (N : Nat) (o : Oper) (f : FuncId) (args : List AV) : TR :=
  match args.mapM valOf with
  | some vs => .ex (fun v => ∀ w, (callFunc f vs.toArray).run P w = .ok (.value v) w) fun v => ret N o (.c v)
  | none => fail
def kCallW (P : Program) (N : Nat) (tk : Bool) (o : Oper) (f : FuncId) (args : List AV) (b : Bool) : TR := match b with | true => kCall P N tk o f args | false => kExt P N o f args
def kCallV (P : Program) (N : Nat) (tk : FuncId → Bool) (o : Oper) (v : AV) (args : List AV) : TR :=
  match v with
  | .fn (.func f) a b => kCallW P N (tk f) o f (a ++ args ++ b) (callOk P f)
  | _ => fail

def optO : Option Operand → (Option AV → TR) → TR
  | none, f => f none
  | some x, f => rdo x fun v => f (some v)

def aop (P : Program) (N : Nat) (tk : FuncId → Bool) (o : Oper) : TR :=
  match o.op with
  | .move x | .assign x => rdo x fun v => ret N o v
  | .pick c x y => rdo c fun vc => rdo x fun vx => rdo y fun vy => kPick N o vc vx vy
  | .alloc t => kAlloc P N o t
  | .box t x => rdo x fun v => kBox N o t v
  | .load t p => rdo p fun a => kLoad P t a fun v => ret N o v
  | .store t p x => rdo p fun a => rdo x fun v => kStore P N o t a v
  | .nilCheck x => rdo x fun v => kNil N o v
  | .fieldAddr s x i => rdo x fun v => kFieldAddr P N o s v i
  | .field s x i => rdo x fun v => kField P N o s v i
  | .indexAddr t x i => rdo x fun v => rdo i fun j => kIndexAddr P N o t v j
  | .index t x i => rdo x fun v => rdo i fun j => kIndex P N o t v j
  | .binOp op t x y _ => rdo x fun a => rdo y fun b => kBin P N o op t x y a b
  | .unOp op _ x => rdo x fun a => kUn N o op a
  | .convert s d x => rdo x fun a => kConvert P N o s d a
  | .makeInterface t x => rdo x fun a => kIface P N o t a
  | .extract x i => rdo x fun a => kExtract N o a i
  | .build t parts => rdos (parts.toList.map (·.2)) fun vs => kBuild P N o t ((parts.toList.map (·.1)).zip vs)
  | .buildSlice t len parts => rdos (parts.toList.map (·.2)) fun vs => kBuildSlice P N o t len ((parts.toList.map (·.1)).zip vs)
  | .makeSlice t l c => rdo l fun a => rdo c fun b => kMakeSlice P N o t a b
  | .slice t x lo hi mx => rdo x fun a => optO lo fun l => optO hi fun h => optO mx fun m => kSlice P N o t a l h m
  | .makeMap t none => kMakeMap P N o t
  | .lookup t m k ok => rdo m fun a => rdo k fun b => kLookup P N o t a b ok
  | .mapUpdate t m k x | .insert t m k x => rdo m fun a => rdo k fun b => rdo x fun c => kMapUpd P N o t a b c
  | .makeFunc f a b => rdos a.toList fun va => rdos b.toList fun vb => ret N o (.fn f va vb)
  | .call { callee := .builtin .len, args := args, argTypes := ts } => match args.toList, ts.toList with | [x], [t] => rdo x fun a => kLen P N o t a | _, _ => fail
  | .call { callee := .builtin .append, args := args, argTypes := ts } => match args.toList, ts.toList with | [x, y], [t, t'] => rdo x fun a => rdo y fun b => kApp P N o t t' a b | _, _ => fail
  | .call { callee := .value f, args := args, argTypes := _ } => rdo f fun v => rdos args.toList fun vs => kCallV P N tk o v vs
  | _ => fail
end Go.Proofs.Ytjabaenpkimmjaa
