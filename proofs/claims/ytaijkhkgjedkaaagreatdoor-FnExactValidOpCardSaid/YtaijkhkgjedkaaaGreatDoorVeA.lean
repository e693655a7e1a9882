/- A verified evaluator for translated Go functions, part 1: what one function answers, over abstract values, and the proof that the call answers so. No condition: every law is proved here. -/
import Derived.WalkKit
import Derived.Lib.ConvBytes
import Derived.Laws.BytesString
namespace Go.Ve
inductive TS where
  | int (k : IntKind) | bool | str | arr (e : Nat)
section
variable (K : Nat → Type)
@[reducible] def TS.T : TS → Type
  | .int _ => Int
  | .bool => Bool
  | .str => ByteArray
  | .arr e => List (K e)
@[reducible] def TL : List TS → Type
  | [] => Unit
  | [a] => a.T K
  | a :: b :: l => a.T K × TL (b :: l)
end
inductive Cell (K : Nat → Type) : Type where
  | int (k : IntKind) (n : Int)
  | bool (b : Bool)
  | lit (b : Bool)
  | str (s : ByteArray)
  | arr (e : Nat) (l : List (K e))
  | vec (id : Nat)
  | sub (id lo hi : Nat)
  | ptr (id off : Nat)
  | elt (id i off : Nat)
  | tpt (e : Nat) (x : K e) (off : Nat)
  | nils
  | nilp
  | nofn
  | fn (f : Nat) (caps : List (Nat × Nat))
  | self (id : Nat)
  | undef
inductive FV (K : Nat → Type) : Type where
  | c (c : Cell K)
  | a (cs : List (Cell K))
inductive SV (K : Nat → Type) : Type where
  | v (x : FV K)
  | t (xs : List (FV K))
inductive Blk (K : Nat → Type) : Type where
  | var (own : Bool) (cs : List (Cell K))
  | vec (own : Bool) (e : Nat) (l : List (K e))
structure St (K : Nat → Type) where
  slots : List (Nat × SV K)
  heap : List (Nat × Blk K)
  nx : Nat
inductive TK where
  | int (k : IntKind) | bool | str | slice (e : Nat) | struct (fs : List (Nat × Nat × Nat)) | ptr (e : Nat) | func | array (n e : Nat) | other
structure TD where
  kind : TK
  size : Nat
  bytes : Nat
  agg : Bool
  zero : List Value
inductive CS where
  | d (t : TS) | vec (i : Nat) | ptr (i off : Nat) | fn (f : Nat) (caps : List (Nat × Nat)) | nofn | nilp | self (i : Nat) | any
inductive BS where
  | var (own : Bool) (cs : List CS) | vec (e : Nat) | gone
inductive FS where
  | c (s : CS) | a (l : List CS)
structure Lay where
  slots : List (Nat × FS)
  blocks : List BS
def CS.tss : CS → List TS
  | .d t => [t]
  | _ => []
def QoD : List CS → List TS
  | [] => []
  | c :: l => c.tss ++ QoD l
def FS.tss : FS → List TS
  | .c s => s.tss
  | .a l => QoD l
def Qmf : List (Nat × FS) → List TS
  | [] => []
  | (_, s) :: l => s.tss ++ Qmf l
def BS.tss : BS → List TS
  | .var _ cs => QoD cs
  | .vec e => [.arr e]
  | .gone => []
def QnY : List BS → List TS
  | [] => []
  | b :: l => b.tss ++ QnY l
def Lay.tss (L : Lay) : List TS := Qmf L.slots ++ QnY L.blocks
structure Q04 where
  fn : Func
  inL : Lay
  outL : Lay
  labels : List (Nat × Lay)
  site : Nat → Nat := fun _ => 0
  fuel : Nat := 2000
structure Sig where
  K : Nat → Type
  sh : Nat → List TS
  toT : (e : Nat) → K e → TL K (sh e)
  ofT : (e : Nat) → TL K (sh e) → K e
  law : ∀ e t, toT e (ofT e t) = t
  u8 : Nat
  bt : Option Nat := none
  fixd : List (Nat × (List Value → Prop)) := []
  ofB : ByteArray → List (K u8)
  toB : List (K u8) → ByteArray
section
variable {K : Nat → Type}
def Q1M : IntKind → IntKind → Bool
  | .i8, .i8 | .i16, .i16 | .i32, .i32 | .i64, .i64 | .u8, .u8 | .u16, .u16 | .u32, .u32 | .u64, .u64 => true
  | _, _ => false
def TS.enc : (t : TS) → t.T K → Cell K
  | .int k, n => .int k n
  | .bool, b => .bool b
  | .str, s => .str s
  | .arr e, l => .arr e l
def Qbu (e e' : Nat) (h : e' = e) (l : List (K e')) : List (K e) := h ▸ l
def TS.dec : (t : TS) → Cell K → Option (t.T K)
  | .int k, .int k' n => match Q1M k k' with | true => some n | false => none
  | .bool, .bool b => some b
  | .str, .str s => some s
  | .arr e, .arr e' l => match Nat.decEq e' e with | isTrue h => some (Qbu e e' h l) | isFalse _ => none
  | _, _ => none
def encL : (l : List TS) → TL K l → List (Cell K)
  | [], _ => []
  | [a], x => [a.enc x]
  | a :: b :: l, x => a.enc x.1 :: encL (b :: l) x.2
def decL : (l : List TS) → List (Cell K) → Option (TL K l)
  | [], [] => some ()
  | [a], [c] => a.dec c
  | a :: b :: l, c :: cs =>
    match a.dec c, decL (b :: l) cs with
    | some x, some y => some (x, y)
    | _, _ => none
  | _, _ => none
def Sig.enc (S : Sig) (e : Nat) (x : S.K e) : List (Cell S.K) := encL (S.sh e) (S.toT e x)
def Sig.dec (S : Sig) (e : Nat) (cs : List (Cell S.K)) : Option (S.K e) :=
  match decL (S.sh e) cs with
  | some t => some (S.ofT e t)
  | none => none
def Sig.sz (S : Sig) (e : Nat) : Nat := (S.sh e).length
def get {α : Type} : List (Nat × α) → Nat → Option α
  | [], _ => none
  | (a, v) :: r, t => bif Nat.beq a t then some v else get r t
def put {α : Type} : List (Nat × α) → Nat → α → List (Nat × α)
  | [], t, v => [(t, v)]
  | (a, u) :: r, t, v => bif Nat.beq a t then (t, v) :: r else (a, u) :: put r t v
def del {α : Type} : List (Nat × α) → Nat → List (Nat × α)
  | [], _ => []
  | (a, u) :: r, t => bif Nat.beq a t then del r t else (a, u) :: del r t
def mem (t : Nat) : List Nat → Bool
  | [] => false
  | a :: r => bif Nat.beq a t then true else mem t r
def ofValue : Value → Option (Cell K)
  | .bool b => some (.lit b)
  | .int k n => some (.int k n)
  | .string s => some (.str s)
  | .slice none 0 0 => some .nils
  | .pointer none => some .nilp
  | .nilFunc => some .nofn
  | .nilIface => some .undef
  | _ => none
def ofValues : List Value → Option (List (Cell K))
  | [] => some []
  | v :: l =>
    match ofValue v, ofValues l with
    | some c, some cs => some (c :: cs)
    | _, _ => none
def operand (st : St K) : Operand → Option (SV K)
  | .tmp t => get st.slots t
  | .const (.agg cs) =>
    match ofValues cs.toList with
    | some cs => some (.v (.a cs))
    | none => none
  | .const v =>
    match ofValue v with
    | some c => some (.v (.c c))
    | none => none
  | .func f => some (.v (.c (.fn f [])))
  | .global _ => none
def Q0F (st : St K) (o : Operand) : Option (Cell K) :=
  match operand st o with
  | some (.v (.c c)) => some c
  | _ => none
def Q56 (st : St K) (o : Operand) : Option (FV K) :=
  match operand st o with
  | some (.v x) => some x
  | _ => none
def Qax (st : St K) : List Operand → Option (List (FV K))
  | [] => some []
  | o :: l =>
    match Q56 st o, Qax st l with
    | some x, some xs => some (x :: xs)
    | _, _ => none
def FV.cells : FV K → List (Cell K)
  | .c x => [x]
  | .a cs => cs
inductive Src (K : Nat → Type) : Type where
  | whole (id : Nat)
  | subv (id lo hi : Nat)
  | nilv
  | part (id off : Nat)
  | row (cs : List (Cell K))
structure Mp (K : Nat → Type) where
  src : List (Nat × Src K)
  fr : List Nat
def coerce (H : List (Nat × Blk K)) : TS → Cell K → Option (Cell K × List Nat)
  | .int k, .int k' n => bif Q1M k k' then some (.int k' n, []) else none
  | .bool, .bool b => some (.bool b, [])
  | .bool, .lit b => some (.bool b, [])
  | .str, .str s => some (.str s, [])
  | .arr e, .arr e' l => bif Nat.beq e e' then some (.arr e' l, []) else none
  | .arr e, .nils => some (.arr e [], [])
  | .arr e, .vec id =>
    match get H id with
    | some (.vec _ e' l) => bif Nat.beq e e' then some (.arr e' l, [id]) else none
    | _ => none
  | .arr e, .sub id lo hi =>
    match get H id with
    | some (.vec _ e' l) => bif Nat.beq e e' then some (.arr e' ((l.take hi).drop lo), [id]) else none
    | _ => none
  | _, _ => none
def Qby (H : List (Nat × Blk K)) : List TS → List (Cell K) → Option (List (Cell K) × List Nat)
  | [], [] => some ([], [])
  | t :: ts, c :: cs =>
    match coerce H t c, Qby H ts cs with
    | some (c', f), some (cs', g) => some (c' :: cs', f ++ g)
    | _, _ => none
  | _, _ => none
def Qfp (i id : Nat) (m : Mp K) : Option (Mp K) :=
  match get m.src i with
  | none => some { m with src := put m.src i (.whole id) }
  | some (.whole id') => bif Nat.beq id id' then some m else none
  | some _ => none
def Qcb (i id off : Nat) (m : Mp K) : Option (Mp K) :=
  match get m.src i with
  | none => some { m with src := put m.src i (.part id off) }
  | some (.part id' off') => bif Nat.beq id id' && Nat.beq off off' then some m else none
  | some _ => none
def QdD (i : Nat) (s : Src K) (m : Mp K) : Option (Mp K) :=
  match get m.src i with
  | none => some { m with src := put m.src i s }
  | some _ => none
def Qa0 : List (Nat × Nat) → List (Nat × Nat) → Mp K → Option (Mp K)
  | [], [], m => some m
  | (i, o) :: l, (id, o') :: l', m =>
    bif Nat.ble o o' then
      match Qcb i id (o' - o) m with
      | some m => Qa0 l l' m
      | none => none
    else none
  | _, _, _ => none
end
section
variable {S : Sig}
def QhQ (S : Sig) (H : List (Nat × Blk S.K)) : CS → Cell S.K → Mp S.K → Option (List (Cell S.K) × Mp S.K)
  | .d t, c, m =>
    match coerce H t c with
    | some (c', f) => some ([c'], { m with fr := f ++ m.fr })
    | none => none
  | .vec i, .vec id, m =>
    match Qfp i id m with
    | some m => some ([], m)
    | none => none
  | .vec i, .sub id lo hi, m =>
    match QdD i (.subv id lo hi) m with
    | some m => some ([], m)
    | none => none
  | .vec i, .nils, m =>
    match QdD i .nilv m with
    | some m => some ([], m)
    | none => none
  | .ptr i off, .ptr id off', m =>
    bif Nat.ble off off' then
      match Qcb i id (off' - off) m with
      | some m => some ([], m)
      | none => none
    else none
  | .ptr i 0, .tpt e x off, m =>
    match QdD i (.row ((S.enc e x).drop off)) m with
    | some m => some ([], m)
    | none => none
  | .fn f caps, .fn f' caps', m =>
    bif Nat.beq f f' then
      match Qa0 caps caps' m with
      | some m => some ([], m)
      | none => none
    else none
  | .nofn, .nofn, m => some ([], m)
  | .nilp, .nilp, m => some ([], m)
  | .self i, .self id, m =>
    match Qcb i id 0 m with
    | some m => some ([], m)
    | none => none
  | .any, _, m => some ([], m)
  | _, _, _ => none
def Q8J (S : Sig) (H : List (Nat × Blk S.K)) : List CS → List (Cell S.K) → Mp S.K → Option (List (Cell S.K) × Mp S.K)
  | [], [], m => some ([], m)
  | s :: ss, c :: cs, m =>
    match QhQ S H s c m with
    | some (d, m) =>
      match Q8J S H ss cs m with
      | some (d', m) => some (d ++ d', m)
      | none => none
    | none => none
  | _, _, _ => none
def Qm8 (S : Sig) (H : List (Nat × Blk S.K)) : FS → FV S.K → Mp S.K → Option (List (Cell S.K) × Mp S.K)
  | .c s, .c c, m => QhQ S H s c m
  | .a ss, .a cs, m => Q8J S H ss cs m
  | _, _, _ => none
def Qbo (S : Sig) (H : List (Nat × Blk S.K)) (sl : List (Nat × SV S.K)) : List (Nat × FS) → Mp S.K → Option (List (Cell S.K) × Mp S.K)
  | [], m => some ([], m)
  | (t, s) :: l, m =>
    match get sl t with
    | some (.v x) =>
      match Qm8 S H s x m with
      | some (d, m) =>
        match Qbo S H sl l m with
        | some (d', m) => some (d ++ d', m)
        | none => none
      | none => none
    | _ => none
def QlT (S : Sig) (H : List (Nat × Blk S.K)) (i : Nat) : BS → Mp S.K → Option (List (Cell S.K) × Mp S.K)
  | .gone, m => some ([], m)
  | .vec e, m =>
    match get m.src i with
    | some (.whole id) =>
      match get H id with
      | some (.vec true e' l) => bif Nat.beq e e' then some ([.arr e' l], m) else none
      | _ => none
    | some (.subv id lo hi) =>
      match get H id with
      | some (.vec true e' l) => bif Nat.beq e e' then some ([.arr e' ((l.take hi).drop lo)], m) else none
      | _ => none
    | some .nilv => some ([.arr e []], m)
    | _ => none
  | .var own cs, m =>
    match get m.src i with
    | some (.part id o) =>
      match get H id with
      | some (.var own' cells) => bif !own || own' then Q8J S H cs ((cells.drop o).take cs.length) m else none
      | _ => none
    | some (.row cells) => bif own then none else Q8J S H cs (cells.take cs.length) m
    | _ => none
def QfJ (S : Sig) (H : List (Nat × Blk S.K)) : Nat → List BS → Mp S.K → Option (List (Cell S.K) × Mp S.K)
  | _, [], m => some ([], m)
  | i, b :: l, m =>
    match QlT S H i b m with
    | some (d, m) =>
      match QfJ S H (i + 1) l m with
      | some (d', m) => some (d ++ d', m)
      | none => none
    | none => none
def QN (m : List (Nat × Src S.K)) : Nat → List BS → List Nat
  | _, [] => []
  | i, .vec _ :: l =>
    match get m i with
    | some (.whole id) | some (.subv id _ _) => id :: QN m (i + 1) l
    | _ => QN m (i + 1) l
  | i, .var true _ :: l =>
    match get m i with
    | some (.part id _) => id :: QN m (i + 1) l
    | _ => QN m (i + 1) l
  | i, _ :: l => QN m (i + 1) l
def Q7t (m : List (Nat × Src S.K)) : Nat → List BS → List Nat
  | _, [] => []
  | i, .var false _ :: l =>
    match get m i with
    | some (.part id _) => id :: Q7t m (i + 1) l
    | _ => Q7t m (i + 1) l
  | i, _ :: l => Q7t m (i + 1) l
def Q4Z : List Nat → List Nat → Bool
  | [], _ => true
  | a :: l, r => !mem a r && Q4Z l r
def Q15 : List Nat → Bool
  | [] => true
  | a :: l => !mem a l && Q15 l
def collect (S : Sig) (L : Lay) (st : St S.K) (pre : List (Nat × Src S.K)) : Option (List (Cell S.K) × Mp S.K) :=
  match Qbo S st.heap st.slots L.slots ⟨pre, []⟩ with
  | some (d, m) =>
    match QfJ S st.heap 0 L.blocks m with
    | some (d', m) =>
      bif Q15 (QN m.src 0 L.blocks) && Q4Z (QN m.src 0 L.blocks) m.fr && Q4Z (QN m.src 0 L.blocks) (Q7t m.src 0 L.blocks) then some (d ++ d', m) else none
    | none => none
  | none => none
variable {K : Nat → Type}
def isVar (bs : List BS) (i : Nat) : Bool := match bs[i]? with | some (.var _ _) => true | _ => false
def QfI (bs : List BS) (i : Nat) : Bool := match bs[i]? with | some (.vec _) => true | _ => false
def Qdo (n : List BS) : List (Nat × Nat) → Bool
  | [] => true
  | (i, _) :: l => isVar n i && Qdo n l
def Q7C (ren : Nat → Nat × Nat) : List (Nat × Nat) → List (Nat × Nat)
  | [] => []
  | (i, o) :: l => ((ren i).1, (ren i).2 + o) :: Q7C ren l
def Qli : TS → Cell K → Bool
  | .int k, .int k' _ => Q1M k k'
  | .bool, .bool _ => true
  | .str, .str _ => true
  | .arr e, .arr e' _ => Nat.beq e e'
  | _, _ => false
def Q13 (n : List BS) (ren : Nat → Nat × Nat) : CS → List (Cell K) → Option (Cell K × List (Cell K))
  | .d t, c :: r => match Qli t c with | true => some (c, r) | false => none
  | .d _, [] => none
  | .vec i, r => match QfI n i with | true => some (.vec (ren i).1, r) | false => none
  | .ptr i off, r => match isVar n i with | true => some (.ptr (ren i).1 ((ren i).2 + off), r) | false => none
  | .fn f caps, r => match Qdo n caps with | true => some (.fn f (Q7C ren caps), r) | false => none
  | .nofn, r => some (.nofn, r)
  | .nilp, r => some (.nilp, r)
  | .self i, r => match isVar n i && Nat.beq (ren i).2 0 with | true => some (.self (ren i).1, r) | false => none
  | .any, r => some (.undef, r)
def Q31 (n : List BS) (ren : Nat → Nat × Nat) : List CS → List (Cell K) → Option (List (Cell K) × List (Cell K))
  | [], r => some ([], r)
  | s :: ss, r =>
    match Q13 n ren s r with
    | some (c, r) =>
      match Q31 n ren ss r with
      | some (cs, r) => some (c :: cs, r)
      | none => none
    | none => none
def Q6K (n : List BS) (ren : Nat → Nat × Nat) : FS → List (Cell K) → Option (FV K × List (Cell K))
  | .c s, r =>
    match Q13 n ren s r with
    | some (c, r) => some (.c c, r)
    | none => none
  | .a ss, r =>
    match Q31 n ren ss r with
    | some (cs, r) => some (.a cs, r)
    | none => none
def Q2a (n : List BS) (ren : Nat → Nat × Nat) : List (Nat × FS) → List (Cell K) → Option (List (Nat × FV K) × List (Cell K))
  | [], r => some ([], r)
  | (t, s) :: l, r =>
    match Q6K n ren s r with
    | some (x, r) =>
      match Q2a n ren l r with
      | some (xs, r) => some ((t, x) :: xs, r)
      | none => none
    | none => none
def Q1X (n : List BS) (ren : Nat → Nat × Nat) : BS → List (Cell K) → Option (Option (Blk K) × List (Cell K))
  | .gone, r => some (none, r)
  | .vec e0, .arr e l :: r => match Nat.beq e0 e with | true => some (some (.vec true e l), r) | false => none
  | .vec _, _ => none
  | .var own cs, r =>
    match Q31 n ren cs r with
    | some (cs, r) => some (some (.var own cs), r)
    | none => none
def Q1m (n : List BS) (ren : Nat → Nat × Nat) : List BS → List (Cell K) → Option (List (Option (Blk K)))
  | [], _ => some []
  | b :: l, r =>
    match Q1X n ren b r with
    | some (x, r) =>
      match Q1m n ren l r with
      | some xs => some (x :: xs)
      | none => none
    | none => none
def Q0h (ren : Nat → Nat × Nat) (L : Lay) (cells : List (Cell K)) : Option (List (Nat × FV K) × List (Option (Blk K))) :=
  match Q2a L.blocks ren L.slots cells with
  | some (xs, r) =>
    match Q1m L.blocks ren L.blocks r with
    | some bs => some (xs, bs)
    | none => none
  | none => none
def QJ : Nat → List (Option (Blk K)) → List (Nat × Blk K)
  | _, [] => []
  | i, none :: l => QJ (i + 1) l
  | i, some b :: l => (i, b) :: QJ (i + 1) l
def slotsOf : List (Nat × FV K) → List (Nat × SV K)
  | [] => []
  | (t, x) :: l => (t, .v x) :: slotsOf l
def build (L : Lay) (cells : List (Cell K)) : Option (St K) :=
  match Q0h (fun i => (i, 0)) L cells with
  | some (xs, bs) => some { slots := slotsOf xs, heap := QJ 0 bs, nx := L.blocks.length }
  | none => none
end
end Go.Ve
namespace Go.Ve
structure Job where
  f : Nat
  m : Nat
  l : Option Nat
def jobT (ann : Nat → Nat → Option Q04) (j : Job) : List TS :=
  match ann j.f j.m with
  | none => []
  | some A =>
    match j.l with
    | none => A.inL.tss
    | some r =>
      match get A.labels r with
      | some L => L.tss
      | none => []
def outT (ann : Nat → Nat → Option Q04) (f m : Nat) : List TS :=
  match ann f m with
  | none => []
  | some A => A.outL.tss
structure Env where
  S : Sig
  tt : Nat → Option TD
  eqs : Nat → Option (List TS)
  ann : Nat → Nat → Option Q04
  ext : (f m : Nat) → Option (TL S.K (jobT ann ⟨f, m, none⟩) → Option (TL S.K (outT ann f m)))
def Orc (E : Env) : Type := (j : Job) → TL E.S.K (jobT E.ann j) → Option (TL E.S.K (outT E.ann j.f j.m))
section
variable {K : Nat → Type} {R : Type}
def sif {α : Type} (b : Bool) (x y : Option α) : Option α := match b with | true => x | false => y
def sbind {α β : Type} (o : Option α) (f : α → Option β) : Option β := match o with | some x => f x | none => none
abbrev chk {α : Type} (b : Bool) (x : Option α) : Option α := match b with | true => x | false => none
abbrev sel {α : Type} (b : Bool) (x y : α) : α := match b with | true => x | false => y
def le3 (a b c : Int) : Bool := decide (a ≤ b) && decide (b ≤ c)
def lt3 (a b c : Int) : Bool := decide (a ≤ b) && decide (b < c)
def room (n bytes : Nat) : Bool := Nat.ble (n * bytes) 140737488355328
def joins (a b : ByteArray) : Bool := Nat.ble (a.size + b.size) 9223372036854775807
def idx {α : Type} (l : List α) (i : Int) : Option α := if 0 ≤ i then l[i.toNat]? else none
def bidx (s : ByteArray) (i : Int) : Option Int := if 0 ≤ i then (s[i.toNat]?).map fun b => (b.toNat : Int) else none
def bits (op : BinOp) (k : IntKind) (x y : Int) : Int :=
  k.wrap (match op with
    | .and => ((BitVec.ofInt k.bits x) &&& (BitVec.ofInt k.bits y)).toNat
    | .or => ((BitVec.ofInt k.bits x) ||| (BitVec.ofInt k.bits y)).toNat
    | .xor => ((BitVec.ofInt k.bits x) ^^^ (BitVec.ofInt k.bits y)).toNat
    | _ => ((BitVec.ofInt k.bits x) &&& ~~~(BitVec.ofInt k.bits y)).toNat)
def seq (x y : ByteArray) : Bool := x.toList == y.toList
def slt (x y : ByteArray) : Bool := Op.bytesLess x.toList y.toList
def QiA : Cell K → Cell K → Option Bool
  | .int k a, .int k' b => chk (Q1M k k') (some (a == b))
  | .bool a, .bool b | .bool a, .lit b | .lit a, .bool b | .lit a, .lit b => some (a == b)
  | .str a, .str b => some (seq a b)
  | _, _ => none
def tyC : TS → Cell K → Bool
  | .int k, .int k' _ => Q1M k k'
  | .bool, .bool _ | .bool, .lit _ | .str, .str _ => true
  | _, _ => false
def tysC : List TS → List (Cell K) → Bool
  | [], [] => true
  | t :: ts, c :: cs => tyC t c && tysC ts cs
  | _, _ => false
def Q7n : List (Cell K) → List (Cell K) → Option Bool
  | [], [] => some true
  | [a], [b] => QiA a b
  | a :: as_, b :: bs =>
    match QiA a b, Q7n as_ bs with
    | some x, some y => some (x && y)
    | _, _ => none
  | _, _ => none
def Qel : TK → Cell K → Cell K → Option Bool
  | .ptr _, .nilp, .nilp | .func, .nofn, .nofn | .slice _, .nils, .nils => some true
  | .ptr _, .nilp, .ptr _ _ | .ptr _, .nilp, .elt _ _ _ | .ptr _, .nilp, .tpt _ _ _ | .ptr _, .ptr _ _, .nilp | .ptr _, .elt _ _ _, .nilp | .ptr _, .tpt _ _ _, .nilp | .func, .nofn, .fn _ _ | .func, .fn _ _, .nofn => some false
  | _, _, _ => none
def QhL : Cell K → Option Bool
  | .bool b | .lit b => some b
  | _ => none
def QfB : Operand → Option Int
  | .const (.int _ n) => some n
  | _ => none
def Q4k (op : BinOp) (tk : TK) (y0 : Operand) (x y : Cell K) (k : Cell K → Option R) : Option R :=
  match op, x, y with
  | .shl, .int i a, .int _ b =>
    match QfB y0 with
    | some n => chk (!decide (n < 0)) (k (.int i (i.wrap (a * 2 ^ min b.toNat i.bits))))
    | none => sif (decide (b < 0)) none (k (.int i (i.wrap (a * 2 ^ min b.toNat i.bits))))
  | .shr, .int i a, .int _ b =>
    match QfB y0 with
    | some n => chk (!decide (n < 0)) (k (.int i (a.fdiv (2 ^ min b.toNat i.bits))))
    | none => sif (decide (b < 0)) none (k (.int i (a.fdiv (2 ^ min b.toNat i.bits))))
  | .quo, .int i a, .int i' b =>
    chk (Q1M i i') <|
    match QfB y0 with
    | some n => chk (!decide (n = 0)) (k (.int i (i.wrap (a.tdiv b))))
    | none => sif (decide (b = 0)) none (k (.int i (i.wrap (a.tdiv b))))
  | .rem, .int i a, .int i' b =>
    chk (Q1M i i') <|
    match QfB y0 with
    | some n => chk (!decide (n = 0)) (k (.int i (a.tmod b)))
    | none => sif (decide (b = 0)) none (k (.int i (a.tmod b)))
  | op, .int i a, .int i' b =>
    chk (Q1M i i') <|
      match op with
      | .add => k (.int i (i.wrap (a + b)))
      | .sub => k (.int i (i.wrap (a - b)))
      | .mul => k (.int i (i.wrap (a * b)))
      | .and => k (.int i (bits .and i a b))
      | .or => k (.int i (bits .or i a b))
      | .xor => k (.int i (bits .xor i a b))
      | .andNot => k (.int i (bits .andNot i a b))
      | .eql => k (.bool (a == b))
      | .neq => k (.bool (a != b))
      | .lss => k (.bool (decide (a < b)))
      | .leq => k (.bool (decide (a ≤ b)))
      | .gtr => k (.bool (decide (a > b)))
      | .geq => k (.bool (decide (a ≥ b)))
      | _ => none
  | op, .str a, .str b =>
    match op with
    | .add => sif (joins a b) (k (.str (a ++ b))) none
    | .eql => k (.bool (seq a b))
    | .neq => k (.bool (!seq a b))
    | .lss => k (.bool (slt a b))
    | .leq => k (.bool (slt a b || seq a b))
    | .gtr => k (.bool (!(slt a b || seq a b)))
    | .geq => k (.bool (!slt a b))
    | _ => none
  | op, x, y =>
    match Qel tk x y with
    | some b =>
      match op with
      | .eql => k (.lit b)
      | .neq => k (.lit (!b))
      | _ => none
    | none =>
      match tk, QhL x, QhL y with
      | .bool, some a, some b =>
        match op with
        | .eql => k (.bool (a == b))
        | .neq => k (.bool (!(a == b)))
        | _ => none
      | _, _, _ => none
def Q6I (op : UnOp) (x : Cell K) (k : Cell K → Option R) : Option R :=
  match op, x with
  | .neg, .int i n => k (.int i (i.wrap (0 - n)))
  | .xor, .int i n => k (.int i (bits .xor i (if i.signed then -1 else i.max) n))
  | .not, .bool b => k (.bool (!b))
  | .not, .lit b => k (.lit (!b))
  | _, _ => none
def freeze : List Nat → List (Nat × Blk K) → List (Nat × Blk K)
  | _, [] => []
  | fr, (i, .vec own e l) :: r => (i, .vec (own && !mem i fr) e l) :: freeze fr r
  | fr, b :: r => b :: freeze fr r
def splice (cs new : List (Cell K)) (o : Nat) : List (Cell K) := cs.take o ++ (new ++ cs.drop (o + new.length))
def full : List (Cell K) → Bool
  | [] => true
  | .undef :: _ => false
  | _ :: l => full l
def Qek (fs : List (Nat × Nat × Nat)) : List (Cell K) → List (Nat × FV K) → Option (List (Cell K))
  | cs, [] => some cs
  | cs, (i, x) :: r =>
    match fs[i]? with
    | some (off, _, size) => chk (Nat.beq x.cells.length size && Nat.ble (off + size) cs.length && full x.cells) (Qek fs (splice cs x.cells off) r)
    | none => none
def QoM (n e : Nat) : List (Nat × Nat × Nat) := (List.range n).map fun i => (i, e, 1)
def strsOf : List (Cell K) → Option (List ByteArray)
  | [] => some []
  | .str s :: l => (strsOf l).map (s :: ·)
  | _ :: _ => none
def Qfl (st : St K) : List (Nat × Operand) → Option (List (Nat × FV K))
  | [] => some []
  | (i, o) :: l =>
    match Q56 st o, Qfl st l with
    | some x, some xs => some ((i, x) :: xs)
    | _, _ => none
end
section
variable {R : Type} (E : Env)
abbrev Kn (E : Env) (R : Type) := SV E.S.K → St E.S.K → Option R
def Q84 (st : St E.S.K) (n : Nat) (p : Cell E.S.K) (k : List (Cell E.S.K) → Option R) : Option R :=
  match p with
  | .ptr id off =>
    match get st.heap id with
    | some (.var _ cs) => chk (Nat.ble (off + n) cs.length) (k ((cs.drop off).take n))
    | _ => none
  | .elt id i off =>
    match get st.heap id with
    | some (.vec _ e l) => chk (Nat.ble (off + n) (E.S.sz e)) (sbind l[i]? fun x => k (((E.S.enc e x).drop off).take n))
    | _ => none
  | .tpt e x off => chk (Nat.ble (off + n) (E.S.sz e)) (k (((E.S.enc e x).drop off).take n))
  | _ => none
def Qaq (st : St E.S.K) (e : Nat) (cs : List (Cell E.S.K)) : Option (E.S.K e × List Nat) :=
  match Qby st.heap (E.S.sh e) cs with
  | some (cs, fr) =>
    match E.S.dec e cs with
    | some x => some (x, fr)
    | none => none
  | none => none
def QlB (e : Nat) : Bool := match E.tt e with | some ed => Nat.beq ed.size (E.S.sz e) && Nat.ble 1 (E.S.sz e) && Nat.ble 1 ed.bytes | none => false
def sliceOf (t : Nat) : Option Nat :=
  match E.tt t with
  | some td =>
    match td.kind with
    | .slice e => chk (QlB E e) (some e)
    | _ => none
  | none => none
def bytesOf (e : Nat) : Nat := match E.tt e with | some ed => ed.bytes | none => 0
def kindOf (t : Nat) : TK := match E.tt t with | some td => td.kind | none => .other
def Qbl (st : St E.S.K) (new : List (Cell E.S.K)) (p : Cell E.S.K) (k : St E.S.K → Option R) : Option R :=
  match p with
  | .ptr id off =>
    match get st.heap id with
    | some (.var true cs) => chk (Nat.ble (off + new.length) cs.length) (k { st with heap := put st.heap id (.var true (splice cs new off)) })
    | _ => none
  | .elt id i off =>
    match get st.heap id with
    | some (.vec true e l) =>
      match Nat.beq off 0 && Nat.beq new.length (E.S.sz e) with
      | true =>
        match Qaq E st e new with
        | some (x, fr) => chk (!mem id fr) (k { st with heap := put (freeze fr st.heap) id (.vec true e (l.set i x)) })
        | none => none
      | false =>
        chk (Nat.ble (off + new.length) (E.S.sz e)) (sbind l[i]? fun x0 =>
          match Qaq E st e (splice (E.S.enc e x0) new off) with
          | some (x, fr) => chk (!mem id fr) (k { st with heap := put (freeze fr st.heap) id (.vec true e (l.set i x)) })
          | none => none)
    | _ => none
  | _ => none
def Q3p (st : St E.S.K) (e : Nat) (l : List (E.S.K e)) (k : Kn E R) : Option R :=
  k (.v (.c (.vec st.nx))) { st with heap := (st.nx, .vec true e l) :: st.heap, nx := st.nx + 1 }
def newVar (st : St E.S.K) (cs : List (Cell E.S.K)) (k : Kn E R) : Option R :=
  k (.v (.c (.ptr st.nx 0))) { st with heap := (st.nx, .var true cs) :: st.heap, nx := st.nx + 1 }
def elems (st : St E.S.K) (e : Nat) : Cell E.S.K → Option (List (E.S.K e))
  | .arr e' l => match Nat.decEq e' e with | isTrue h => some (Qbu e e' h l) | isFalse _ => none
  | .vec id =>
    match get st.heap id with
    | some (.vec _ e' l) => match Nat.decEq e' e with | isTrue h => some (Qbu e e' h l) | isFalse _ => none
    | _ => none
  | .sub id lo hi =>
    match get st.heap id with
    | some (.vec _ e' l) => match Nat.decEq e' e with | isTrue h => some ((Qbu e e' h l).take hi |>.drop lo) | isFalse _ => none
    | _ => none
  | .str s => match Nat.decEq E.S.u8 e with | isTrue h => some (Qbu e E.S.u8 h (E.S.ofB s)) | isFalse _ => none
  | _ => none
def rowsOf (st : St E.S.K) (e : Nat) (zero : List (Cell E.S.K)) (ps : List (Nat × FV E.S.K)) : Nat → Nat → Option (List (E.S.K e) × List Nat)
  | 0, _ => some ([], [])
  | n + 1, i =>
    match Qaq E st e (match get ps i with | some x => x.cells | none => zero), rowsOf st e zero ps n (i + 1) with
    | some (x, fr), some (xs, fr') => some (x :: xs, fr ++ fr')
    | _, _ => none
def base (st : St E.S.K) (e : Nat) : Cell E.S.K → Option (List (E.S.K e) × List (Nat × Blk E.S.K))
  | .nils => some ([], st.heap)
  | .vec id =>
    match get st.heap id with
    | some (.vec true e' l) => match Nat.decEq e' e with | isTrue h => some (Qbu e e' h l, del st.heap id) | isFalse _ => none
    | _ => none
  | .sub id lo hi =>
    match get st.heap id with
    | some (.vec true e' l) => match Nat.decEq e' e with | isTrue h => some ((Qbu e e' h l).take hi |>.drop lo, del st.heap id) | isFalse _ => none
    | _ => none
  | _ => none
def Q7j (st : St E.S.K) (e bytes : Nat) (s x : Cell E.S.K) (k : Kn E R) : Option R :=
  match x with
  | .nils =>
    match s with
    | .nils => k (.v (.c .nils)) st
    | .vec id =>
      match get st.heap id with
      | some (.vec true _ _) => k (.v (.c (.vec id))) st
      | _ => none
    | _ => none
  | x =>
    match base E st e s, elems E st e x with
    | some (l0, H), some l => sif (room (l0.length + l.length) bytes) (Q3p E { st with heap := H } e (l0 ++ l) k) none
    | _, _ => none
def putAt {α : Type} (l : List α) (lo : Nat) (s : List α) : List α := l.take lo ++ (s ++ l.drop (lo + s.length))
def Qbt (st : St E.S.K) (e : Nat) (d x : Cell E.S.K) (k : Kn E R) : Option R :=
  match d with
  | .vec id =>
    match get st.heap id with
    | some (.vec true e0 l0) =>
      chk (Nat.beq e0 e) <| match elems E st e0 x with
      | some l => k (.v (.c (.int .i64 (min l.length l0.length : Nat)))) { st with heap := put st.heap id (.vec true e0 (putAt l0 0 (l.take l0.length))) }
      | none => none
    | _ => none
  | .sub id lo hi =>
    match get st.heap id with
    | some (.vec true e0 l0) =>
      chk (Nat.beq e0 e) <| match elems E st e0 x with
      | some l => k (.v (.c (.int .i64 (min l.length (hi - lo) : Nat)))) { st with heap := put st.heap id (.vec true e0 (putAt l0 lo (l.take (hi - lo)))) }
      | none => none
    | _ => none
  | _ => none
def Q90 (st : St E.S.K) (e : Nat) (z : List (Cell E.S.K)) (d : Cell E.S.K) (k : Kn E R) : Option R :=
  match d with
  | .vec id =>
    match get st.heap id with
    | some (.vec true e0 l0) =>
      chk (Nat.beq e0 e) <| match Qaq E st e0 z with
      | some (x, []) => k (.t []) { st with heap := put st.heap id (.vec true e0 (putAt l0 0 (List.replicate l0.length x))) }
      | _ => none
    | _ => none
  | .sub id lo hi =>
    match get st.heap id with
    | some (.vec true e0 l0) =>
      chk (Nat.beq e0 e) <| match Qaq E st e0 z with
      | some (x, []) => k (.t []) { st with heap := put st.heap id (.vec true e0 (putAt l0 lo (List.replicate (hi - lo) x))) }
      | _ => none
    | _ => none
  | _ => none
def isSlice : TK → Bool
  | .slice _ => true
  | _ => false
def isStr : TK → Bool
  | .str => true
  | _ => false
def dLen (st : St E.S.K) (tk : TK) (x : Cell E.S.K) (k : Cell E.S.K → Option R) : Option R :=
  match x with
  | .str s => chk (isStr tk) (k (.int .i64 s.size))
  | .arr _ l => chk (isSlice tk) (k (.int .i64 l.length))
  | .vec id =>
    match get st.heap id with
    | some (.vec _ _ l) => chk (isSlice tk) (k (.int .i64 l.length))
    | _ => none
  | .sub _ lo hi => chk (isSlice tk) (k (.int .i64 (hi - lo : Nat)))
  | .nils => chk (isSlice tk) (k (.int .i64 0))
  | _ => none
def Qik (st : St E.S.K) : Option Operand → Option (Option Int)
  | none => some none
  | some o =>
    match Q0F st o with
    | some (.int _ n) => some (some n)
    | _ => none
def bounds (len : Nat) (lo hi : Option Int) (k : Nat → Nat → Option R) : Option R :=
  match lo, hi with
  | none, none => k 0 len
  | some l, none => sif (le3 0 l len) (k l.toNat len) none
  | none, some h => sif (le3 0 h len) (k 0 h.toNat) none
  | some l, some h => sif (le3 0 h len) (sif (le3 0 l h) (k l.toNat h.toNat) none) none
def Q77 (st : St E.S.K) (t : Nat) (x : Cell E.S.K) (lo hi : Option Int) (k : Cell E.S.K → Option R) : Option R :=
  match x with
  | .str s => chk (isStr (kindOf E t)) (bounds s.size lo hi fun l h => k (.str (s.extract l h)))
  | x =>
    match sliceOf E t with
    | some e =>
      match x with
      | .nils => bounds 0 lo hi fun _ _ => k .nils
      | .arr e' l => chk (Nat.beq e' e) (bounds l.length lo hi fun a b => k (.arr e' ((l.take b).drop a)))
      | .vec id =>
        match get st.heap id with
        | some (.vec _ e' l) => chk (Nat.beq e' e) (bounds l.length lo hi fun a b => k (.sub id a b))
        | _ => none
      | .sub id a b =>
        match get st.heap id with
        | some (.vec _ e' _) => chk (Nat.beq e' e) (bounds (b - a) lo hi fun c d => k (.sub id (a + c) (a + d)))
        | _ => none
      | _ => none
    | none => none
def Q2F (st : St E.S.K) (t : Nat) (x : Cell E.S.K) (i : Int) (k : Cell E.S.K → Option R) : Option R :=
  match sliceOf E t with
  | some e =>
    match x with
    | .arr e' l => chk (Nat.beq e' e) (sbind (idx l i) fun v => k (.tpt e' v 0))
    | .vec id =>
      match get st.heap id with
      | some (.vec _ e' l) => chk (Nat.beq e' e) (sif (lt3 0 i l.length) (k (.elt id i.toNat 0)) none)
      | _ => none
    | .sub id lo hi =>
      match get st.heap id with
      | some (.vec _ e' _) => chk (Nat.beq e' e) (sif (lt3 0 i (hi - lo : Nat)) (k (.elt id (lo + i.toNat) 0)) none)
      | _ => none
    | _ => none
  | none => none
def Q4c (st : St E.S.K) (src dst : TD) (x : Cell E.S.K) (k : Kn E R) : Option R :=
  match dst.kind, x with
  | .int i, .int _ n => k (.v (.c (.int i (i.wrap n)))) st
  | .str, .str s => k (.v (.c (.str s))) st
  | .slice e, .str s => chk (Nat.beq e E.S.u8) (Q3p E st E.S.u8 (E.S.ofB s) k)
  | .str, x =>
    match src.kind with
    | .slice e =>
      chk (Nat.beq e E.S.u8) <|
        match x with
        | .nils => k (.v (.c (.str .empty))) st
        | x =>
          match elems E st E.S.u8 x with
          | some l => k (.v (.c (.str (E.S.toB l)))) st
          | none => none
    | _ => none
  | _, _ => none
def Q8e {K : Nat → Type} : List (Nat × FV K) → SV K
  | [(_, x)] => .v x
  | l => .t (l.map (·.2))
def Q4x : List CS → Bool
  | [] => false
  | .d (.arr _) :: _ => true
  | _ :: l => Q4x l
def Qlh (S : Sig) (e : Nat) : Bool := (S.sh e).all fun | .arr _ => false | _ => true
def Q3n : List (Nat × FS) → Bool
  | [] => false
  | (_, .c s) :: l => Q4x [s] || Q3n l
  | (_, .a ss) :: l => Q4x ss || Q3n l
def Q35 (S : Sig) : List BS → Bool
  | [] => false
  | .var _ cs :: l => Q4x cs || Q35 S l
  | .vec e :: l => !Qlh S e || Q35 S l
  | .gone :: l => Q35 S l
def Q0R (S : Sig) (A : Q04) : Bool := Q3n A.outL.slots || Q35 S A.outL.blocks
def Q8n {K : Nat → Type} : Nat → List (FV K) → List (Nat × SV K)
  | _, [] => []
  | i, x :: l => (i, .v x) :: Q8n (i + 1) l
def Qam {K : Nat → Type} (src : List (Nat × Src K)) (inB outB : List BS) (nx i : Nat) : Nat × Nat :=
  match inB[i]?, outB[i]?, get src i with
  | some (.var true _), some (.var true _), some (.part id o) => (id, o)
  | some (.vec _), some (.vec _), some (.whole id) => (id, 0)
  | _, _, _ => (nx + i, 0)
def Q3d {K : Nat → Type} (src : List (Nat × Src K)) (H : List (Nat × Blk K)) : Nat → List BS → List (Option (Blk K)) → Option (List (Nat × Blk K))
  | _, [], _ => some []
  | i, .var true ics :: bs, ob :: l =>
    match ob, get src i with
    | some (.var true cs), some (.part id o) =>
      match get H id with
      | some (.var true old) =>
        match Nat.beq cs.length ics.length && Nat.ble 1 cs.length && Nat.ble (o + cs.length) old.length, Q3d src H (i + 1) bs l with
        | true, some r => some ((id, .var true (splice old cs o)) :: r)
        | _, _ => none
      | _ => none
    | _, _ => none
  | i, .vec _ :: bs, ob :: l =>
    match ob, get src i with
    | some (.vec own e v), some (.whole id) =>
      match Q3d src H (i + 1) bs l with
      | some r => some ((id, .vec own e v) :: r)
      | none => none
    | _, _ => Q3d src H (i + 1) bs l
  | i, _ :: bs, _ :: l => Q3d src H (i + 1) bs l
  | _, _ :: _, [] => none
def Qdj {K : Nat → Type} : Option BS → Blk K → Option (Src K) → Bool
  | some (.var true _), _, _ => true
  | some (.vec _), .vec _ _ _, some (.whole _) => true
  | _, _, _ => false
def news {K : Nat → Type} (src : List (Nat × Src K)) (nx : Nat) : Nat → List BS → List (Option (Blk K)) → List (Nat × Blk K)
  | _, _, [] => []
  | i, ins, none :: l => news src nx (i + 1) ins.tail l
  | i, ins, some b :: l =>
    match Qdj ins.head? b (get src i) with
    | true => news src nx (i + 1) ins.tail l
    | false => (nx + i, b) :: news src nx (i + 1) ins.tail l
def dels {K : Nat → Type} : List Nat → List (Nat × Blk K) → List (Nat × Blk K)
  | [], H => H
  | i :: l, H => del (dels l H) i
def Q66 : List BS → Bool
  | [] => true
  | .var false _ :: _ => false
  | _ :: l => Q66 l
def QfE {S : Sig} (src : List (Nat × Src S.K)) (nx : Nat) (ins : List BS) (blks : List (Option (Blk S.K))) (H : List (Nat × Blk S.K)) : Option (List (Nat × Blk S.K)) :=
  match Q3d src H 0 ins blks with
  | some l => some (news src nx 0 ins blks ++ (l ++ dels (QN (S := S) src 0 ins) H))
  | none => none
def QiF (g m : Nat) (A : Q04) (n : Nat) : Bool :=
  match E.ext g m with
  | none => true
  | some _ => Nat.beq n A.inL.slots.length
def Q9h (orc : Orc E) (st : St E.S.K) (g m : Nat) (args : List (FV E.S.K)) (k : Kn E R) : Option R :=
  match E.ann g m with
  | none => none
  | some A =>
    chk (QiF E g m A args.length) <|
    match collect E.S A.inL { st with slots := Q8n 0 args } [] with
    | none => none
    | some (cells, mp) =>
      match decL (jobT E.ann ⟨g, m, none⟩) cells with
      | none => none
      | some d =>
        sbind (orc ⟨g, m, none⟩ d) fun r =>
          match Q0h (Qam mp.src A.inL.blocks A.outL.blocks st.nx) A.outL (encL (outT E.ann g m) r) with
          | none => none
          | some (res, bs) =>
            match chk (Q66 A.outL.blocks) (QfE (S := E.S) mp.src st.nx A.inL.blocks bs (sel (Q0R E.S A) (freeze mp.fr st.heap) st.heap)) with
            | none => none
            | some H => k (Q8e res) { st with heap := H, nx := st.nx + A.outL.blocks.length }
def isBt (t : Nat) : Bool :=
  match E.S.bt with
  | some T => Nat.beq t T
  | none => false
def Qhe {K : Nat → Type} : List (Nat × Nat) → List (FV K)
  | [] => []
  | (i, o) :: l => .c (.ptr i o) :: Qhe l
def Qih (st : St E.S.K) : List Operand → Option (List (Nat × Nat))
  | [] => some []
  | o :: l =>
    match Q0F st o, Qih st l with
    | some (.ptr i off), some r => some ((i, off) :: r)
    | _, _ => none
def dop (orc : Orc E) (site : Nat → Nat) (st : St E.S.K) (o : Oper) (k : Kn E R) : Option R :=
  match o.op with
  | .move x | .assign x =>
    match operand st x with
    | some v => k v st
    | none => none
  | .pick q a b =>
    match Q0F st q, operand st a, operand st b with
    | some (.bool t), some va, some vb => sif t (k va st) (k vb st)
    | some (.lit t), some va, some vb => sel t (k va st) (k vb st)
    | _, _, _ => none
  | .alloc t =>
    match E.tt t with
    | some td =>
      match ofValues td.zero with
      | some z =>
        match isBt E t, z with
        | true, [.nilp, b] => newVar E st [.self st.nx, b] k
        | true, _ => none
        | false, z => newVar E st z k
      | none => none
    | none => none
  | .box _ x =>
    match Q56 st x with
    | some v => chk (full v.cells) (newVar E st v.cells k)
    | none => none
  | .build t parts =>
    match E.tt t with
    | some td =>
      match td.kind, ofValues td.zero, Qfl st parts.toList with
      | .struct fs, some z, some ps =>
        match Qek fs z ps with
        | some cs => k (.v (.a cs)) st
        | none => none
      | .array n e, some z, some ps =>
        match Qek (QoM n e) z ps with
        | some cs => k (.v (.a cs)) st
        | none => none
      | _, _, _ => none
    | none => none
  | .buildSlice t n parts =>
    match sliceOf E t, Qfl st parts.toList with
    | some e, some ps =>
      match E.tt e with
      | some ed =>
        match ofValues ed.zero with
        | some z =>
          chk (Nat.ble (n * E.S.sz e) 16777216 && (parts.toList.all fun p => Nat.blt p.1 n) && Q15 (parts.toList.map (·.1)) && ps.all fun p => full p.2.cells) <|
            match rowsOf E st e z ps n 0 with
            | some (l, fr) => Q3p E { st with heap := freeze fr st.heap } e l k
            | none => none
        | none => none
      | none => none
    | _, _ => none
  | .load t p =>
    match E.tt t, Q0F st p with
    | some td, some pc =>
      Q84 E st td.size pc fun cs =>
        match td.agg with
        | true => k (.v (.a cs)) st
        | false =>
          match cs with
          | [x] => k (.v (.c x)) st
          | _ => none
    | _, _ => none
  | .store t p x =>
    match E.tt t, Q0F st p, Q56 st x with
    | some td, some pc, some v => chk (Nat.beq v.cells.length td.size && full v.cells) (Qbl E st v.cells pc fun st => k (.t []) st)
    | _, _, _ => none
  | .nilCheck x =>
    match Q0F st x with
    | some (.ptr i o) => k (.v (.c (.ptr i o))) st
    | some (.elt i j o) => k (.v (.c (.elt i j o))) st
    | some (.tpt e v o) => k (.v (.c (.tpt e v o))) st
    | some (.fn f cp) => k (.v (.c (.fn f cp))) st
    | _ => none
  | .binOp op t x y _ =>
    match Q56 st x, Q56 st y with
    | some (.c a), some (.c b) => Q4k op (kindOf E t) y a b fun c => k (.v (.c c)) st
    | some (.a xs), some (.a ys) =>
      match E.eqs t with
      | some ts =>
        chk (tysC ts xs && tysC ts ys) <|
          match op, Q7n xs ys with
          | .eql, some b => k (.v (.c (.bool b))) st
          | .neq, some b => k (.v (.c (.bool (!b)))) st
          | _, _ => none
      | none => none
    | _, _ => none
  | .unOp op _ x =>
    match Q0F st x with
    | some x => Q6I op x fun c => k (.v (.c c)) st
    | none => none
  | .convert s d x =>
    match E.tt s, E.tt d, Q0F st x with
    | some s, some d, some x => Q4c E st s d x k
    | _, _, _ => none
  | .makeFunc (.func f) first caps =>
    match first.toList, Qih E st caps.toList with
    | [], some cp => k (.v (.c (.fn f cp))) st
    | _, _ => none
  | .makeSlice t n m =>
    match sliceOf E t, Q0F st n, Q0F st m with
    | some e, some (.int _ n), some (.int _ m) =>
      match E.tt e with
      | some ed =>
        match ofValues ed.zero with
        | some z =>
          match Qaq E st e z with
          | some (x, []) => sif (le3 0 n m && room m.toNat ed.bytes) (Q3p E st e (List.replicate n.toNat x) k) none
          | _ => none
        | none => none
      | none => none
    | _, _, _ => none
  | .slice t x lo hi none =>
    match Q0F st x, Qik E st lo, Qik E st hi with
    | some x, some lo, some hi => Q77 E st t x lo hi fun c => k (.v (.c c)) st
    | _, _, _ => none
  | .fieldAddr t x f =>
    match E.tt t, Q0F st x with
    | some td, some x =>
      match td.kind with
      | .struct fs =>
        match fs[f]? with
        | some (off, _, size) =>
          match x with
          | .ptr id o => chk (Nat.ble 1 size) (k (.v (.c (.ptr id (o + off)))) st)
          | .elt id i o => chk (Nat.ble 1 size) (k (.v (.c (.elt id i (o + off)))) st)
          | .tpt e v o => chk (Nat.ble 1 size) (k (.v (.c (.tpt e v (o + off)))) st)
          | _ => none
        | none => none
      | _ => none
    | _, _ => none
  | .field t x f =>
    match E.tt t, Q56 st x with
    | some td, some (.a cs) =>
      match td.kind with
      | .struct fs =>
        match fs[f]? with
        | some (off, ft, size) =>
          match E.tt ft with
          | some fd =>
            chk (Nat.ble (off + size) cs.length) <|
              match fd.agg with
              | true => k (.v (.a ((cs.drop off).take size))) st
              | false =>
                match (cs.drop off).take size with
                | [x] => k (.v (.c x)) st
                | _ => none
          | none => none
        | none => none
      | _ => none
    | _, _ => none
  | .indexAddr t x i =>
    match Q0F st x, Q0F st i with
    | some x, some (.int _ i) => Q2F E st t x i fun c => k (.v (.c c)) st
    | _, _ => none
  | .index t x i =>
    match Q0F st x, Q0F st i with
    | some (.str s), some (.int _ i) => chk (isStr (kindOf E t)) (sbind (bidx s i) fun b => k (.v (.c (.int .u8 b))) st)
    | none, some (.int _ i) =>
      match Q56 st x, kindOf E t with
      | some (.a cs), .array n e =>
        match strsOf cs with
        | some l => chk (isStr (kindOf E e) && Nat.beq l.length n) (sbind (idx l i) fun s => k (.v (.c (.str s))) st)
        | none => none
      | _, _ => none
    | _, _ => none
  | .extract x i =>
    match operand st x with
    | some (.t xs) =>
      match xs[i]? with
      | some v => k (.v v) st
      | none => none
    | _ => none
  | .call { callee := .builtin b, args := as_, argTypes := ts } =>
    match b, Qax st as_.toList with
    | .len, some [.c x] =>
      match ts[0]? with
      | some t => dLen E st (kindOf E t) x fun c => k (.v (.c c)) st
      | none => none
    | .append, some [.c s, .c x] =>
      match ts[0]?, ts[1]? with
      | some t, some u =>
        match sliceOf E t with
        | some e => chk (isSlice (kindOf E u) || isStr (kindOf E u)) (Q7j E st e (bytesOf E e) s x k)
        | none => none
      | _, _ => none
    | .copy, some [.c d, .c x] =>
      match ts[0]? with
      | some t =>
        match sliceOf E t with
        | some e => Qbt E st e d x k
        | none => none
      | none => none
    | .clear, some [.c d] =>
      match ts[0]? with
      | some t =>
        match sliceOf E t with
        | some e =>
          match E.tt e with
          | some ed =>
            match ofValues ed.zero with
            | some z => Q90 E st e z d k
            | none => none
          | none => none
        | none => none
      | none => none
    | .max, some [.c (.int i a), .c (.int _ b)] => k (.v (.c (.int i (if b > a then b else a)))) st
    | .min, some [.c (.int i a), .c (.int _ b)] => k (.v (.c (.int i (if b < a then b else a)))) st
    | _, _ => none
  | .call { callee := .value fo, args := as_, .. } =>
    match Q0F st fo, Qax st as_.toList with
    | some (.fn g cp), some xs =>
      Q9h E orc st g (site (match o.dst with | some d => d | none => 0)) (xs ++ Qhe cp) k
    | _, _ => none
  | _ => none
def Q7a (st : St E.S.K) : Nat → List ResultVar → (List (Nat × SV E.S.K) → Option R) → Option R
  | _, [], k => k []
  | i, .tmp t :: l, k =>
    match get st.slots t with
    | some v => Q7a st (i + 1) l fun r => k ((i, v) :: r)
    | none => none
  | i, .cell a t :: l, k =>
    match E.tt t, get st.slots a with
    | some td, some (.v (.c p)) =>
      Q84 E st td.size p fun cs =>
        match td.agg with
        | true => Q7a st (i + 1) l fun r => k ((i, .v (.a cs)) :: r)
        | false =>
          match cs with
          | [x] => Q7a st (i + 1) l fun r => k ((i, .v (.c x)) :: r)
          | _ => none
    | _, _ => none
def Q3v {K : Nat → Type} : Nat → List BS → List (Nat × Src K)
  | _, [] => []
  | i, .var _ _ :: l => (i, .part i 0) :: Q3v (i + 1) l
  | i, .vec _ :: l => (i, .whole i) :: Q3v (i + 1) l
  | i, _ :: l => Q3v (i + 1) l
def picks : Nat → List (Nat × FS) → Bool
  | _, [] => true
  | i, (t, _) :: l => Nat.beq t i && picks (i + 1) l
def dRet (f m : Nat) (A : Q04) (st : St E.S.K) : Option (TL E.S.K (outT E.ann f m)) :=
  Q7a E st 0 A.fn.results.toList fun rs =>
    match collect E.S A.outL { st with slots := rs } (Q3v 0 A.inL.blocks) with
    | some (cells, _) =>
      match chk (picks 0 A.outL.slots && Nat.beq A.outL.slots.length A.fn.results.toList.length) (Q0h (fun i => (i, 0)) A.outL cells) with
      | some _ => decL (outT E.ann f m) cells
      | none => none
    | none => none
def Qfz (orc : Orc E) (f m r : Nat) (A : Q04) (L : Lay) (st : St E.S.K) : Option (TL E.S.K (outT E.ann f m)) :=
  match collect E.S L st (Q3v 0 A.inL.blocks) with
  | some (cells, _) =>
    match decL (jobT E.ann ⟨f, m, some r⟩) cells with
    | some d => orc ⟨f, m, some r⟩ d
    | none => none
  | none => none
def Q4i {K : Nat → Type} (st : St K) (ntmps : Nat) (d : Option Nat) (v : SV K) : Option (St K) :=
  match d with
  | none => some st
  | some d => chk (Nat.blt d ntmps) (some { st with slots := put st.slots d v })
def Qbs (st : St E.S.K) (ops : Array Oper) (o : Oper) (yes no : St E.S.K → Option R) : Option R :=
  match o.guard with
  | none => yes st
  | some (j, want) =>
    match ops[j]? with
    | some oj =>
      match oj.dst with
      | some d =>
        match get st.slots d with
        | some (.v (.c (.bool b))) =>
          match want with
          | true => sif b (yes { st with slots := put st.slots d (.v (.c (.lit true))) }) (no { st with slots := put st.slots d (.v (.c (.lit false))) })
          | false => sif b (no { st with slots := put st.slots d (.v (.c (.lit true))) }) (yes { st with slots := put st.slots d (.v (.c (.lit false))) })
        | some (.v (.c (.lit b))) =>
          match b, want with
          | true, true | false, false => yes st
          | _, _ => no st
        | some (.t []) => no st
        | _ => none
      | none => none
    | none => none
open Classical in
noncomputable def sboth {α : Type} (x y : Option α) : Option α := if x = y then y else none
def Qmi (st : St E.S.K) : Cell E.S.K → Option Bool
  | .arr _ l => some l.isEmpty
  | .vec id =>
    match get st.heap id with
    | some (.vec _ _ l) => some l.isEmpty
    | _ => none
  | .sub id lo hi =>
    match get st.heap id with
    | some (.vec _ _ _) => some (Nat.ble hi lo)
    | _ => none
  | _ => none
def QiT (st : St E.S.K) (o : Oper) : Option (Bool × Bool) :=
  match o.op with
  | .binOp op t x y _ =>
    match isSlice (kindOf E t), Q0F st x, Q0F st y with
    | true, some a, some .nils =>
      match Qmi E st a, op with
      | some n, .eql => some (n, false)
      | some n, .neq => some (n, true)
      | _, _ => none
    | _, _, _ => none
  | _ => none
noncomputable def Q4P (orc : Orc E) (A : Q04) (ops : Array Oper) : List Nat → St E.S.K → (St E.S.K → Option R) → Option R
  | [], st, k => k st
  | i :: rest, st, k =>
    match ops[i]? with
    | some o =>
      Qbs E st ops o
        (fun st =>
          match QiT E st o with
          | some (n, neg) =>
            sif n
              (sboth
                (match Q4i st A.fn.ntmps o.dst (.v (.c (.lit (!neg)))) with
                | some st'' => Q4P orc A ops rest st'' k
                | none => none)
                (match Q4i st A.fn.ntmps o.dst (.v (.c (.lit neg))) with
                | some st'' => Q4P orc A ops rest st'' k
                | none => none))
              (match Q4i st A.fn.ntmps o.dst (.v (.c (.lit neg))) with
              | some st'' => Q4P orc A ops rest st'' k
              | none => none)
          | none => dop E orc A.site st o fun v st' =>
            match Q4i st' A.fn.ntmps o.dst v with
            | some st'' => Q4P orc A ops rest st'' k
            | none => none)
        (fun st =>
          match Q4i st A.fn.ntmps o.dst (.t []) with
          | some st'' => Q4P orc A ops rest st'' k
          | none => none)
    | none => none
def Qff : List (Nat × Nat) → List Nat
  | [] => []
  | (i, _) :: l => i :: Qff l
def Cell.ids {K : Nat → Type} : Cell K → List Nat
  | .vec id | .sub id _ _ | .ptr id _ | .elt id _ _ | .self id => [id]
  | .fn _ caps => Qff caps
  | _ => []
def idsC {K : Nat → Type} : List (Cell K) → List Nat
  | [] => []
  | x :: l => x.ids ++ idsC l
def reach {K : Nat → Type} (H : List (Nat × Blk K)) : Nat → List Nat → List Nat → List Nat
  | 0, _, acc => acc
  | _ + 1, [], acc => acc
  | n + 1, i :: l, acc =>
    match mem i acc with
    | true => reach H n l acc
    | false =>
      match get H i with
      | some (.var _ cs) => reach H n (idsC cs ++ l) (i :: acc)
      | some _ => reach H n l (i :: acc)
      | none => reach H n l acc
def part {K : Nat → Type} (F : List Nat) (yes : Bool) : List (Nat × Blk K) → List (Nat × Blk K)
  | [] => []
  | (i, b) :: r =>
    match mem i F, yes with
    | true, true | false, false => (i, b) :: part F yes r
    | _, _ => part F yes r
def Qlf {K : Nat → Type} (st : St K) : List Operand → List Nat
  | [] => []
  | o :: l =>
    match operand st o with
    | some (.v x) => idsC x.cells ++ Qlf st l
    | some (.t xs) => xs.foldr (fun x r => idsC x.cells ++ r) (Qlf st l)
    | none => Qlf st l
def Q9s : List BS → Bool
  | [] => false
  | .var true _ :: _ | .vec _ :: _ => true
  | _ :: l => Q9s l
def loud (site : Nat → Nat) (st : St E.S.K) (o : Oper) : Bool :=
  match o.op with
  | .store .. | .buildSlice .. => true
  | .call { callee := .builtin .len, .. } => false
  | .call { callee := .value fo, .. } =>
    match Q0F st fo with
    | some (.fn g _) =>
      match E.ann g (site (match o.dst with | some d => d | none => 0)) with
      | some A => Q9s A.inL.blocks || Q0R E.S A
      | none => true
    | _ => true
  | .call _ => true
  | _ => false
structure Tr where
  i : Nat
  F : List Nat
  w : Bool
  lo : Nat
  hi : Nat
def Qix (lo hi : Nat) : List Nat → Bool
  | [] => true
  | a :: l => !(Nat.ble lo a && Nat.blt a hi) && Qix lo hi l
def mask (acc : List (Nat × Nat)) : List Edge → Nat
  | [] => 0
  | e :: l =>
    match Region.binds .any e with
    | true => (2 ^ e.on ||| (get acc e.on).getD 0) ||| mask acc l
    | false => mask acc l
def masks : List Oper → Nat → List (Nat × Nat) → List (Nat × Nat)
  | [], _, acc => acc
  | o :: l, j, acc => masks l (j + 1) ((j, mask acc o.after.toList) :: acc)
def bit (b : List (Nat × Nat)) (i j : Nat) : Bool := ((get b j).getD 0).testBit i
def QdB (b : List (Nat × Nat)) (x y : Tr) : Bool :=
  bit b x.i y.i || ((!(x.w || y.w) || Q4Z x.F y.F) && Qix x.lo x.hi y.F)
def trOk (b : List (Nat × Nat)) : List Tr → Bool
  | [] => true
  | y :: l => l.all (fun x => QdB b x y) && trOk b l
def QbL (ops : Array Oper) (b : List (Nat × Nat)) (j : Nat) (y : Oper) : Nat → List Oper → Bool
  | _, [] => true
  | i, x :: l => (bit b j i || x.apart ops y) && QbL ops b j y (i + 1) l
def Qbw (ops : Array Oper) (b : List (Nat × Nat)) : Nat → List Oper → Bool
  | _, [] => true
  | j, y :: l => QbL ops b j y (j + 1) l && Qbw ops b (j + 1) l
def Q9T : Nat → List Oper → Bool
  | _, [] => true
  | j, y :: l => y.after.toList.all (fun e => !Region.binds .any e || Nat.blt e.on j) && Q9T (j + 1) l
def Qm2 (ops : Array Oper) (tr : List Tr) : Bool :=
  Q9T 0 ops.toList && Qbw ops (masks ops.toList 0 []) 0 ops.toList && trOk (masks ops.toList 0 []) tr
def tmpsOf : List Operand → List Nat
  | [] => []
  | .tmp t :: l => t :: tmpsOf l
  | _ :: l => tmpsOf l
def keep {K : Nat → Type} (ts : List Nat) : List (Nat × SV K) → List (Nat × SV K)
  | [] => []
  | (t, v) :: l =>
    match mem t ts with
    | true => (t, v) :: keep ts l
    | false => keep ts l
def idsF {K : Nat → Type} : SV K → List Nat
  | .v x => idsC x.cells
  | .t xs => xs.foldr (fun x r => idsC x.cells ++ r) []
def idsH {K : Nat → Type} : List (Nat × Blk K) → List Nat
  | [] => []
  | (_, .var _ cs) :: l => idsC cs ++ idsH l
  | _ :: l => idsH l
def Qip (n : Nat) : List Nat → Bool
  | [] => true
  | a :: l => Nat.blt a n && Qip n l
def allIn (U : List Nat) (lo hi : Nat) : List Nat → Bool
  | [] => true
  | a :: l => (mem a U || (Nat.ble lo a && Nat.blt a hi)) && allIn U lo hi l
def QiB {K : Nat → Type} (P : List (Nat × Blk K)) (lo hi : Nat) : List (Nat × Blk K) → Bool
  | [] => true
  | (i, b) :: l =>
    (match get P i with
    | some b0 =>
      match b, b0 with
      | .var false cs, .var _ cs0 => Nat.beq cs.length cs0.length
      | .var false _, _ => false
      | _, _ => true
    | none =>
      (Nat.ble lo i && Nat.blt i hi) &&
      match b with
      | .var false _ => false
      | _ => true) && QiB P lo hi l
def idsK {K : Nat → Type} (sl : List (Nat × SV K)) : List Nat → List Nat
  | [] => []
  | t :: l =>
    match get sl t with
    | some v => idsF v ++ idsK sl l
    | none => idsK sl l
def Qed {K : Nat → Type} (H : List (Nat × Blk K)) : List Nat → List Nat
  | [] => []
  | i :: l =>
    match get H i with
    | some (.var _ cs) => idsC cs ++ Qed H l
    | _ => Qed H l
def sees {K : Nat → Type} (F : List Nat) (o : Oper) (s : St K) : List Nat := idsK s.slots (tmpsOf o.op.operands.toList) ++ Qed s.heap F
def stays {K : Nat → Type} (F : List Nat) (o : Oper) (s s' : St K) (v : SV K) : Bool :=
  Qip s.nx F && Qip s.nx (sees F o s) && Nat.ble s.nx s'.nx && allIn (sees F o s) s.nx s'.nx (idsF v ++ idsH s'.heap) && QiB s.heap s.nx s'.nx s'.heap
def view {K : Nat → Type} (F : List Nat) (o : Oper) (st : St K) : St K := { slots := keep (tmpsOf o.op.operands.toList) st.slots, heap := part F true st.heap, nx := st.nx }
def Qrk : Op → Bool
  | .move _ | .assign _ | .pick .. | .build .. | .nilCheck _ | .binOp .. | .unOp .. | .fieldAddr .. | .field .. | .extract .. | .makeFunc .. | .index .. => true
  | _ => false
def foot {K : Nat → Type} (o : Oper) (st : St K) : List Nat :=
  match Qrk o.op with
  | true => []
  | false => reach st.heap 1000 (Qlf st o.op.operands.toList) []
def QnD {K : Nat → Type} (F : List Nat) (st st' : St K) : St K := { slots := st.slots, heap := st'.heap ++ part F false st.heap, nx := st'.nx }
def Qap (orc : Orc E) (A : Q04) (ops : Array Oper) : List Nat → List Tr → St E.S.K → (St E.S.K → Option R) → Option R
  | [], tr, st, k => chk (Qm2 ops tr) (k st)
  | i :: rest, tr, st, k =>
    match ops[i]? with
    | some o =>
      Qbs E st ops o
        (fun st =>
          dop E orc A.site (view (foot o st) o st) o fun v st' =>
            chk (stays (foot o st) o (view (foot o st) o st) st' v) <|
            match Q4i (QnD (foot o st) st st') A.fn.ntmps o.dst v with
            | some st'' => Qap orc A ops rest (⟨i, foot o st, loud E A.site (view (foot o st) o st) o, st.nx, st'.nx⟩ :: tr) st'' k
            | none => none)
        (fun st =>
          match Q4i st A.fn.ntmps o.dst (.t []) with
          | some st'' => Qap orc A ops rest tr st'' k
          | none => none)
    | none => none
noncomputable def QaA (orc : Orc E) (A : Q04) (ops : Array Oper) (draw : Bool) (st : St E.S.K) (k : St E.S.K → Option R) : Option R :=
  match draw with
  | true => Qap E orc A ops (List.range ops.size) [] st k
  | false => Q4P E orc A ops (List.range ops.size) st k
noncomputable def run (orc : Orc E) (f m : Nat) (A : Q04) : Nat → List Item → St E.S.K → Option (TL E.S.K (outT E.ann f m))
  | 0, _, _ => none
  | _ + 1, [], st => dRet E f m A st
  | n + 1, it :: k, st =>
    match it with
    | .code .ret => dRet E f m A st
    | .code .skip | .code (.label _) | .inBlock _ | .inScope _ => run orc f m A n k st
    | .code (.seq a b) => run orc f m A n (.code a :: .code b :: k) st
    | .code (.cond c a b) =>
      match Q0F st c with
      | some (.bool t) => sif t (run orc f m A n (.code a :: k) st) (run orc f m A n (.code b :: k) st)
      | some (.lit t) => sel t (run orc f m A n (.code a :: k) st) (run orc f m A n (.code b :: k) st)
      | _ => none
    | .code (.block id b) => run orc f m A n (.code b :: .inBlock id :: k) st
    | .code (.loop b) | .inLoop b => run orc f m A n (.code b :: .inLoop b :: k) st
    | .code (.scope b) => run orc f m A n (.code b :: .inScope b :: k) st
    | .code (.exit id) =>
      match exitTo id k with
      | some k' => run orc f m A n k' st
      | none => none
    | .code (.region id ops draw) =>
      match get A.labels id with
      | some L => Qfz E orc f m id A L st
      | none => QaA E orc A ops draw st fun st => run orc f m A n k st
    | _ => none
def rids : Code → List Nat
  | .region id _ _ => [id]
  | .seq a b => rids a ++ rids b
  | .cond _ a b => rids a ++ rids b
  | .block _ b => rids b
  | .loop b => rids b
  | .scope b => rids b
  | _ => []
def Q1s (r : Nat) : Code → List Item → Option (Array Oper × Bool × List Item)
  | .region id ops draw, k => bif Nat.beq id r then some (ops, draw, k) else none
  | .seq a b, k => match Q1s r a (.code b :: k) with | some x => some x | none => Q1s r b k
  | .cond _ a b, k => match Q1s r a k with | some x => some x | none => Q1s r b k
  | .block id b, k => Q1s r b (.inBlock id :: k)
  | .loop b, k => Q1s r b (.inLoop b :: k)
  | .scope b, k => Q1s r b (.inScope b :: k)
  | _, _ => none
noncomputable def Q5j (orc : Orc E) (j : Job) (d : TL E.S.K (jobT E.ann j)) : Option (TL E.S.K (outT E.ann j.f j.m)) :=
  match E.ann j.f j.m with
  | none => none
  | some A =>
    match A.fn.body with
    | none => none
    | some c =>
      match j.l with
      | none =>
        match build A.inL (encL (jobT E.ann j) d) with
        | some st => run E orc j.f j.m A A.fuel [.code c] st
        | none => none
      | some r =>
        match get A.labels r with
        | some L =>
          match build L (encL (jobT E.ann j) d), Q1s r c [] with
          | some st, some (ops, draw, k) => chk (Nat.ble A.inL.blocks.length L.blocks.length) (QaA E orc A ops draw st fun st => run E orc j.f j.m A A.fuel k st)
          | _, _ => none
        | none => none
end
end Go.Ve
namespace Go.Ve
open Go.RowKit
set_option linter.unusedVariables false
set_option linter.unusedSimpArgs false
structure Loc where
  addr : Option Addr
  len : Nat
  cap : Nat
  sz : Nat
def Loc.b (L : Loc) : Nat := (L.addr.getD ⟨0, 0, none⟩).block
def Loc.o (L : Loc) : Nat := (L.addr.getD ⟨0, 0, none⟩).off
inductive TRep (S : Sig) (Fz : Nat → Prop) (w : World) : Cell S.K → Value → Prop
  | int (k n) : TRep S Fz w (.int k n) (.int k n)
  | bool (b) : TRep S Fz w (.bool b) (.bool b)
  | lit (b) : TRep S Fz w (.lit b) (.bool b)
  | str (s) : TRep S Fz w (.str s) (.string s)
  | arr (e : Nat) (l : List (S.K e)) (a : Option Addr) (cap : Nat) (vals : Nat → Nat → Value) (hcap : l.length ≤ cap) (hn : a = none → l = [])
      (hf : ∀ ad, a = some ad → l ≠ [] → ad.spot = none ∧ Fz ad.block)
      (hv : ∀ (i : Nat) (x : S.K e) (j : Nat) (c : Cell S.K), l[i]? = some x → (S.enc e x)[j]? = some c → ∀ ad, a = some ad → w.cell? ⟨ad.block, ad.off + (i * S.sz e + j), none⟩ = some (vals i j))
      (ht : ∀ (i : Nat) (x : S.K e) (j : Nat) (c : Cell S.K), l[i]? = some x → (S.enc e x)[j]? = some c → TRep S Fz w c (vals i j)) :
      TRep S Fz w (.arr e l) (.slice a l.length cap)
def ptrV (L : Loc) (off : Nat) : Value := .pointer (some ⟨L.b, L.o + off, none⟩)
def Q3e (φ : Nat → Loc) : List (Nat × Nat) → List Value
  | [] => []
  | (i, o) :: l => ptrV (φ i) o :: Q3e φ l
def Q47 (D : Nat → Prop) : List (Nat × Nat) → Prop
  | [] => True
  | (i, _) :: l => D i ∧ Q47 D l
def CRep (S : Sig) (D : Nat → Prop) (φ : Nat → Loc) (Fz : Nat → Prop) (w : World) : Cell S.K → Value → Prop
  | .vec id, v => D id ∧ v = .slice (φ id).addr (φ id).len (φ id).cap
  | .sub id lo hi, v => D id ∧ lo ≤ hi ∧ hi ≤ (φ id).len ∧ (φ id).len ≤ (φ id).cap ∧ ∃ a, v = .slice a (hi - lo) ((φ id).cap - lo) ∧ ((φ id).cap ≠ lo → a = (φ id).addr.map (·.add (lo * (φ id).sz))) ∧ ∀ ad, a = some ad → ∃ ad0, (φ id).addr = some ad0 ∧ ad.block = ad0.block
  | .ptr id off, v => D id ∧ v = ptrV (φ id) off
  | .elt id i off, v => D id ∧ i < (φ id).len ∧ v = ptrV (φ id) (i * (φ id).sz + off)
  | .tpt e x off, v => ∃ b o, v = .pointer (some ⟨b, o + off, none⟩) ∧ Fz b ∧ ∀ (j : Nat) (c : Cell S.K), (S.enc e x)[j]? = some c → ∃ u, w.cell? ⟨b, o + j, none⟩ = some u ∧ TRep S Fz w c u
  | .nils, v => v = .slice none 0 0
  | .nilp, v => v = .pointer none
  | .nofn, v => v = .nilFunc
  | .fn f caps, v => Q47 D caps ∧ v = .func (.func f) #[] (Q3e φ caps).toArray
  | .self id, v => D id ∧ ((φ id).o = 0 ∧ ∃ T, S.bt = some T ∧ w.shape? (φ id).b = some (T, 2)) ∧ (v = .pointer none ∨ v = ptrV (φ id) 0)
  | .undef, _ => True
  | c, v => TRep S Fz w c v
def cellsOf {K : Nat → Type} (L : Loc) : Blk K → Nat → Nat → Prop
  | .var _ cs, k, o => k = L.b ∧ L.o ≤ o ∧ o < L.o + cs.length
  | .vec _ _ _, k, _ => L.cap ≠ 0 ∧ k = L.b
def Blk.own {K : Nat → Type} : Blk K → Bool
  | .var b _ => b
  | .vec b _ _ => b
def BRep (S : Sig) (D : Nat → Prop) (φ : Nat → Loc) (Fz : Nat → Prop) (w : World) (L : Loc) : Blk S.K → Prop
  | .var own cs => L.addr = some ⟨L.b, L.o, none⟩ ∧ ∀ (j : Nat) (c : Cell S.K), cs[j]? = some c → ∃ u, w.cell? ⟨L.b, L.o + j, none⟩ = some u ∧ CRep S D φ Fz w c u ∧ (own = true → w.frozen? ⟨L.b, L.o + j, none⟩ = false)
  | .vec own e l => L.len = l.length ∧ L.sz = S.sz e ∧ l.length ≤ L.cap ∧ (∀ ad, L.addr = some ad → (w.shape? ad.block).isSome = true) ∧
      (L.cap ≠ 0 → L.addr = some ⟨L.b, L.o, none⟩ ∧ (own = false → Fz L.b) ∧
        ∃ cur el fz, w.heap[L.b]? = some (.cells cur el fz) ∧ el = e ∧ L.o + L.cap * S.sz e ≤ cur.size ∧
          (own = true → ∀ k, L.o ≤ k → k < L.o + L.cap * S.sz e → ¬ (fz.1 ≤ k ∧ k < fz.2)) ∧
          ∀ (i : Nat) (x : S.K e) (j : Nat) (c : Cell S.K), l[i]? = some x → (S.enc e x)[j]? = some c → ∃ u, cur[L.o + (i * S.sz e + j)]? = some u ∧ TRep S Fz w c u)
def Q7l (l : List (Nat × (List Value → Prop))) (Fz : Nat → Prop) (w : World) : Prop := ∀ x ∈ l, Fz x.1 ∧ ∃ cs el fz, w.heap[x.1]? = some (.cells cs el fz) ∧ x.2 cs.toList
structure Rel (S : Sig) (D : Nat → Prop) (φ : Nat → Loc) (Fz : Nat → Prop) (H : List (Nat × Blk S.K)) (w : World) : Prop where
  dom : ∀ id b, get H id = some b → D id
  rep : ∀ id b, get H id = some b → BRep S D φ Fz w (φ id) b
  dis : ∀ id id' b b', get H id = some b → get H id' = some b' → id ≠ id' → b.own = true → ∀ k o, cellsOf (φ id) b k o → ¬ cellsOf (φ id') b' k o
  fz : ∀ id b, get H id = some b → b.own = true → ∀ k o, cellsOf (φ id) b k o → ¬ Fz k
  lt : ∀ k, Fz k → k < w.heap.size
  inv : Q7l S.fixd Fz w
def OC {K : Nat → Type} (φ : Nat → Loc) (H : List (Nat × Blk K)) (k o : Nat) : Prop := ∃ id b, get H id = some b ∧ b.own = true ∧ cellsOf (φ id) b k o
structure Chg (O : Nat → Nat → Prop) (w w' : World) : Prop where
  os : w'.os = w.os
  tape : w'.tape = w.tape
  output : w'.output = w.output
  size : w.heap.size ≤ w'.heap.size
  cell : ∀ k o, k < w.heap.size → ¬ O k o → w'.cell? ⟨k, o, none⟩ = w.cell? ⟨k, o, none⟩ ∧ w'.frozen? ⟨k, o, none⟩ = w.frozen? ⟨k, o, none⟩
  blk : ∀ k, k < w.heap.size → (∀ o, ¬ O k o) → w'.heap[k]? = w.heap[k]?
  shape : ∀ k, k < w.heap.size → w'.shape? k = w.shape? k
theorem Q3c {w w' : World} {k : Nat} (h : w'.heap[k]? = w.heap[k]?) : w'.shape? k = w.shape? k := by unfold World.shape?; rw [h]
theorem Chg.refl (O : Nat → Nat → Prop) (w : World) : Chg O w w := ⟨rfl, rfl, rfl, Nat.le_refl _, fun _ _ _ _ => ⟨rfl, rfl⟩, fun _ _ _ => rfl, fun _ _ => rfl⟩
theorem Chg.trans {O : Nat → Nat → Prop} {a b c : World} (h : Chg O a b) (h' : Chg O b c) : Chg O a c :=
  ⟨h'.os.trans h.os, h'.tape.trans h.tape, h'.output.trans h.output, Nat.le_trans h.size h'.size,
   fun k o hk ho => ⟨(h'.cell k o (Nat.lt_of_lt_of_le hk h.size) ho).1.trans (h.cell k o hk ho).1, (h'.cell k o (Nat.lt_of_lt_of_le hk h.size) ho).2.trans (h.cell k o hk ho).2⟩,
   fun k hk ho => (h'.blk k (Nat.lt_of_lt_of_le hk h.size) ho).trans (h.blk k hk ho), fun k hk => (h'.shape k (Nat.lt_of_lt_of_le hk h.size)).trans (h.shape k hk)⟩
theorem Chg.mono {O O' : Nat → Nat → Prop} {a b : World} (h : Chg O a b) (hO : ∀ k o, k < a.heap.size → O k o → O' k o) : Chg O' a b :=
  ⟨h.os, h.tape, h.output, h.size, fun k o hk ho => h.cell k o hk (fun x => ho (hO k o hk x)), fun k hk ho => h.blk k hk (fun o x => ho o (hO k o hk x)), h.shape⟩
theorem Chg.trans' {O O' : Nat → Nat → Prop} {a b c : World} (h : Chg O a b) (h' : Chg O' b c) (hO : ∀ k o, k < a.heap.size → O' k o → O k o) : Chg O a c :=
  ⟨h'.os.trans h.os, h'.tape.trans h.tape, h'.output.trans h.output, Nat.le_trans h.size h'.size,
   fun k o hk ho => ⟨(h'.cell k o (Nat.lt_of_lt_of_le hk h.size) (fun x => ho (hO k o hk x))).1.trans (h.cell k o hk ho).1, (h'.cell k o (Nat.lt_of_lt_of_le hk h.size) (fun x => ho (hO k o hk x))).2.trans (h.cell k o hk ho).2⟩,
   fun k hk ho => (h'.blk k (Nat.lt_of_lt_of_le hk h.size) (fun o x => ho o (hO k o hk x))).trans (h.blk k hk ho), fun k hk => (h'.shape k (Nat.lt_of_lt_of_le hk h.size)).trans (h.shape k hk)⟩
theorem Chg.drew (O : Nat → Nat → Prop) (w : World) : Chg O w w.drew := ⟨rfl, rfl, rfl, Nat.le_refl _, fun _ _ _ _ => ⟨rfl, rfl⟩, fun _ _ _ => rfl, fun _ _ => rfl⟩
theorem Chg.alloc (O : Nat → Nat → Prop) (w : World) (o : Obj) : Chg O w (w.alloc o) := by
  have hb : ∀ k, k < w.heap.size → (w.alloc o).heap[k]? = w.heap[k]? := fun k hk => Below.heap_alloc w o k hk
  exact ⟨rfl, rfl, rfl, by simp, fun k x hk _ => ⟨World.cell?_of_block (hb k hk), World.frozen?_of_block (hb k hk)⟩, fun k hk _ => hb k hk, fun k hk => Q3c (hb k hk)⟩
theorem lt_of_cell {w : World} {k o : Nat} {u : Value} (h : w.cell? ⟨k, o, none⟩ = some u) : k < w.heap.size := World.block_lt_of_cell? w _ h
theorem Qgx {w : World} {k : Nat} {x : TypeId × Nat} (h : w.shape? k = some x) : k < w.heap.size := by
  rcases Nat.lt_or_ge k w.heap.size with h' | h'
  · exact h'
  · unfold World.shape? at h; rw [Array.getElem?_eq_none h'] at h; cases h
theorem lt_of_heap {w : World} {k : Nat} {o : Obj} (h : w.heap[k]? = some o) : k < w.heap.size := (Array.getElem?_eq_some_iff.1 h).1
theorem Q7l.keep {l : List (Nat × (List Value → Prop))} {Fz Fz' : Nat → Prop} {w w' : World} {O : Nat → Nat → Prop} (hC : Chg O w w') (hO : ∀ k o, O k o → ¬ Fz k) (hF : ∀ k, Fz k → Fz' k) (h : Q7l l Fz w) : Q7l l Fz' w' :=
  fun x hx => let ⟨h1, cs, el, fz, h2, h3⟩ := h x hx; ⟨hF _ h1, cs, el, fz, (hC.blk x.1 (lt_of_heap h2) (fun o ho => hO _ _ ho h1)).trans h2, h3⟩
theorem TRep.keep {S : Sig} {Fz Fz' : Nat → Prop} {w w' : World} {O : Nat → Nat → Prop} (hC : Chg O w w') (hO : ∀ k o, O k o → ¬ Fz k) (hF : ∀ k, Fz k → Fz' k) {c : Cell S.K} {v : Value} (h : TRep S Fz w c v) : TRep S Fz' w' c v := by
  induction h with
  | int k n => exact .int k n
  | bool b => exact .bool b
  | lit b => exact .lit b
  | str s => exact .str s
  | arr e l a cap vals hcap hn hf hv _ ih =>
    refine .arr e l a cap vals hcap hn (fun ad ha hl => ⟨(hf ad ha hl).1, hF _ (hf ad ha hl).2⟩) (fun i x j c hx hc ad ha => ?_) ih
    have h1 := hv i x j c hx hc ad ha
    have hl : l ≠ [] := by rintro rfl; simp at hx
    rw [(hC.cell _ _ (lt_of_cell h1) (fun ho => hO _ _ ho (hf ad ha hl).2)).1]
    exact h1
theorem Qgo {D : Nat → Prop} {φ φ' : Nat → Loc} (h : ∀ i, D i → φ' i = φ i) : ∀ l, Q47 D l → Q3e φ' l = Q3e φ l
  | [], _ => rfl
  | (i, o) :: l, hd => by simp only [Q3e]; rw [h i hd.1, Qgo h l hd.2]
theorem Qgu {D D' : Nat → Prop} (h : ∀ i, D i → D' i) : ∀ l, Q47 D l → Q47 D' l
  | [], _ => trivial
  | (_, _) :: l, hd => ⟨h _ hd.1, Qgu h l hd.2⟩
theorem CRep.keep {S : Sig} {D D' : Nat → Prop} {φ φ' : Nat → Loc} {Fz Fz' : Nat → Prop} {w w' : World} {O : Nat → Nat → Prop}
    (hC : Chg O w w') (hO : ∀ k o, O k o → ¬ Fz k) (hF : ∀ k, Fz k → Fz' k) (hD : ∀ i, D i → D' i) (hφ : ∀ i, D i → φ' i = φ i)
    {c : Cell S.K} {v : Value} (h : CRep S D φ Fz w c v) : CRep S D' φ' Fz' w' c v := by
  cases c with
  | vec id => exact ⟨hD _ h.1, by rw [hφ _ h.1]; exact h.2⟩
  | sub id lo hi => obtain ⟨hd, h1⟩ := h; exact ⟨hD _ hd, by rw [hφ _ hd]; exact h1⟩
  | ptr id off => exact ⟨hD _ h.1, by rw [hφ _ h.1]; exact h.2⟩
  | elt id i off => exact ⟨hD _ h.1, by rw [hφ _ h.1]; exact h.2⟩
  | tpt e x off =>
    obtain ⟨b, o, hv, hb, hc⟩ := h
    refine ⟨b, o, hv, hF _ hb, fun j c hj => ?_⟩
    obtain ⟨u, hu, ht⟩ := hc j c hj
    exact ⟨u, by rw [(hC.cell _ _ (lt_of_cell hu) (fun ho => hO _ _ ho hb)).1]; exact hu, ht.keep hC hO hF⟩
  | nils => exact h
  | nilp => exact h
  | nofn => exact h
  | fn f caps => exact ⟨Qgu hD _ h.1, by rw [Qgo hφ _ h.1]; exact h.2⟩
  | self id =>
    obtain ⟨hd, ⟨h0, T, hT, hs⟩, hv⟩ := h
    refine ⟨hD _ hd, ?_⟩
    rw [hφ _ hd]
    exact ⟨⟨h0, T, hT, (hC.shape _ (Qgx hs)).trans hs⟩, hv⟩
  | undef => trivial
  | int k n => exact TRep.keep hC hO hF h
  | bool b => exact TRep.keep hC hO hF h
  | lit b => exact TRep.keep hC hO hF h
  | str s => exact TRep.keep hC hO hF h
  | arr e l => exact TRep.keep hC hO hF h
theorem BRep.keep {S : Sig} {D D' : Nat → Prop} {φ φ' : Nat → Loc} {Fz Fz' : Nat → Prop} {w w' : World} {O : Nat → Nat → Prop} {L : Loc} {b : Blk S.K}
    (hC : Chg O w w') (hO : ∀ k o, O k o → ¬ Fz k) (hF : ∀ k, Fz k → Fz' k) (hD : ∀ i, D i → D' i) (hφ : ∀ i, D i → φ' i = φ i)
    (hT : ∀ k o, cellsOf L b k o → ¬ O k o) (h : BRep S D φ Fz w L b) : BRep S D' φ' Fz' w' L b := by
  cases b with
  | var own cs =>
    refine ⟨h.1, fun j c hj => ?_⟩
    obtain ⟨u, hu, hr, hf⟩ := h.2 j c hj
    have hlt : j < cs.length := (List.getElem?_eq_some_iff.1 hj).1
    have := hC.cell L.b (L.o + j) (lt_of_cell hu) (hT _ _ ⟨rfl, by omega, by omega⟩)
    exact ⟨u, by rw [this.1]; exact hu, hr.keep hC hO hF hD hφ, fun ho => by rw [this.2]; exact hf ho⟩
  | vec own e l =>
    refine ⟨h.1, h.2.1, h.2.2.1, fun ad had => ?_, fun hc => ?_⟩
    · have h4 := h.2.2.2.1 ad had
      obtain ⟨x, hx⟩ := Option.isSome_iff_exists.1 h4
      rw [hC.shape _ (Qgx hx)]; exact h4
    obtain ⟨ha, hz, cur, el, fz, hh, he, hs, hu, hcells⟩ := h.2.2.2.2 hc
    refine ⟨ha, fun ho => hF _ (hz ho), cur, el, fz, ?_, he, hs, hu, fun i x j c hx hj => ?_⟩
    · rw [hC.blk L.b (lt_of_heap hh) (fun o => hT _ _ ⟨hc, rfl⟩)]; exact hh
    · obtain ⟨u, hu, ht⟩ := hcells i x j c hx hj
      exact ⟨u, hu, ht.keep hC hO hF⟩
inductive All2 {α β : Type} (R : α → β → Prop) : List α → List β → Prop
  | nil : All2 R [] []
  | cons {a b l l'} (h : R a b) (t : All2 R l l') : All2 R (a :: l) (b :: l')
def FRep (S : Sig) (D : Nat → Prop) (φ : Nat → Loc) (Fz : Nat → Prop) (w : World) : FV S.K → Value → Prop
  | .c c, v => CRep S D φ Fz w c v
  | .a cs, v => ∃ vs : List Value, v = .agg vs.toArray ∧ All2 (CRep S D φ Fz w) cs vs
def SRep (S : Sig) (D : Nat → Prop) (φ : Nat → Loc) (Fz : Nat → Prop) (w : World) : SV S.K → Value → Prop
  | .v x, v => FRep S D φ Fz w x v
  | .t xs, v => ∃ vs : List Value, v = .tuple vs.toArray ∧ All2 (FRep S D φ Fz w) xs vs
def Qal (S : Sig) (D : Nat → Prop) (φ : Nat → Loc) (Fz : Nat → Prop) (w : World) (sl : List (Nat × SV S.K)) (T : Array Value) : Prop :=
  ∀ t v, get sl t = some v → SRep S D φ Fz w v (T.getD t undef)
theorem Q2B {α β : Type} {R R' : α → β → Prop} (h : ∀ a b, R a b → R' a b) {l : List α} {l' : List β} (x : All2 R l l') : All2 R' l l' := by
  induction x with
  | nil => exact .nil
  | cons a _ ih => exact .cons (h _ _ a) ih
section
variable {S : Sig} {D D' : Nat → Prop} {φ φ' : Nat → Loc} {Fz Fz' : Nat → Prop} {w w' : World} {O : Nat → Nat → Prop}
    (hC : Chg O w w') (hO : ∀ k o, O k o → ¬ Fz k) (hF : ∀ k, Fz k → Fz' k) (hD : ∀ i, D i → D' i) (hφ : ∀ i, D i → φ' i = φ i)
include hC hO hF hD hφ
theorem FRep.keep {x : FV S.K} {v : Value} (h : FRep S D φ Fz w x v) : FRep S D' φ' Fz' w' x v := by
  cases x with
  | c c => exact CRep.keep hC hO hF hD hφ h
  | a cs => obtain ⟨vs, rfl, h⟩ := h; exact ⟨vs, rfl, Q2B (fun _ _ => CRep.keep hC hO hF hD hφ) h⟩
theorem SRep.keep {x : SV S.K} {v : Value} (h : SRep S D φ Fz w x v) : SRep S D' φ' Fz' w' x v := by
  cases x with
  | v x => exact FRep.keep hC hO hF hD hφ h
  | t xs => obtain ⟨vs, rfl, h⟩ := h; exact ⟨vs, rfl, Q2B (fun _ _ => FRep.keep hC hO hF hD hφ) h⟩
theorem Qal.keep {sl : List (Nat × SV S.K)} {T : Array Value} (h : Qal S D φ Fz w sl T) : Qal S D' φ' Fz' w' sl T :=
  fun t v hv => SRep.keep hC hO hF hD hφ (h t v hv)
end
theorem Qfd {a b : Nat} (h : a ≠ b) : Nat.beq a b = false := by
  cases hb : Nat.beq a b with
  | false => rfl
  | true => exact absurd (Nat.eq_of_beq_eq_true hb) h
theorem Q03 {a b : Nat} (h : Nat.beq a b = true) : a = b := Nat.eq_of_beq_eq_true h
theorem Qw {α : Type} (t t' : Nat) (v : α) (l : List (Nat × α)) : get ((t, v) :: l) t' = if t' = t then some v else get l t' := by
  simp only [get]
  by_cases h : t = t'
  · subst h; simp
  · rw [Qfd h, if_neg (fun e => h e.symm)]; rfl
theorem get_put {α : Type} (t t' : Nat) (v : α) : ∀ l : List (Nat × α), get (put l t v) t' = if t' = t then some v else get l t'
  | [] => by rw [put, Qw]
  | (a, u) :: r => by
    rw [put]
    by_cases h : a = t
    · subst h
      rw [Nat.beq_refl, cond_true, Qw, Qw]
      by_cases h' : t' = a
      · rw [if_pos h', if_pos h']
      · rw [if_neg h', if_neg h', if_neg h']
    · rw [Qfd h, cond_false, Qw, get_put t t' v r, Qw]
      by_cases h' : t' = a
      · rw [if_pos h', if_pos h', if_neg (fun e => h (h'.symm.trans e))]
      · rw [if_neg h', if_neg h']
theorem QbC {α : Type} (t t' : Nat) : ∀ l : List (Nat × α), get (del l t) t' = if t' = t then none else get l t'
  | [] => by simp [del, get]
  | (a, u) :: r => by
    rw [del]
    by_cases h : a = t
    · subst h
      rw [Nat.beq_refl, cond_true, QbC a t' r, Qw]
      by_cases h' : t' = a
      · rw [if_pos h', if_pos h']
      · rw [if_neg h', if_neg h', if_neg h']
    · rw [Qfd h, cond_false, Qw, QbC t t' r, Qw]
      by_cases h' : t' = a
      · rw [if_pos h', if_pos h', if_neg (fun e => h (h'.symm.trans e))]
      · rw [if_neg h', if_neg h']
theorem mem_iff (t : Nat) : ∀ l, mem t l = true ↔ t ∈ l
  | [] => by simp [mem]
  | a :: r => by
    rw [mem]
    by_cases h : a = t
    · subst h; simp
    · rw [Qfd h, cond_false, mem_iff t r]
      exact ⟨fun x => List.mem_cons_of_mem _ x, fun x => (List.mem_cons.1 x).resolve_left (fun e => h e.symm)⟩
theorem Qal.put {S : Sig} {D : Nat → Prop} {φ : Nat → Loc} {Fz : Nat → Prop} {w : World} {sl : List (Nat × SV S.K)} {T : Array Value}
    (h : Qal S D φ Fz w sl T) {d : Nat} (hd : d < T.size) {v : SV S.K} {u : Value} (hv : SRep S D φ Fz w v u) :
    Qal S D φ Fz w (Ve.put sl d v) (T.setIfInBounds d u) := by
  intro t x hx
  rw [get_put] at hx
  by_cases ht : t = d
  · subst ht
    simp only [if_true] at hx
    cases hx
    simpa [hd] using hv
  · rw [if_neg ht] at hx
    have := h t x hx
    rwa [Array.getD_eq_getD_getElem?, Array.getElem?_setIfInBounds_ne (Ne.symm ht), ← Array.getD_eq_getD_getElem?]
end Go.Ve
namespace Go.Ve
open Go.RowKit
set_option linter.unusedVariables false
set_option linter.unusedSimpArgs false
theorem Q3t {w : World} {b : Nat} {cur : Array Value} {el : TypeId} {fz : Nat × Nat} (h : w.heap[b]? = some (.cells cur el fz)) (o : Nat) : w.cell? ⟨b, o, none⟩ = cur[o]? := by
  simp [World.cell?, h]
theorem add_lit (b o n : Nat) : (⟨b, o, none⟩ : Addr).add n = ⟨b, o + n, none⟩ := by
  unfold Addr.add
  split
  · next h => subst h; rfl
  · rfl
theorem TRep.fz {S : Sig} {Fz Fz' : Nat → Prop} {w : World} (hF : ∀ k, Fz k → Fz' k) {c : Cell S.K} {v : Value} (h : TRep S Fz w c v) : TRep S Fz' w c v :=
  h.keep (Chg.refl (fun _ _ => False) w) (fun _ _ h => h.elim) hF
theorem CRep.more {S : Sig} {D D' : Nat → Prop} {φ φ' : Nat → Loc} {Fz Fz' : Nat → Prop} {w : World} (hF : ∀ k, Fz k → Fz' k) (hD : ∀ i, D i → D' i) (hφ : ∀ i, D i → φ' i = φ i) {c : Cell S.K} {v : Value} (h : CRep S D φ Fz w c v) : CRep S D' φ' Fz' w c v :=
  h.keep (Chg.refl (fun _ _ => False) w) (fun _ _ h => h.elim) hF hD hφ
section
variable {S : Sig} (D : Nat → Prop) (φ : Nat → Loc) (Fz : Nat → Prop) (H : List (Nat × Blk S.K)) (w : World) (bs : List BS)
def szAt (S : Sig) (bs : List BS) (i : Nat) : Nat := match bs[i]? with | some (.vec e) => S.sz e | _ => 0
def QiK (i : Nat) : Src S.K → Loc → Prop
  | .whole id, L => D id ∧ L = φ id
  | .subv id lo hi, L => D id ∧ lo ≤ hi ∧ hi ≤ (φ id).len ∧ (φ id).len ≤ (φ id).cap ∧ L.len = hi - lo ∧ L.cap = (φ id).cap - lo ∧ L.sz = (φ id).sz ∧ ((φ id).cap ≠ lo → L.addr = (φ id).addr.map (·.add (lo * (φ id).sz))) ∧ ∀ ad, L.addr = some ad → ∃ ad0, (φ id).addr = some ad0 ∧ ad.block = ad0.block
  | .nilv, L => L = ⟨none, 0, 0, szAt S bs i⟩
  | .part id off, L => D id ∧ L.addr = some ⟨(φ id).b, (φ id).o + off, none⟩
  | .row cs, L => L.addr = some ⟨L.b, L.o, none⟩ ∧ Fz L.b ∧ ∀ (j : Nat) (c : Cell S.K), cs[j]? = some c → ∃ u, w.cell? ⟨L.b, L.o + j, none⟩ = some u ∧ TRep S Fz w c u
def Fits (ψ : Nat → Loc) (m : List (Nat × Src S.K)) : Prop := ∀ i s, get m i = some s → QiK D φ Fz w bs i s (ψ i)
def Bd (m : List (Nat × Src S.K)) (i : Nat) : Prop := ∃ s, get m i = some s
def FzA (fr : List Nat) (k : Nat) : Prop := Fz k ∨ ∃ id, id ∈ fr ∧ ∃ own e l, get H id = some (.vec own e l) ∧ (φ id).cap ≠ 0 ∧ k = (φ id).b
structure Ext (ψ : Nat → Loc) (m : Mp S.K) (ψ' : Nat → Loc) (m' : Mp S.K) : Prop where
  src : ∀ i s, get m.src i = some s → get m'.src i = some s
  eq : ∀ i, Bd m.src i → ψ' i = ψ i
  fits : Fits D φ Fz w bs ψ' m'.src
  fr : ∀ id, id ∈ m.fr → id ∈ m'.fr
def BdN (n : List BS) (m : List (Nat × Src S.K)) (i : Nat) : Prop := Bd m i ∧ i < n.length
end
theorem Qec {n : List BS} {i : Nat} (h : isVar n i = true) : i < n.length := by
  unfold isVar at h
  split at h
  · next hb => exact (List.getElem?_eq_some_iff.1 hb).1
  · cases h
theorem QgM {n : List BS} {i : Nat} (h : QfI n i = true) : i < n.length := by
  unfold QfI at h
  split at h
  · next hb => exact (List.getElem?_eq_some_iff.1 hb).1
  · cases h
theorem Qkh {n : List BS} {D : Nat → Prop} : ∀ {l : List (Nat × Nat)}, Qdo n l = true → Q47 D l → Q47 (fun i => D i ∧ i < n.length) l
  | [], _, _ => trivial
  | (_, _) :: l, h, hd => by
    simp only [Qdo, Bool.and_eq_true] at h
    exact ⟨⟨hd.1, Qec h.1⟩, Qkh h.2 hd.2⟩
section
variable {S : Sig} {D : Nat → Prop} {φ : Nat → Loc} {Fz : Nat → Prop} {H : List (Nat × Blk S.K)} {w : World} {bs : List BS}
theorem Ext.bd {ψ : Nat → Loc} {m : Mp S.K} {ψ' : Nat → Loc} {m' : Mp S.K} (h : Ext D φ Fz w bs ψ m ψ' m') (i : Nat) (hi : Bd m.src i) : Bd m'.src i := let ⟨s, hs⟩ := hi; ⟨s, h.src i s hs⟩
theorem Ext.bdN {n : List BS} {ψ : Nat → Loc} {m : Mp S.K} {ψ' : Nat → Loc} {m' : Mp S.K} (h : Ext D φ Fz w bs ψ m ψ' m') (i : Nat) (hi : BdN n m.src i) : BdN n m'.src i := ⟨h.bd i hi.1, hi.2⟩
theorem Ext.refl {ψ : Nat → Loc} {m : Mp S.K} (h : Fits D φ Fz w bs ψ m.src) : Ext D φ Fz w bs ψ m ψ m := ⟨fun _ _ h => h, fun _ _ => rfl, h, fun _ h => h⟩
theorem Ext.trans {ψ ψ' ψ'' : Nat → Loc} {m m' m'' : Mp S.K} (h : Ext D φ Fz w bs ψ m ψ' m') (h' : Ext D φ Fz w bs ψ' m' ψ'' m'') : Ext D φ Fz w bs ψ m ψ'' m'' :=
  ⟨fun i s hi => h'.src i s (h.src i s hi), fun i hi => (h'.eq i (h.bd i hi)).trans (h.eq i hi), h'.fits, fun id hi => h'.fr id (h.fr id hi)⟩
theorem FzA.mono {fr fr' : List Nat} (h : ∀ id, id ∈ fr → id ∈ fr') (k : Nat) (hk : FzA φ Fz H fr k) : FzA φ Fz H fr' k :=
  hk.imp id fun ⟨id, hi, r⟩ => ⟨id, h id hi, r⟩
theorem Qh6 {ψ : Nat → Loc} {m : Mp S.K} (hf : Fits D φ Fz w bs ψ m.src) {i : Nat} (hi : get m.src i = none) {s : Src S.K} {L : Loc} (hs : QiK D φ Fz w bs i s L) :
    ∃ ψ', Ext D φ Fz w bs ψ m ψ' { m with src := put m.src i s } ∧ Bd (put m.src i s) i ∧ ψ' i = L := by
  refine ⟨fun j => if j = i then L else ψ j, ⟨fun j s' hj => ?_, fun j ⟨s', hj⟩ => ?_, fun j s' hj => ?_, fun _ h => h⟩, ⟨s, by rw [get_put, if_pos rfl]⟩, if_pos rfl⟩
  · have : j ≠ i := by rintro rfl; rw [hi] at hj; cases hj
    show get (put m.src i s) j = _; rw [get_put, if_neg this]; exact hj
  · have : j ≠ i := by rintro rfl; rw [hi] at hj; cases hj
    exact if_neg this
  · change get (put m.src i s) j = some s' at hj
    rw [get_put] at hj
    by_cases h : j = i
    · subst h
      simp only [if_true] at hj ⊢
      cases hj
      exact hs
    · rw [if_neg h] at hj
      simp only [if_neg h]
      exact hf j s' hj
theorem QlV {ψ : Nat → Loc} {m m' : Mp S.K} (hf : Fits D φ Fz w bs ψ m.src) {i id : Nat} (h : Qfp i id m = some m') (hd : D id) :
    ∃ ψ', Ext D φ Fz w bs ψ m ψ' m' ∧ Bd m'.src i ∧ ψ' i = φ id := by
  unfold Qfp at h
  split at h
  · next hi => cases h; exact Qh6 hf hi ⟨hd, rfl⟩
  · next id' hi =>
    cases hb : Nat.beq id id' with
    | false => rw [hb] at h; cases h
    | true =>
      rw [hb] at h; cases h
      exact ⟨ψ, Ext.refl hf, ⟨_, hi⟩, by rw [Q03 hb]; exact (hf i _ hi).2⟩
  · cases h
theorem QcZ {ψ : Nat → Loc} {m m' : Mp S.K} (hf : Fits D φ Fz w bs ψ m.src) {i id off : Nat} (h : Qcb i id off m = some m') (hd : D id) :
    ∃ ψ', Ext D φ Fz w bs ψ m ψ' m' ∧ Bd m'.src i ∧ (ψ' i).addr = some ⟨(φ id).b, (φ id).o + off, none⟩ := by
  unfold Qcb at h
  split at h
  · next hi =>
    cases h
    obtain ⟨ψ', h1, h2, h3⟩ := Qh6 hf hi (s := .part id off) (L := ⟨some ⟨(φ id).b, (φ id).o + off, none⟩, 0, 0, 0⟩) ⟨hd, rfl⟩
    exact ⟨ψ', h1, h2, by rw [h3]⟩
  · next id' off' hi =>
    cases hb : Nat.beq id id' && Nat.beq off off' with
    | false => rw [hb] at h; cases h
    | true =>
      rw [hb] at h; cases h
      simp only [Bool.and_eq_true] at hb
      exact ⟨ψ, Ext.refl hf, ⟨_, hi⟩, by rw [Q03 hb.1, Q03 hb.2]; exact (hf i _ hi).2⟩
  · cases h
theorem Qei {ψ : Nat → Loc} {m m' : Mp S.K} (hf : Fits D φ Fz w bs ψ m.src) {i : Nat} {s : Src S.K} (h : QdD i s m = some m') {L : Loc} (hs : QiK D φ Fz w bs i s L) :
    ∃ ψ', Ext D φ Fz w bs ψ m ψ' m' ∧ Bd m'.src i ∧ ψ' i = L := by
  unfold QdD at h
  split at h
  · next hi => cases h; exact Qh6 hf hi hs
  · cases h
theorem Q6W {L : Loc} {b o : Nat} (h : L.addr = some ⟨b, o, none⟩) : L.b = b ∧ L.o = o := by simp [Loc.b, Loc.o, h]
theorem Qjh {L L' : Loc} {n : Nat} (h : L'.addr = some ⟨L.b, L.o + n, none⟩) (k : Nat) : ptrV L' k = ptrV L (n + k) := by
  simp [ptrV, (Q6W h).1, (Q6W h).2, Nat.add_assoc]
theorem Qgm : ∀ (caps caps' : List (Nat × Nat)) {ψ : Nat → Loc} {m m' : Mp S.K}, Fits D φ Fz w bs ψ m.src → Qa0 caps caps' m = some m' → Q47 D caps' →
    ∃ ψ', Ext D φ Fz w bs ψ m ψ' m' ∧ Q47 (Bd m'.src) caps ∧ Q3e ψ' caps = Q3e φ caps'
  | [], [], ψ, m, m', hf, h, _ => by cases h; exact ⟨ψ, Ext.refl hf, trivial, rfl⟩
  | (i, o) :: l, (id, o') :: l', ψ, m, m', hf, h, hd => by
    simp only [Qa0] at h
    cases hb : Nat.ble o o' with
    | false => rw [hb] at h; cases h
    | true =>
      rw [hb] at h
      simp only [cond_true] at h
      split at h
      · next m1 h1 =>
        obtain ⟨ψ1, e1, b1, a1⟩ := QcZ hf h1 hd.1
        obtain ⟨ψ2, e2, b2, a2⟩ := Qgm l l' e1.fits h hd.2
        refine ⟨ψ2, e1.trans e2, ⟨e2.bd i b1, b2⟩, ?_⟩
        simp only [Q3e, a2, e2.eq i b1]
        rw [Qjh a1, Nat.sub_add_cancel (Nat.le_of_ble_eq_true hb)]
      · cases h
  | [], _ :: _, _, _, _, _, h, _ => by simp [Qa0] at h
  | _ :: _, [], _, _, _, _, h, _ => by simp [Qa0] at h
theorem Qkg {Fz' : Nat → Prop} (hF : ∀ k, Fz k → Fz' k) {L : Loc} {own : Bool} {e : Nat} {l : List (S.K e)} (h : BRep S D φ Fz w L (.vec own e l)) (hb : L.cap ≠ 0 → Fz' L.b) :
    TRep S Fz' w (.arr e l) (.slice L.addr L.len L.cap) := by
  obtain ⟨hl, hz, hc, _, hr⟩ := h
  rw [hl]
  by_cases h0 : L.cap = 0
  · have : l = [] := List.eq_nil_of_length_eq_zero (by omega)
    subst this
    exact .arr e [] _ _ (fun _ _ => undef) (by omega) (fun _ => rfl) (fun _ _ h => absurd rfl h) (fun i x j c hx => by simp at hx) (fun i x j c hx => by simp at hx)
  · obtain ⟨ha, _, cur, el, fz, hh, _, _, _, hcells⟩ := hr h0
    refine .arr e l _ _ (fun i j => (cur[L.o + (i * S.sz e + j)]?).getD undef) hc (fun h => by rw [ha] at h; cases h) (fun ad h _ => ?_) (fun i x j c hx hj ad h => ?_) (fun i x j c hx hj => ?_)
    · rw [ha] at h; cases h; exact ⟨rfl, hb h0⟩
    · rw [ha] at h; cases h
      obtain ⟨u, hu, _⟩ := hcells i x j c hx hj
      show w.cell? ⟨L.b, L.o + (i * S.sz e + j), none⟩ = _
      rw [Q3t hh, hu]; rfl
    · obtain ⟨u, hu, ht⟩ := hcells i x j c hx hj
      rw [hu]; exact ht.fz hF
theorem QaU {α : Type} (l : List α) (lo hi i : Nat) (x : α) (h : ((l.take hi).drop lo)[i]? = some x) : l[lo + i]? = some x ∧ lo + i < hi := by
  rw [List.getElem?_drop, List.getElem?_take] at h
  split at h
  · exact ⟨h, by omega⟩
  · cases h
theorem Qev {α : Type} (l : List α) (lo hi : Nat) (h : hi ≤ l.length) : ((l.take hi).drop lo).length = hi - lo := by
  rw [List.length_drop, List.length_take, Nat.min_eq_left h]
theorem QqC {a b s : Nat} (h : a ≤ b) : a * s + (b - a) * s = b * s := by rw [← Nat.add_mul]; congr 1; omega
theorem BRep.subv {L L' : Loc} {own : Bool} {e : Nat} {l : List (S.K e)} (h : BRep S D φ Fz w L (.vec own e l)) {lo hi : Nat} (h1 : lo ≤ hi) (h2 : hi ≤ L.len)
    (hl : L'.len = hi - lo) (hc : L'.cap = L.cap - lo) (hz : L'.sz = L.sz) (ha : (L.cap ≠ lo → L'.addr = L.addr.map (·.add (lo * L.sz))) ∧ ∀ ad, L'.addr = some ad → ∃ ad0, L.addr = some ad0 ∧ ad.block = ad0.block) :
    BRep S D φ Fz w L' (.vec own e ((l.take hi).drop lo)) := by
  obtain ⟨hlen, hsz, hcap, hsh, hr⟩ := h
  have hll : ((l.take hi).drop lo).length = hi - lo := Qev l lo hi (by omega)
  refine ⟨by rw [hl, hll], by rw [hz, hsz], by rw [hll, hc]; omega, fun ad had => (by obtain ⟨ad0, h1, h2⟩ := ha.2 ad had; rw [h2]; exact hsh ad0 h1), fun h0 => ?_⟩
  have h00 : L.cap ≠ 0 := by omega
  have hne : L.cap ≠ lo := by omega
  have hmul : lo * S.sz e + (L.cap - lo) * S.sz e = L.cap * S.sz e := QqC (by clear hr; omega)
  obtain ⟨ha', hf, cur, el, fz, hh, he, hs, hu, hcells⟩ := hr h00
  have ha2 : L'.addr = some ⟨L.b, L.o + lo * S.sz e, none⟩ := by rw [ha.1 hne, ha', hsz]; simp [add_lit]
  obtain ⟨eb, eo⟩ := Q6W ha2
  have hsum : L.o + lo * S.sz e + (L.cap - lo) * S.sz e = L.o + L.cap * S.sz e := by rw [Nat.add_assoc, hmul]
  refine ⟨by rw [eb, eo]; exact ha2, by rw [eb]; exact hf, cur, el, fz, by rw [eb]; exact hh, he, by rw [eo, hc, hsum]; exact hs, fun ho k hk1 hk2 => hu ho k (by rw [eo] at hk1; exact Nat.le_trans (Nat.le_add_right _ _) hk1) (by rw [eo, hc, hsum] at hk2; exact hk2), fun i x j c hx hj => ?_⟩
  obtain ⟨hx', _⟩ := QaU l lo hi i x hx
  obtain ⟨u, hu', ht⟩ := hcells (lo + i) x j c hx' hj
  refine ⟨u, ?_, ht⟩
  rw [eo, ← hu']
  congr 1
  rw [Nat.add_mul]; omega
theorem Qkq (hR : Rel S D φ Fz H w) {t : TS} {c c' : Cell S.K} {f : List Nat} (h : coerce H t c = some (c', f)) {v : Value} (hv : CRep S D φ Fz w c v) :
    TRep S (FzA φ Fz H f) w c' v ∧ ∀ (D' : Nat → Prop) (φ' : Nat → Loc) (Fz' : Nat → Prop) (u : Value), TRep S Fz' w c' u → CRep S D' φ' Fz' w c' u := by
  unfold coerce at h
  split at h
  · next k k' n =>
    cases hb : Q1M k k' <;> rw [hb] at h <;> simp at h
    obtain ⟨rfl, rfl⟩ := h
    cases hv; exact ⟨.int _ _, fun _ _ _ _ h => h⟩
  · cases h; cases hv; exact ⟨.bool _, fun _ _ _ _ h => h⟩
  · cases h; cases hv; exact ⟨.bool _, fun _ _ _ _ h => h⟩
  · cases h; cases hv; exact ⟨.str _, fun _ _ _ _ h => h⟩
  · next e e' l =>
    cases hb : Nat.beq e e' <;> rw [hb] at h <;> simp at h
    obtain ⟨rfl, rfl⟩ := h
    exact ⟨TRep.fz (fun k hk => .inl hk) hv, fun _ _ _ _ h => h⟩
  · cases h; cases hv
    exact ⟨.arr _ [] none 0 (fun _ _ => undef) (Nat.le_refl _) (fun _ => rfl) (fun _ h => by cases h) (fun i x j c hx => by simp at hx) (fun i x j c hx => by simp at hx), fun _ _ _ _ h => h⟩
  · next e id =>
    split at h
    · next own e' l hg =>
      cases hb : Nat.beq e e' <;> rw [hb] at h <;> simp at h
      obtain ⟨rfl, rfl⟩ := h
      obtain ⟨hd, rfl⟩ := hv
      have hB := hR.rep id _ hg
      exact ⟨Qkg (fun k hk => .inl hk) hB (fun h0 => .inr ⟨id, by simp, own, e', l, hg, h0, rfl⟩), fun _ _ _ _ h => h⟩
    · cases h
  · next e id lo hi =>
    split at h
    · next own e' l hg =>
      cases hb : Nat.beq e e' <;> rw [hb] at h <;> simp at h
      obtain ⟨rfl, rfl⟩ := h
      obtain ⟨hd, h1, h2, h3, a, rfl, ha⟩ := hv
      have hB := hR.rep id _ hg
      have := BRep.subv (L' := ⟨a, hi - lo, (φ id).cap - lo, (φ id).sz⟩) hB h1 h2 rfl rfl rfl ha
      refine ⟨Qkg (fun k hk => .inl hk) this (fun h0 => ?_), fun _ _ _ _ h => h⟩
      have h00 : (φ id).cap ≠ 0 := by intro h; apply h0; show (φ id).cap - lo = 0; omega
      refine .inr ⟨id, by simp, own, e', l, hg, h00, ?_⟩
      have hab := ((hB.2.2.2.2 h00).1)
      have : (φ id).cap ≠ lo := by intro h; apply h0; show (φ id).cap - lo = 0; omega
      have ha2 : a = some ⟨(φ id).b, (φ id).o + lo * (φ id).sz, none⟩ := by rw [ha.1 this, hab, Option.map_some, add_lit]
      rw [ha2]; rfl
    · cases h
  · cases h
theorem Q95 {α : Type} {l : List α} {o n j : Nat} {c : α} (h : ((l.drop o).take n)[j]? = some c) : l[o + j]? = some c ∧ j < n := by
  rw [List.getElem?_take] at h
  split at h
  · rw [List.getElem?_drop] at h; exact ⟨h, by omega⟩
  · cases h
theorem QjV (hR : Rel S D φ Fz H w) {s : CS} {c : Cell S.K} {m m' : Mp S.K} {d : List (Cell S.K)} (h : QhQ S H s c m = some (d, m')) {v : Value} (hv : CRep S D φ Fz w c v)
    {ψ : Nat → Loc} (hf : Fits D φ Fz w bs ψ m.src) :
    ∃ ψ', Ext D φ Fz w bs ψ m ψ' m' ∧ ∀ (n : List BS) (r : List (Cell S.K)) (x : Cell S.K × List (Cell S.K)), Q13 n (fun i => (i, 0)) s (d ++ r) = some x → x.2 = r ∧ CRep S (BdN n m'.src) ψ' (FzA φ Fz H m'.fr) w x.1 v := by
  unfold QhQ at h
  split at h
  · next t c =>
    split at h
    · next c' f hc =>
      cases h
      obtain ⟨h1, h2⟩ := Qkq hR hc hv
      refine ⟨ψ, ⟨fun _ _ h => h, fun _ _ => rfl, hf, fun id hi => List.mem_append_right _ hi⟩, fun n r x hx => ?_⟩
      simp only [List.singleton_append, Q13] at hx
      split at hx
      · cases hx
        exact ⟨rfl, h2 _ _ _ _ (h1.fz (FzA.mono fun _ hi => List.mem_append_left _ hi))⟩
      · cases hx
    · cases h
  · next i id =>
    split at h
    · next m1 h1 =>
      cases h
      obtain ⟨ψ', e, b, a⟩ := QlV hf h1 hv.1
      refine ⟨ψ', e, fun n r x hx => ?_⟩
      simp only [List.nil_append, Q13] at hx
      split at hx
      · next hn => cases hx; exact ⟨rfl, ⟨b, QgM hn⟩, by rw [a]; exact hv.2⟩
      · cases hx
    · cases h
  · next i id lo hi =>
    split at h
    · next m1 h1 =>
      cases h
      obtain ⟨hd, h2, h3, h4, a, hva, ha⟩ := hv
      obtain ⟨ψ', e, b, hL⟩ := Qei hf h1 (L := ⟨a, hi - lo, (φ id).cap - lo, (φ id).sz⟩) ⟨hd, h2, h3, h4, rfl, rfl, rfl, ha⟩
      refine ⟨ψ', e, fun n r x hx => ?_⟩
      simp only [List.nil_append, Q13] at hx
      split at hx
      · next hn => cases hx; exact ⟨rfl, ⟨b, QgM hn⟩, by rw [hL]; exact hva⟩
      · cases hx
    · cases h
  · next i =>
    split at h
    · next m1 h1 =>
      cases h
      obtain ⟨ψ', e, b, hL⟩ := Qei hf h1 (L := ⟨none, 0, 0, szAt S bs i⟩) rfl
      refine ⟨ψ', e, fun n r x hx => ?_⟩
      simp only [List.nil_append, Q13] at hx
      split at hx
      · next hn => cases hx; exact ⟨rfl, ⟨b, QgM hn⟩, by rw [hL]; exact hv⟩
      · cases hx
    · cases h
  · next i off id off' =>
    cases hb : Nat.ble off off' with
    | false => rw [hb] at h; cases h
    | true =>
      rw [hb] at h
      simp only [cond_true] at h
      split at h
      · next m1 h1 =>
        cases h
        obtain ⟨ψ', e, b, hL⟩ := QcZ hf h1 hv.1
        refine ⟨ψ', e, fun n r x hx => ?_⟩
        simp only [List.nil_append, Q13] at hx
        split at hx
        · next hn =>
          cases hx
          refine ⟨rfl, ⟨b, Qec hn⟩, ?_⟩
          simp only [Nat.zero_add]
          rw [Qjh hL, Nat.sub_add_cancel (Nat.le_of_ble_eq_true hb)]
          exact hv.2
        · cases hx
      · cases h
  · next i e x0 off =>
    split at h
    · next m1 h1 =>
      cases h
      obtain ⟨b0, o0, hva, hfz, hcells⟩ := hv
      obtain ⟨ψ', ex, b, hL⟩ := Qei (D := D) (φ := φ) hf h1 (L := ⟨some ⟨b0, o0 + off, none⟩, 0, 0, 0⟩) ⟨rfl, hfz, fun j c hj => by
        rw [List.getElem?_drop] at hj
        obtain ⟨u, hu, ht⟩ := hcells (off + j) c hj
        exact ⟨u, by show w.cell? ⟨b0, o0 + off + j, none⟩ = _; rw [Nat.add_assoc]; exact hu, ht⟩⟩
      refine ⟨ψ', ex, fun n r x hx => ?_⟩
      simp only [List.nil_append, Q13] at hx
      split at hx
      · next hn =>
        cases hx
        refine ⟨rfl, ⟨b, Qec hn⟩, ?_⟩
        rw [hL]
        simp only [Nat.zero_add]
        exact hva
      · cases hx
    · cases h
  · next f caps f' caps' =>
    cases hb : Nat.beq f f' with
    | false => rw [hb] at h; cases h
    | true =>
      rw [hb] at h
      simp only [cond_true] at h
      split at h
      · next m1 h1 =>
        cases h
        obtain ⟨ψ', e, b, a⟩ := Qgm caps caps' hf h1 hv.1
        refine ⟨ψ', e, fun n r x hx => ?_⟩
        simp only [List.nil_append, Q13] at hx
        split at hx
        · next hn =>
          cases hx
          have hren : ∀ l : List (Nat × Nat), Q7C (fun i => (i, 0)) l = l := by
            intro l
            induction l with
            | nil => rfl
            | cons p l ih => obtain ⟨i, o⟩ := p; simp [Q7C, ih]
          rw [hren]
          refine ⟨rfl, Qkh hn b, ?_⟩
          rw [a, Q03 hb]
          exact hv.2
        · cases hx
      · cases h
  · cases h
    refine ⟨ψ, Ext.refl hf, fun n r x hx => ?_⟩
    simp only [List.nil_append, Q13, Option.some.injEq] at hx
    subst hx; exact ⟨rfl, hv⟩
  · cases h
    refine ⟨ψ, Ext.refl hf, fun n r x hx => ?_⟩
    simp only [List.nil_append, Q13, Option.some.injEq] at hx
    subst hx; exact ⟨rfl, hv⟩
  · next i id =>
    split at h
    · next m1 h1 =>
      cases h
      obtain ⟨ψ', e, b, hL⟩ := QcZ hf h1 hv.1
      refine ⟨ψ', e, fun n r x hx => ?_⟩
      simp only [List.nil_append, Q13] at hx
      split at hx
      · next hn =>
        simp only [Bool.and_eq_true] at hn
        cases hx
        refine ⟨rfl, ⟨b, Qec hn.1⟩, ?_, hv.2.2.imp (fun h => h) (fun h => ?_)⟩
        · rw [(Q6W hL).1, (Q6W hL).2]; exact hv.2.1
        · rw [Qjh hL]; exact h
      · cases hx
    · cases h
  · cases h
    refine ⟨ψ, Ext.refl hf, fun n r x hx => ?_⟩
    simp only [List.nil_append, Q13, Option.some.injEq] at hx
    subst hx; exact ⟨rfl, trivial⟩
  · cases h
theorem Ext.rep {n : List BS} {ψ ψ' : Nat → Loc} {m m' : Mp S.K} (e : Ext D φ Fz w bs ψ m ψ' m') {c : Cell S.K} {v : Value} (h : CRep S (BdN n m.src) ψ (FzA φ Fz H m.fr) w c v) : CRep S (BdN n m'.src) ψ' (FzA φ Fz H m'.fr) w c v :=
  h.more (FzA.mono e.fr) (fun i hi => e.bdN i hi) (fun i hi => e.eq i hi.1)
theorem Qbv (hR : Rel S D φ Fz H w) : ∀ {ss : List CS} {cs : List (Cell S.K)} {m m' : Mp S.K} {d : List (Cell S.K)}, Q8J S H ss cs m = some (d, m') → ∀ {vs : List Value}, All2 (CRep S D φ Fz w) cs vs →
    ∀ {ψ : Nat → Loc}, Fits D φ Fz w bs ψ m.src →
    ∃ ψ', Ext D φ Fz w bs ψ m ψ' m' ∧ ∀ (n : List BS) (r : List (Cell S.K)) (x : List (Cell S.K) × List (Cell S.K)), Q31 n (fun i => (i, 0)) ss (d ++ r) = some x → x.2 = r ∧ All2 (CRep S (BdN n m'.src) ψ' (FzA φ Fz H m'.fr) w) x.1 vs
  | [], [], m, m', d, h, vs, hv, ψ, hf => by
    cases h; cases hv
    refine ⟨ψ, Ext.refl hf, fun n r x hx => ?_⟩
    simp only [List.nil_append, Q31, Option.some.injEq] at hx
    subst hx; exact ⟨rfl, .nil⟩
  | s :: ss, c :: cs, m, m', d, h, vs, hv, ψ, hf => by
    simp only [Q8J] at h
    split at h
    · next d1 m1 h1 =>
      split at h
      · next d2 m2 h2 =>
        cases h
        cases hv with
        | cons hc ht =>
          obtain ⟨ψ1, e1, b1⟩ := QjV hR h1 hc hf
          obtain ⟨ψ2, e2, b2⟩ := Qbv hR h2 ht e1.fits
          refine ⟨ψ2, e1.trans e2, fun n r x hx => ?_⟩
          simp only [List.append_assoc, Q31] at hx
          split at hx
          · next c' r' hb =>
            obtain ⟨er, hr⟩ := b1 n _ _ hb
            dsimp only at er
            subst er
            split at hx
            · next cs' r'' hb' =>
              cases hx
              obtain ⟨er', hr'⟩ := b2 n _ _ hb'
              exact ⟨er', .cons (e2.rep hr) hr'⟩
            · cases hx
          · cases hx
      · cases h
    · cases h
  | [], _ :: _, _, _, _, h, _, _, _, _ => by simp [Q8J] at h
  | _ :: _, [], _, _, _, h, _, _, _, _ => by simp [Q8J] at h
theorem Qpp (hR : Rel S D φ Fz H w) {s : FS} {x : FV S.K} {m m' : Mp S.K} {d : List (Cell S.K)} (h : Qm8 S H s x m = some (d, m')) {v : Value} (hv : FRep S D φ Fz w x v)
    {ψ : Nat → Loc} (hf : Fits D φ Fz w bs ψ m.src) :
    ∃ ψ', Ext D φ Fz w bs ψ m ψ' m' ∧ ∀ (n : List BS) (r : List (Cell S.K)) (y : FV S.K × List (Cell S.K)), Q6K n (fun i => (i, 0)) s (d ++ r) = some y → y.2 = r ∧ FRep S (BdN n m'.src) ψ' (FzA φ Fz H m'.fr) w y.1 v := by
  unfold Qm8 at h
  split at h
  · obtain ⟨ψ', e, b⟩ := QjV hR h hv hf
    refine ⟨ψ', e, fun n r y hy => ?_⟩
    simp only [Q6K] at hy
    split at hy
    · next hb => cases hy; exact b n r _ hb
    · cases hy
  · obtain ⟨vs, rfl, hvs⟩ := hv
    obtain ⟨ψ', e, b⟩ := Qbv hR h hvs hf
    refine ⟨ψ', e, fun n r y hy => ?_⟩
    simp only [Q6K] at hy
    split at hy
    · next hb => cases hy; exact ⟨(b n r _ hb).1, vs, rfl, (b n r _ hb).2⟩
    · cases hy
  · cases h
theorem FRep.ext {n : List BS} {ψ ψ' : Nat → Loc} {m m' : Mp S.K} (e : Ext D φ Fz w bs ψ m ψ' m') {c : FV S.K} {v : Value} (h : FRep S (BdN n m.src) ψ (FzA φ Fz H m.fr) w c v) : FRep S (BdN n m'.src) ψ' (FzA φ Fz H m'.fr) w c v :=
  FRep.keep (Chg.refl (fun _ _ => False) w) (fun _ _ h => h.elim) (FzA.mono e.fr) (fun i hi => e.bdN i hi) (fun i hi => e.eq i hi.1) h
theorem Qep (hR : Rel S D φ Fz H w) {sl : List (Nat × SV S.K)} {T : Nat → Value} (hT : ∀ t v, get sl t = some v → SRep S D φ Fz w v (T t)) :
    ∀ {l : List (Nat × FS)} {m m' : Mp S.K} {d : List (Cell S.K)}, Qbo S H sl l m = some (d, m') → ∀ {ψ : Nat → Loc}, Fits D φ Fz w bs ψ m.src →
    ∃ ψ', Ext D φ Fz w bs ψ m ψ' m' ∧ ∀ (n : List BS) (r : List (Cell S.K)) (y : List (Nat × FV S.K) × List (Cell S.K)), Q2a n (fun i => (i, 0)) l (d ++ r) = some y → y.2 = r ∧
      y.1.map (·.1) = l.map (·.1) ∧ ∀ t x, (t, x) ∈ y.1 → FRep S (BdN n m'.src) ψ' (FzA φ Fz H m'.fr) w x (T t)
  | [], m, m', d, h, ψ, hf => by
    cases h
    refine ⟨ψ, Ext.refl hf, fun n r y hy => ?_⟩
    simp only [List.nil_append, Q2a, Option.some.injEq] at hy
    subst hy; exact ⟨rfl, rfl, fun t x hx => by simp at hx⟩
  | (t, s) :: l, m, m', d, h, ψ, hf => by
    simp only [Qbo] at h
    split at h
    · next x hx =>
      split at h
      · next d1 m1 h1 =>
        split at h
        · next d2 m2 h2 =>
          cases h
          obtain ⟨ψ1, e1, b1⟩ := Qpp hR h1 (hT t _ hx) hf
          obtain ⟨ψ2, e2, b2⟩ := Qep hR hT h2 e1.fits
          refine ⟨ψ2, e1.trans e2, fun n r y hy => ?_⟩
          simp only [List.append_assoc, Q2a] at hy
          split at hy
          · next x' r' hb =>
            obtain ⟨er, hr⟩ := b1 n _ _ hb
            dsimp only at er
            subst er
            split at hy
            · next xs r'' hb' =>
              cases hy
              obtain ⟨er', hm, hr'⟩ := b2 n _ _ hb'
              refine ⟨er', by simp [hm], fun t' x'' hx' => ?_⟩
              rcases List.mem_cons.1 hx' with e | hx'
              · cases e; exact FRep.ext e2 hr
              · exact hr' t' x'' hx'
            · cases hy
          · cases hy
        · cases h
      · cases h
    · cases h
end
end Go.Ve
namespace Go.Ve
open Go.RowKit
set_option linter.unusedVariables false
set_option linter.unusedSimpArgs false
theorem TRep.crep {S : Sig} {D : Nat → Prop} {φ : Nat → Loc} {Fz : Nat → Prop} {w : World} {c : Cell S.K} {v : Value} (h : TRep S Fz w c v) : CRep S D φ Fz w c v := by
  cases h with
  | int k n => exact .int k n
  | bool b => exact .bool b
  | lit b => exact .lit b
  | str s => exact .str s
  | arr e l a cap vals h1 h2 h3 h4 h5 => exact .arr e l a cap vals h1 h2 h3 h4 h5
theorem Q3T {α : Type} {R : α → Value → Prop} {P : Nat → Value → Prop} : ∀ (cs : List α) (k : Nat), (∀ j c, cs[j]? = some c → ∃ u, P (k + j) u ∧ R c u) → ∃ vs : List Value, All2 R cs vs ∧ ∀ j v, vs[j]? = some v → P (k + j) v
  | [], _, _ => ⟨[], .nil, fun j v h => by simp at h⟩
  | c :: cs, k, h => by
    obtain ⟨u, hp, hr⟩ := h 0 c rfl
    obtain ⟨vs, h1, h2⟩ := Q3T cs (k + 1) (fun j c hj => by have := h (j + 1) c (by simpa using hj); rwa [Nat.add_assoc, Nat.add_comm 1 j])
    refine ⟨u :: vs, .cons hr h1, fun j v hj => ?_⟩
    cases j with
    | zero => simp at hj; subst hj; exact hp
    | succ j => have := h2 j v (by simpa using hj); rwa [Nat.add_assoc, Nat.add_comm 1 j] at this
theorem All2.get {α β : Type} {R : α → β → Prop} {l : List α} {l' : List β} (h : All2 R l l') : ∀ {j : Nat} {a : α}, l[j]? = some a → ∃ b, l'[j]? = some b ∧ R a b := by
  induction h with
  | nil => intro j a h; simp at h
  | cons hr _ ih =>
    intro j a h
    cases j with
    | zero => simp at h; subst h; exact ⟨_, rfl, hr⟩
    | succ j => exact ih (by simpa using h)
theorem All2.len {α β : Type} {R : α → β → Prop} {l : List α} {l' : List β} (h : All2 R l l') : l.length = l'.length := by
  induction h with
  | nil => rfl
  | cons _ _ ih => simp [ih]
section
variable {S : Sig} {D : Nat → Prop} {φ : Nat → Loc} {Fz : Nat → Prop} {H : List (Nat × Blk S.K)} {w : World} {bs : List BS}
theorem BRep.more {D D' : Nat → Prop} {φ φ' : Nat → Loc} {Fz Fz' : Nat → Prop} {L : Loc} {b : Blk S.K} (hF : ∀ k, Fz k → Fz' k) (hD : ∀ i, D i → D' i) (hφ : ∀ i, D i → φ' i = φ i) (h : BRep S D φ Fz w L b) : BRep S D' φ' Fz' w L b :=
  h.keep (Chg.refl (fun _ _ => False) w) (fun _ _ h => h.elim) hF hD hφ (fun _ _ _ h => h)
theorem BRep.vecD {D D' : Nat → Prop} {φ φ' : Nat → Loc} {Fz : Nat → Prop} {L : Loc} {own : Bool} {e : Nat} {l : List (S.K e)} (h : BRep S D φ Fz w L (.vec own e l)) : BRep S D' φ' Fz w L (.vec own e l) := h
def Q99 : Src S.K → Option Nat
  | .whole id | .subv id _ _ | .part id _ => some id
  | _ => none
def OwnS (b : BS) (s : Src S.K) : Prop := (∃ cs, b = .var true cs ∧ ∃ id o, s = .part id o) ∨ (∃ e, b = .vec e ∧ ∀ id o, s ≠ .part id o)
def Qlg (b : BS) (s : Src S.K) : Prop := ∃ cs, b = .var false cs ∧ ∀ id, Q99 s = some id → ∃ o, s = .part id o
def Orig (φ : Nat → Loc) (Fz : Nat → Prop) (H : List (Nat × Blk S.K)) (s : Src S.K) (own : Bool) (L : Loc) (b : Blk S.K) : Prop :=
  ∀ k o, cellsOf L b k o → (∃ id bb, Q99 s = some id ∧ get H id = some bb ∧ (own = true → bb.own = true) ∧ cellsOf (φ id) bb k o) ∨ (own = false ∧ Q99 s = none ∧ Fz k)
theorem Qp9 (hR : Rel S D φ Fz H w) {i : Nat} {b : BS} (hi : bs[i]? = some b) {m m' : Mp S.K} {d : List (Cell S.K)} (h : QlT S H i b m = some (d, m')) {ψ : Nat → Loc} (hf : Fits D φ Fz w bs ψ m.src) :
    ∃ ψ', Ext D φ Fz w bs ψ m ψ' m' ∧ ∀ (n : List BS) (r : List (Cell S.K)) (x : Option (Blk S.K) × List (Cell S.K)), Q1X n (fun i => (i, 0)) b (d ++ r) = some x → x.2 = r ∧
      ∀ blk, x.1 = some blk → BRep S (BdN n m'.src) ψ' (FzA φ Fz H m'.fr) w (ψ' i) blk ∧ ∃ s, get m.src i = some s ∧ Orig φ Fz H s blk.own (ψ' i) blk ∧
        (blk.own = true → OwnS b s) ∧ (blk.own = false → Qlg b s) := by
  unfold QlT at h
  split at h
  · cases h
    refine ⟨ψ, Ext.refl hf, fun n r x hx => ?_⟩
    simp only [List.nil_append, Q1X, Option.some.injEq] at hx
    subst hx
    exact ⟨rfl, fun blk hb => by cases hb⟩
  · next e =>
    split at h
    · next id hs =>
      split at h
      · next e' l hg =>
        cases hb : Nat.beq e e' <;> rw [hb] at h <;> simp at h
        obtain ⟨rfl, rfl⟩ := h
        refine ⟨ψ, Ext.refl hf, fun n r x hx => ?_⟩
        simp only [List.singleton_append, Q1X] at hx
        split at hx
        case h_2 => cases hx
        cases hx
        refine ⟨rfl, fun blk hb => ?_⟩
        cases hb
        have hL := (hf i _ hs).2
        rw [hL]
        refine ⟨(BRep.more (D := D) (φ := φ) (fun k hk => .inl hk) (fun _ h => h) (fun _ _ => rfl) (hR.rep id _ hg)).vecD, _, hs, fun k o hk => .inl ⟨id, _, rfl, hg, fun _ => rfl, hk⟩, fun _ => .inr ⟨_, rfl, fun _ _ h => by cases h⟩, fun h => by cases h⟩
      · cases h
    · next id lo hi' hs =>
      split at h
      · next e' l hg =>
        cases hb : Nat.beq e e' <;> rw [hb] at h <;> simp at h
        obtain ⟨rfl, rfl⟩ := h
        refine ⟨ψ, Ext.refl hf, fun n r x hx => ?_⟩
        simp only [List.singleton_append, Q1X] at hx
        split at hx
        case h_2 => cases hx
        cases hx
        refine ⟨rfl, fun blk hb => ?_⟩
        cases hb
        obtain ⟨hd, h1, h2, h3, e1, e2, e3, e4, e5⟩ := hf i _ hs
        have hB := hR.rep id _ hg
        have hB' := BRep.subv hB h1 h2 e1 e2 e3 ⟨e4, e5⟩
        refine ⟨(BRep.more (D := D) (φ := φ) (fun k hk => .inl hk) (fun _ h => h) (fun _ _ => rfl) hB').vecD, _, hs, fun k o hk => .inl ⟨id, _, rfl, hg, fun _ => rfl, ?_⟩, fun _ => .inr ⟨_, rfl, fun _ _ h => by cases h⟩, fun h => by cases h⟩
        obtain ⟨hc, hk⟩ := hk
        have h0 : (φ id).cap ≠ 0 := by rw [e2] at hc; omega
        refine ⟨h0, ?_⟩
        rw [hk]
        have hne : (φ id).cap ≠ lo := by rw [e2] at hc; omega
        have ha := e4 hne
        rw [(hB.2.2.2.2 h0).1, Option.map_some, add_lit] at ha
        exact (Q6W ha).1
      · cases h
    · next hs =>
      cases h
      refine ⟨ψ, Ext.refl hf, fun n r x hx => ?_⟩
      simp only [List.singleton_append, Q1X] at hx
      split at hx
      case h_2 => cases hx
      cases hx
      refine ⟨rfl, fun blk hb => ?_⟩
      cases hb
      have hL := hf i _ hs
      simp only [QiK, szAt, hi] at hL
      rw [hL]
      exact ⟨⟨rfl, rfl, Nat.le_refl _, fun ad h => (by cases h), fun h => absurd rfl h⟩, _, hs, fun k o hk => absurd rfl hk.1, fun _ => .inr ⟨_, rfl, fun _ _ h => by cases h⟩, fun h => by cases h⟩
    · cases h
  · next own cs =>
    split at h
    · next id o hs =>
      split at h
      · next own' cells hg =>
        cases hb : !own || own' with
        | false => rw [hb] at h; cases h
        | true =>
          rw [hb] at h
          simp only [cond_true] at h
          obtain ⟨hd, ha⟩ := hf i _ hs
          obtain ⟨haddr, hcells⟩ := hR.rep id _ hg
          obtain ⟨vs, hvs, hpos⟩ := Q3T (R := CRep S D φ Fz w) (P := fun j u => w.cell? ⟨(φ id).b, (φ id).o + (o + j), none⟩ = some u ∧ (own' = true → w.frozen? ⟨(φ id).b, (φ id).o + (o + j), none⟩ = false))
            ((cells.drop o).take cs.length) 0 (fun j c hj => by
              obtain ⟨u, h1, h2, h3⟩ := hcells (o + j) c (Q95 hj).1
              exact ⟨u, by rw [Nat.zero_add]; exact ⟨h1, h3⟩, h2⟩)
          obtain ⟨ψ', e, hb2⟩ := Qbv hR h hvs hf
          refine ⟨ψ', e, fun n r x hx => ?_⟩
          simp only [Q1X] at hx
          split at hx
          · next cs' r' hbb =>
            cases hx
            obtain ⟨er, hr⟩ := hb2 n _ _ hbb
            refine ⟨er, fun blk hblk => ?_⟩
            cases hblk
            have hL : (ψ' i).addr = some ⟨(φ id).b, (φ id).o + o, none⟩ := by rw [e.eq i ⟨_, hs⟩]; exact ha
            obtain ⟨eb, eo⟩ := Q6W hL
            refine ⟨⟨by rw [eb, eo]; exact hL, fun j c hj => ?_⟩, _, hs, fun k x hk => .inl ⟨id, _, rfl, hg, ?_, ?_⟩, ?_, ?_⟩
            · obtain ⟨u, hu, hcu⟩ := hr.get hj
              obtain ⟨h1, h2⟩ := hpos j u hu
              rw [Nat.zero_add] at h1 h2
              exact ⟨u, by rw [eb, eo, Nat.add_assoc]; exact h1, hcu, fun ho => by
                subst ho
                simp only [Bool.not_true, Bool.false_or] at hb
                rw [eb, eo, Nat.add_assoc]; exact h2 hb⟩
            · intro ho; simp only [Blk.own] at ho; subst ho; simpa [Blk.own] using hb
            · obtain ⟨h1, h2, h3⟩ := hk
              have hlen : cs'.length ≤ cells.length - o := by
                rw [hr.len, ← hvs.len, List.length_take, List.length_drop]; exact Nat.min_le_right _ _
              refine ⟨h1.trans eb, ?_, ?_⟩
              · rw [eo] at h2; omega
              · rw [eo] at h3; omega
            · intro ho; simp only [Blk.own] at ho; subst ho; exact .inl ⟨_, rfl, _, _, rfl⟩
            · intro ho; simp only [Blk.own] at ho; subst ho; exact ⟨_, rfl, fun id h => by cases h; exact ⟨_, rfl⟩⟩
          · cases hx
      · cases h
    · next cells hs =>
      cases own with
      | true => cases h
      | false =>
        simp only [cond_false] at h
        obtain ⟨haddr, hfz, hcells⟩ := hf i _ hs
        obtain ⟨vs, hvs, hpos⟩ := Q3T (R := CRep S D φ Fz w) (P := fun j u => w.cell? ⟨(ψ i).b, (ψ i).o + j, none⟩ = some u)
            (cells.take cs.length) 0 (fun j c hj => by
              have hj' : cells[j]? = some c := by
                rw [List.getElem?_take] at hj
                split at hj
                · exact hj
                · cases hj
              obtain ⟨u, h1, h2⟩ := hcells j c hj'
              exact ⟨u, by rw [Nat.zero_add]; exact h1, h2.crep⟩)
        obtain ⟨ψ', e, hb2⟩ := Qbv hR h hvs hf
        refine ⟨ψ', e, fun n r x hx => ?_⟩
        simp only [Q1X] at hx
        split at hx
        · next cs' r' hbb =>
          cases hx
          obtain ⟨er, hr⟩ := hb2 n _ _ hbb
          refine ⟨er, fun blk hblk => ?_⟩
          cases hblk
          have hL : ψ' i = ψ i := e.eq i ⟨_, hs⟩
          rw [hL]
          refine ⟨⟨haddr, fun j c hj => ?_⟩, _, hs, fun k x hk => .inr ⟨rfl, rfl, ?_⟩, fun h => (by cases h), fun _ => ⟨_, rfl, fun id h => by cases h⟩⟩
          · obtain ⟨u, hu, hcu⟩ := hr.get hj
            have h1 := hpos j u hu
            rw [Nat.zero_add] at h1
            exact ⟨u, h1, hcu, fun ho => by cases ho⟩
          · rw [hk.1]; exact hfz
        · cases hx
    · cases h
theorem QhY (hR : Rel S D φ Fz H w) : ∀ {l : List BS} {i : Nat}, (∀ j, l[j]? = bs[i + j]?) → ∀ {m m' : Mp S.K} {d : List (Cell S.K)}, QfJ S H i l m = some (d, m') → ∀ {ψ : Nat → Loc}, Fits D φ Fz w bs ψ m.src →
    ∃ ψ', Ext D φ Fz w bs ψ m ψ' m' ∧ ∀ (n : List BS) (r : List (Cell S.K)) (x : List (Option (Blk S.K))), Q1m n (fun i => (i, 0)) l (d ++ r) = some x →
      x.length = l.length ∧ ∀ j blk, x[j]? = some (some blk) → BRep S (BdN n m'.src) ψ' (FzA φ Fz H m'.fr) w (ψ' (i + j)) blk ∧ ∃ s b, get m'.src (i + j) = some s ∧ l[j]? = some b ∧ Orig φ Fz H s blk.own (ψ' (i + j)) blk ∧
        (blk.own = true → OwnS b s) ∧ (blk.own = false → Qlg b s)
  | [], i, _, m, m', d, h, ψ, hf => by
    cases h
    refine ⟨ψ, Ext.refl hf, fun n r x hx => ?_⟩
    simp only [Q1m, Option.some.injEq] at hx
    subst hx
    exact ⟨rfl, fun j blk hj => by simp at hj⟩
  | b :: l, i, hl, m, m', d, h, ψ, hf => by
    simp only [QfJ] at h
    split at h
    · next d1 m1 h1 =>
      split at h
      · next d2 m2 h2 =>
        cases h
        have hi : bs[i]? = some b := by have := hl 0; simpa using this.symm
        obtain ⟨ψ1, e1, b1⟩ := Qp9 hR hi h1 hf
        obtain ⟨ψ2, e2, b2⟩ := QhY hR (i := i + 1) (l := l) (fun j => by have := hl (j + 1); rw [List.getElem?_cons_succ] at this; rw [this]; congr 1; omega) h2 e1.fits
        refine ⟨ψ2, e1.trans e2, fun n r x hx => ?_⟩
        simp only [List.append_assoc, Q1m] at hx
        split at hx
        · next ob r' hb =>
          obtain ⟨er, hr⟩ := b1 n _ _ hb
          dsimp only at er
          subst er
          split at hx
          · next xs hb' =>
            cases hx
            obtain ⟨hlen, hr'⟩ := b2 n _ _ hb'
            refine ⟨by simp [hlen], fun j blk hj => ?_⟩
            cases j with
            | zero =>
              simp only [List.getElem?_cons_zero, Option.some.injEq] at hj
              obtain ⟨hB, s, hs, ho, h3, h4⟩ := hr blk hj
              have hs1 := e1.src i s hs
              have heq : ψ2 i = ψ1 i := e2.eq i ⟨s, hs1⟩
              rw [Nat.add_zero, heq]
              refine ⟨hB.more (FzA.mono e2.fr) (fun i hi => e2.bdN i hi) (fun i hi => e2.eq i hi.1), s, b, e2.src i s hs1, rfl, ho, h3, h4⟩
            | succ j =>
              have := hr' j blk (by simpa using hj)
              rw [show i + (j + 1) = i + 1 + j by omega]
              simpa using this
          · cases hx
        · cases hx
      · cases h
    · cases h
theorem Q3f {K : Nat → Type} : ∀ (l : List (Option (Blk K))) (i t : Nat) (b : Blk K), get (QJ i l) t = some b ↔ i ≤ t ∧ l[t - i]? = some (some b)
  | [], i, t, b => by simp [QJ, get]
  | none :: l, i, t, b => by
    rw [QJ, Q3f l (i + 1) t b]
    constructor
    · rintro ⟨h1, h2⟩
      exact ⟨by omega, by rw [show t - i = (t - (i + 1)) + 1 by omega, List.getElem?_cons_succ]; exact h2⟩
    · rintro ⟨h1, h2⟩
      by_cases he : t = i
      · subst he; simp at h2
      · exact ⟨by omega, by rw [show t - i = (t - (i + 1)) + 1 by omega, List.getElem?_cons_succ] at h2; exact h2⟩
  | some x :: l, i, t, b => by
    rw [QJ, Qw]
    by_cases he : t = i
    · subst he; simp
    · rw [if_neg he, Q3f l (i + 1) t b]
      constructor
      · rintro ⟨h1, h2⟩
        exact ⟨by omega, by rw [show t - i = (t - (i + 1)) + 1 by omega, List.getElem?_cons_succ]; exact h2⟩
      · rintro ⟨h1, h2⟩
        exact ⟨by omega, by rw [show t - i = (t - (i + 1)) + 1 by omega, List.getElem?_cons_succ] at h2; exact h2⟩
theorem Q8y {m : List (Nat × Src S.K)} : ∀ {l : List BS} {i j id : Nat} {s : Src S.K} {b : BS}, l[j]? = some b → get m (i + j) = some s → Q99 s = some id → OwnS b s → id ∈ QN m i l
  | [], _, _, _, _, _, h, _, _, _ => by simp at h
  | b0 :: l, i, 0, id, s, b, h, hs, hid, hb => by
    simp only [List.getElem?_cons_zero, Option.some.injEq] at h
    subst h
    rw [Nat.add_zero] at hs
    rcases hb with ⟨cs, rfl, id', o, rfl⟩ | ⟨e, rfl, hne⟩
    · simp only [Q99, Option.some.injEq] at hid; subst hid; simp [QN, hs]
    · cases s <;> simp [Q99] at hid
      · subst hid; simp [QN, hs]
      · subst hid; simp [QN, hs]
      · exact absurd rfl (hne _ _)
  | b0 :: l, i, j + 1, id, s, b, h, hs, hid, hb => by
    have := Q8y (l := l) (i := i + 1) (j := j) (by simpa using h) (by rw [show i + 1 + j = i + (j + 1) by omega]; exact hs) hid hb
    unfold QN
    split
    · simp at *
    · next heq => cases heq; split <;> simp [this]
    · next heq => cases heq; split <;> simp [this]
    · next heq => cases heq; exact this
theorem Qln {m : List (Nat × Src S.K)} : ∀ {l : List BS} {i j id o : Nat} {cs : List CS}, l[j]? = some (.var false cs) → get m (i + j) = some (.part id o) → id ∈ Q7t m i l
  | [], _, _, _, _, _, h, _ => by simp at h
  | b0 :: l, i, 0, id, o, cs, h, hs => by
    simp only [List.getElem?_cons_zero, Option.some.injEq] at h
    subst h
    rw [Nat.add_zero] at hs
    simp [Q7t, hs]
  | b0 :: l, i, j + 1, id, o, cs, h, hs => by
    have := Qln (l := l) (i := i + 1) (j := j) (by simpa using h) (by rw [show i + 1 + j = i + (j + 1) by omega]; exact hs)
    unfold Q7t
    split
    · simp at *
    · next heq => cases heq; split <;> simp [this]
    · next heq => cases heq; exact this
theorem Q7r {a : Nat} {l : List Nat} (h : Q15 (a :: l) = true) : a ∉ l ∧ Q15 l = true := by
  simp only [Q15, Bool.and_eq_true, Bool.not_eq_true'] at h
  exact ⟨fun hm => (by rw [(mem_iff a l).2 hm] at h; exact absurd h.1 (by simp)), h.2⟩
theorem QoL {m : List (Nat × Src S.K)} {b : BS} {l : List BS} {i : Nat} (h : Q15 (QN m i (b :: l)) = true) : Q15 (QN m (i + 1) l) = true := by
  unfold QN at h
  split at h
  · simp at *
  · next heq => cases heq; split at h <;> first | exact (Q7r h).2 | exact h
  · next heq => cases heq; split at h <;> first | exact (Q7r h).2 | exact h
  · next heq => cases heq; exact h
theorem Q9r {m : List (Nat × Src S.K)} : ∀ {l : List BS} {i : Nat}, Q15 (QN m i l) = true → ∀ {j1 j2 id : Nat} {s1 s2 : Src S.K} {b1 b2 : BS}, j1 < j2 → l[j1]? = some b1 → l[j2]? = some b2 → get m (i + j1) = some s1 → get m (i + j2) = some s2 →
    Q99 s1 = some id → Q99 s2 = some id → OwnS b1 s1 → OwnS b2 s2 → False
  | [], _, _, _, _, _, _, _, _, _, _, h, _, _, _, _, _, _, _ => by simp at h
  | b0 :: l, i, hn, j1, j2 + 1, id, s1, s2, b1, b2, hlt, h1, h2, g1, g2, e1, e2, o1, o2 => by
    have h2' : l[j2]? = some b2 := by simpa using h2
    have g2' : get m (i + 1 + j2) = some s2 := by rw [show i + 1 + j2 = i + (j2 + 1) by omega]; exact g2
    cases j1 with
    | succ j1 => exact Q9r (QoL hn) (j1 := j1) (j2 := j2) (by omega) (by simpa using h1) h2' (by rw [show i + 1 + j1 = i + (j1 + 1) by omega]; exact g1) g2' e1 e2 o1 o2
    | zero =>
      have hm := Q8y h2' g2' e2 o2
      simp only [List.getElem?_cons_zero, Option.some.injEq] at h1
      subst h1
      rw [Nat.add_zero] at g1
      rcases o1 with ⟨cs, rfl, id', o, rfl⟩ | ⟨e, rfl, hne⟩
      · simp only [Q99, Option.some.injEq] at e1; subst e1
        simp only [QN, g1] at hn
        exact (Q7r hn).1 hm
      · cases s1 <;> simp [Q99] at e1
        · subst e1; simp only [QN, g1] at hn; exact (Q7r hn).1 hm
        · subst e1; simp only [QN, g1] at hn; exact (Q7r hn).1 hm
        · exact hne _ _ rfl
theorem Qau : ∀ {l r : List Nat}, Q4Z l r = true → ∀ {a : Nat}, a ∈ l → a ∈ r → False
  | [], _, _, _, h, _ => by simp at h
  | b :: l, r, h, a, h1, h2 => by
    simp only [Q4Z, Bool.and_eq_true, Bool.not_eq_true'] at h
    rcases List.mem_cons.1 h1 with rfl | h1
    · rw [(mem_iff a r).2 h2] at h; cases h.1
    · exact Qau h.2 h1 h2
structure QfA (S : Sig) (D : Nat → Prop) (φ : Nat → Loc) (Fz : Nat → Prop) (H : List (Nat × Blk S.K)) (w : World) (T : Nat → Value) (L : Lay) (pre : List (Nat × Src S.K)) (ψ0 : Nat → Loc) (mp : Mp S.K) (xs : List (Nat × FV S.K)) (blks : List (Option (Blk S.K))) (ψ : Nat → Loc) : Prop where
  pre : ∀ i s, get pre i = some s → get mp.src i = some s ∧ ψ i = ψ0 i
  fits : Fits D φ Fz w L.blocks ψ mp.src
  len : blks.length = L.blocks.length
  rel : Rel S (fun i => i < L.blocks.length) ψ (FzA φ Fz H mp.fr) (QJ 0 blks) w
  names : xs.map (·.1) = L.slots.map (·.1)
  slots : ∀ t x, (t, x) ∈ xs → FRep S (fun i => i < L.blocks.length) ψ (FzA φ Fz H mp.fr) w x (T t)
  orig : ∀ j blk, blks[j]? = some (some blk) → ∃ s b, get mp.src j = some s ∧ L.blocks[j]? = some b ∧ Orig φ Fz H s blk.own (ψ j) blk ∧ (blk.own = true → OwnS b s) ∧ (blk.own = false → Qlg b s)
  nodup : Q15 (QN mp.src 0 L.blocks) = true
  apartF : Q4Z (QN mp.src 0 L.blocks) mp.fr = true
  apartL : Q4Z (QN mp.src 0 L.blocks) (Q7t mp.src 0 L.blocks) = true
theorem Orig.own {φ : Nat → Loc} {Fz : Nat → Prop} {H : List (Nat × Blk S.K)} {s : Src S.K} {L : Loc} {b : Blk S.K} (h : Orig φ Fz H s true L b) {k o : Nat} (hc : cellsOf L b k o) : ∃ id bb, Q99 s = some id ∧ get H id = some bb ∧ bb.own = true ∧ cellsOf (φ id) bb k o := by
  rcases h k o hc with ⟨id, bb, h1, h2, h3, h4⟩ | ⟨h, _⟩
  · exact ⟨id, bb, h1, h2, h3 rfl, h4⟩
  · cases h
theorem Qe8 {st : St S.K} (hR : Rel S D φ Fz st.heap w) {T : Nat → Value} (hT : ∀ t v, get st.slots t = some v → SRep S D φ Fz w v (T t)) {L : Lay} {pre : List (Nat × Src S.K)} {ψ0 : Nat → Loc}
    (hpre : Fits D φ Fz w L.blocks ψ0 pre) {cells : List (Cell S.K)} {mp : Mp S.K} (h : collect S L st pre = some (cells, mp)) {xs : List (Nat × FV S.K)} {blks : List (Option (Blk S.K))}
    (hb : Q0h (fun i => (i, 0)) L cells = some (xs, blks)) : ∃ ψ, QfA S D φ Fz st.heap w T L pre ψ0 mp xs blks ψ := by
  unfold collect at h
  split at h
  · next d1 m1 h1 =>
    split at h
    · next d2 m2 h2 =>
      cases hck : (Q15 (QN m2.src 0 L.blocks) && Q4Z (QN m2.src 0 L.blocks) m2.fr && Q4Z (QN m2.src 0 L.blocks) (Q7t m2.src 0 L.blocks)) with
      | false => rw [hck] at h; cases h
      | true =>
        rw [hck] at h
        simp only [cond_true, Option.some.injEq, Prod.mk.injEq] at h
        obtain ⟨rfl, rfl⟩ := h
        simp only [Bool.and_eq_true] at hck
        obtain ⟨⟨hnd, haf⟩, hal⟩ := hck
        obtain ⟨ψ1, e1, b1⟩ := Qep (bs := L.blocks) hR hT h1 (ψ := ψ0) hpre
        obtain ⟨ψ2, e2, b2⟩ := QhY hR (l := L.blocks) (i := 0) (fun j => by rw [Nat.zero_add]) h2 e1.fits
        unfold Q0h at hb
        split at hb
        · next xs' r' hb1 =>
          obtain ⟨er, hn, hsl⟩ := b1 L.blocks d2 _ hb1
          dsimp only at er hn hsl
          subst er
          split at hb
          · next blks' hb2 =>
            cases hb
            obtain ⟨hlen, hblk⟩ := b2 L.blocks [] _ (by rw [List.append_nil]; exact hb2)
            have hDom : ∀ i, BdN L.blocks m2.src i → i < L.blocks.length := fun i h => h.2
            have orig : ∀ j blk, blks[j]? = some (some blk) → ∃ s b, get m2.src j = some s ∧ L.blocks[j]? = some b ∧ Orig φ Fz st.heap s blk.own (ψ2 j) blk ∧ (blk.own = true → OwnS b s) ∧ (blk.own = false → Qlg b s) := fun j blk hj => by
              have := (hblk j blk hj).2
              simpa only [Nat.zero_add] using this
            have hget : ∀ id b, get (QJ 0 blks) id = some b → blks[id]? = some (some b) := fun id b hg => by
              have := (Q3f blks 0 id b).1 hg
              simpa using this.2
            have hFz : ∀ (s : Src S.K) (b : BS) (blk : Blk S.K) (j k o : Nat), get m2.src j = some s → L.blocks[j]? = some b → OwnS b s → blk.own = true → Orig φ Fz st.heap s true (ψ2 j) blk → cellsOf (ψ2 j) blk k o → ¬ FzA φ Fz st.heap m2.fr k := by
              intro s b blk j k o hs hbj hos _ ho hc hk
              obtain ⟨id, bb, hid, hg, hown, hcell⟩ := ho.own hc
              rcases hk with hk | ⟨id', hmem, own', e', l', hg', hcap, hk⟩
              · exact hR.fz id bb hg hown k o hcell hk
              · by_cases he : id = id'
                · subst he
                  exact Qau haf (Q8y (i := 0) hbj (by rw [Nat.zero_add]; exact hs) hid hos) hmem
                · exact hR.dis id id' bb _ hg hg' he hown k o hcell ⟨hcap, hk⟩
            refine ⟨ψ2, ⟨fun i s hi => ⟨e2.src i s (e1.src i s hi), (e2.eq i ⟨s, e1.src i s hi⟩).trans (e1.eq i ⟨s, hi⟩)⟩, e2.fits, hlen, ⟨?_, ?_, ?_, ?_, ?_, hR.inv.keep (Chg.refl (fun _ _ => False) w) (fun _ _ h => h.elim) (fun _ h => .inl h)⟩, hn, ?_, orig, hnd, haf, hal⟩⟩
            · intro id b hg
              have := hget id b hg
              have := (List.getElem?_eq_some_iff.1 this).1
              omega
            · intro id b hg
              have := (hblk id b (hget id b hg)).1
              rw [Nat.zero_add] at this
              exact this.more (fun _ h => h) hDom (fun _ _ => rfl)
            · intro id id' b b' hg hg' hne hown k o hc hc'
              obtain ⟨s, bs, hs, hbs, ho, hos, _⟩ := orig id b (hget id b hg)
              obtain ⟨s', bs', hs', hbs', ho', hos', hls'⟩ := orig id' b' (hget id' b' hg')
              rw [hown] at ho
              obtain ⟨i1, bb, hid, hgb, hbo, hcell⟩ := ho.own hc
              rcases ho' k o hc' with ⟨i2, bb', hid', hgb', _, hcell'⟩ | ⟨hf, _, hk⟩
              · by_cases he : i1 = i2
                · subst he
                  cases hb' : b'.own with
                  | true =>
                    rcases Nat.lt_or_gt_of_ne hne with hlt | hlt
                    · exact Q9r (i := 0) hnd hlt hbs hbs' (by rw [Nat.zero_add]; exact hs) (by rw [Nat.zero_add]; exact hs') hid hid' (hos hown) (hos' hb')
                    · exact Q9r (i := 0) hnd hlt hbs' hbs (by rw [Nat.zero_add]; exact hs') (by rw [Nat.zero_add]; exact hs) hid' hid (hos' hb') (hos hown)
                  | false =>
                    obtain ⟨cs, rfl, hpart⟩ := hls' hb'
                    obtain ⟨o', rfl⟩ := hpart i1 hid'
                    exact Qau hal (Q8y (i := 0) hbs (by rw [Nat.zero_add]; exact hs) hid (hos hown)) (Qln (i := 0) hbs' (by rw [Nat.zero_add]; exact hs'))
                · exact hR.dis i1 i2 bb bb' hgb hgb' he hbo k o hcell hcell'
              · exact hR.fz i1 bb hgb hbo k o hcell hk
            · intro id b hg hown k o hc
              obtain ⟨s, bs, hs, hbs, ho, hos, _⟩ := orig id b (hget id b hg)
              rw [hown] at ho
              exact hFz s bs b id k o hs hbs (hos hown) hown ho hc
            · intro k hk
              rcases hk with hk | ⟨id, _, own, e, l, hg, hcap, rfl⟩
              · exact hR.lt k hk
              · obtain ⟨_, _, cur, el, fz, hh, _⟩ := (hR.rep id _ hg).2.2.2.2 hcap
                exact lt_of_heap hh
            · intro t x hx
              exact FRep.keep (Chg.refl (fun _ _ => False) w) (fun _ _ h => h.elim) (FzA.mono e2.fr) (fun i hi => hDom i (e2.bdN i hi)) (fun i hi => e2.eq i hi.1) (hsl t x hx)
          · cases hb
        · cases hb
    · cases h
  · cases h
theorem QfA.taken {T : Nat → Value} {L : Lay} {pre : List (Nat × Src S.K)} {ψ0 ψ : Nat → Loc} {mp : Mp S.K} {xs : List (Nat × FV S.K)} {blks : List (Option (Blk S.K))}
    (h : QfA S D φ Fz H w T L pre ψ0 mp xs blks ψ) {k o : Nat} (hc : OC ψ (QJ 0 blks) k o) : ∃ id bb, id ∈ QN mp.src 0 L.blocks ∧ get H id = some bb ∧ bb.own = true ∧ cellsOf (φ id) bb k o := by
  obtain ⟨i, b, hg, hown, hcell⟩ := hc
  have hj : blks[i]? = some (some b) := by simpa using ((Q3f blks 0 i b).1 hg).2
  obtain ⟨s, bb, hs, hbs, ho, hos, _⟩ := h.orig i b hj
  rw [hown] at ho
  obtain ⟨id, b', hid, hg', hbo, hcl⟩ := ho.own hcell
  exact ⟨id, b', Q8y (i := 0) hbs (by rw [Nat.zero_add]; exact hs) hid (hos hown), hg', hbo, hcl⟩
end
end Go.Ve
namespace Go.Ve
open Go.RowKit
set_option linter.unusedVariables false
set_option linter.unusedSimpArgs false
theorem Qbk {a b : IntKind} (h : Q1M a b = true) : a = b := by cases a <;> cases b <;> first | rfl | (simp [Q1M] at h)
section
variable {K : Nat → Type}
theorem TS.enc_dec (t : TS) (c : Cell K) (x : t.T K) (h : t.dec c = some x) : t.enc x = c := by
  cases t with
  | int k =>
    cases c <;> simp only [TS.dec, reduceCtorEq] at h
    next k' n =>
      cases hb : Q1M k k' <;> rw [hb] at h <;> simp only [reduceCtorEq, Option.some.injEq] at h
      subst h
      rw [← Qbk hb]
      rfl
  | bool =>
    cases c <;> simp only [TS.dec, reduceCtorEq, Option.some.injEq] at h
    subst h; rfl
  | str =>
    cases c <;> simp only [TS.dec, reduceCtorEq, Option.some.injEq] at h
    subst h; rfl
  | arr e =>
    cases c <;> simp only [TS.dec, reduceCtorEq] at h
    next e' l =>
      split at h
      · next heq _ =>
        subst heq
        simp only [Option.some.injEq] at h
        subst h; rfl
      · cases h
theorem QaJ : ∀ (l : List TS) (cs : List (Cell K)) (x : TL K l), decL l cs = some x → encL l x = cs
  | [], [], _, _ => rfl
  | [a], [c], x, h => by simp only [decL] at h; simp only [encL]; rw [TS.enc_dec a c x h]
  | a :: b :: l, c :: cs, x, h => by
    simp only [decL] at h
    split at h
    · next x1 x2 h1 h2 =>
      cases h
      simp only [encL]
      rw [TS.enc_dec a c _ h1, QaJ (b :: l) cs _ h2]
    · cases h
  | [], _ :: _, _, h => by simp [decL] at h
  | [_], [], _, h => by simp [decL] at h
  | [_], _ :: _ :: _, _, h => by simp [decL] at h
  | _ :: _ :: _, [], _, h => by simp [decL] at h
theorem QgA : ∀ (l : List TS) (x : TL K l), (encL l x).length = l.length
  | [], _ => rfl
  | [a], _ => rfl
  | a :: b :: l, x => by simp only [encL, List.length_cons]; rw [QgA (b :: l) x.2]; rfl
end
theorem Sig.enc_dec (S : Sig) (e : Nat) (cs : List (Cell S.K)) (x : S.K e) (h : S.dec e cs = some x) : S.enc e x = cs := by
  unfold Sig.dec at h
  split at h
  · next t ht =>
    cases h
    unfold Sig.enc
    rw [S.law]
    exact QaJ _ _ _ ht
  · cases h
theorem Sig.enc_length (S : Sig) (e : Nat) (x : S.K e) : (S.enc e x).length = S.sz e := QgA _ _
def eqV : Value → Value → Option Bool
  | .int k a, .int k' b => bif Q1M k k' then some (a == b) else none
  | .bool a, .bool b => some (a == b)
  | .string a, .string b => some (seq a b)
  | _, _ => none
def eqVs : List Value → List Value → Option Bool
  | [], [] => some true
  | [a], [b] => eqV a b
  | a :: as_, b :: bs =>
    match eqV a b, eqVs as_ bs with
    | some x, some y => some (x && y)
    | _, _ => none
  | _, _ => none
def tyV : TS → Value → Prop
  | .int k, v => ∃ n, v = .int k n
  | .bool, v => ∃ b, v = .bool b
  | .str, v => ∃ s, v = .string s
  | .arr _, _ => False
def QdY (P : Program) (t : TypeId) (ts : List TS) : Prop :=
  P.eqGuardType P.depth t = false ∧ ∀ (xs ys : List Value) (b : Bool) (w : World), All2 tyV ts xs → All2 tyV ts ys → eqVs xs ys = some b → (Op.equal t (.agg xs.toArray) (.agg ys.toArray)).run P w = .ok b w
def QaF : TypeDesc → Bool
  | .struct _ | .array _ _ => true
  | _ => false
def Q9n (P : Program) : TK → TypeDesc → Prop
  | .int k, d => d = .int k
  | .bool, d => d = .bool
  | .str, d => d = .string
  | .slice e, d => d = .slice e
  | .ptr e, d => d = .pointer e
  | .func, d => ∃ a b c, d = .func a b c
  | .struct fs, d => ∃ fields, d = .struct fields ∧ fields.size = fs.length ∧ ∀ (j off ft sz : Nat), fs[j]? = some (off, ft, sz) → ∃ f i, fields[j]? = some f ∧ f.offset = off ∧ f.type = ft ∧ P.info? ft = some i ∧ i.size = sz
  | .array n e, d => d = .array n e ∧ ∃ i, P.info? e = some i ∧ i.size = 1
  | .other, _ => True
structure TDok (P : Program) (t : Nat) (td : TD) : Prop where
  ex : ∃ i d z, P.info? t = some i ∧ P.underlying t = some d ∧ i.size = td.size ∧ i.bytes = td.bytes ∧ td.agg = QaF d ∧ i.zero = some z ∧ z.cells.toList = td.zero ∧ td.zero.length = td.size ∧ Q9n P td.kind d
structure Q0r (P : Program) (E : Env) : Prop where
  mixed : P.follows .mixedOrders = true
  tt : ∀ t td, E.tt t = some td → TDok P t td
  eqs : ∀ t ts, E.eqs t = some ts → QdY P t ts
  ann : ∀ f m A, E.ann f m = some A → P.funcs[f]? = some A.fn ∧ (A.fn.name == "runtime.NumGoroutine") = false ∧ ∃ c, A.fn.body = some c ∧ Q15 (rids c) = true
  u8 : P.underlying E.S.u8 = some (.int .u8)
  u8sh : E.S.sh E.S.u8 = [.int .u8]
  ofB_len : ∀ s, (E.S.ofB s).length = s.size
  ofB : ∀ (s : ByteArray) (i : Nat) (x : E.S.K E.S.u8), (E.S.ofB s)[i]? = some x → ∃ b, s.data[i]? = some b ∧ E.S.enc E.S.u8 x = [.int .u8 b.toNat]
  toB : ∀ (l : List (E.S.K E.S.u8)) (ns : List Int), (∀ (i : Nat) (x : E.S.K E.S.u8), l[i]? = some x → ∃ n : Int, ns[i]? = some n ∧ E.S.enc E.S.u8 x = [.int .u8 n]) → ns.length = l.length → (E.S.toB l) = ⟨(ns.map fun n => UInt8.ofNat n.toNat).toArray⟩
section
variable {P : Program} {E : Env} (hE : Q0r P E)
include hE
theorem Q0r.u8sz : E.S.sz E.S.u8 = 1 := by unfold Sig.sz; rw [hE.u8sh]; rfl
theorem Q0r.kind {t : Nat} {k : TK} (h : kindOf E t = k) (hk : k ≠ .other) : ∃ d, P.underlying t = some d ∧ Q9n P k d := by
  unfold kindOf at h
  split at h
  · next td ht =>
    obtain ⟨i, d, z, h1, h2, _, _, _, _, _, _, h9⟩ := (hE.tt t td ht).ex
    subst h
    exact ⟨d, h2, h9⟩
  · subst h; exact absurd rfl hk
theorem Q0r.sliceOf {t e : Nat} (h : sliceOf E t = some e) : P.underlying t = some (.slice e) ∧ ∃ i z ed, E.tt e = some ed ∧ P.info? e = some i ∧ i.size = E.S.sz e ∧ i.bytes = bytesOf E e ∧ i.bytes = ed.bytes ∧ 0 < i.bytes ∧ i.zero = some z ∧ z.cells.toList = ed.zero ∧ ed.zero.length = E.S.sz e ∧ 0 < E.S.sz e := by
  unfold Ve.sliceOf at h
  split at h
  · next td ht =>
    split at h
    · next e' hk =>
      cases hb : QlB E e' with
      | false => rw [hb] at h; cases h
      | true =>
        rw [hb] at h
        cases h
        obtain ⟨_, d, _, _, h2, _, _, _, _, _, _, h9⟩ := (hE.tt t td ht).ex
        rw [hk] at h9
        simp only [Q9n] at h9
        subst h9
        refine ⟨h2, ?_⟩
        unfold QlB at hb
        split at hb
        · next ed hed =>
          simp only [Bool.and_eq_true] at hb
          obtain ⟨i, d, z, g1, _, g3, g4, _, g6, g7, g8, _⟩ := (hE.tt e ed hed).ex
          have e1 := Q03 hb.1.1
          have e2 := Nat.le_of_ble_eq_true hb.1.2
          have e3 := Nat.le_of_ble_eq_true hb.2
          exact ⟨i, z, ed, hed, g1, g3.trans e1, by unfold bytesOf; rw [hed]; exact g4, g4, by omega, g6, g7, by omega, e2⟩
        · cases hb
    · cases h
  · cases h
end
theorem Qic {S : Sig} {D : Nat → Prop} {φ : Nat → Loc} {Fz : Nat → Prop} {w : World} {v : Value} {c : Cell S.K} (h : ofValue v = some c) : CRep S D φ Fz w c v := by
  unfold ofValue at h
  split at h <;> first | (cases h; exact TRep.lit _) | (cases h; exact TRep.int _ _) | (cases h; exact TRep.str _) | (cases h; exact rfl) | (cases h; exact trivial) | (cases h)
theorem Q3Q {S : Sig} {D : Nat → Prop} {φ : Nat → Loc} {Fz : Nat → Prop} {w : World} : ∀ {l : List Value} {cs : List (Cell S.K)}, ofValues l = some cs → All2 (CRep S D φ Fz w) cs l
  | [], cs, h => by cases h; exact .nil
  | v :: l, cs, h => by
    simp only [ofValues] at h
    split at h
    · next c cs' h1 h2 => cases h; exact .cons (Qic h1) (Q3Q h2)
    · cases h
structure Inv (S : Sig) (φ : Nat → Loc) (Fz : Nat → Prop) (st : St S.K) (T : Array Value) (w : World) : Prop where
  rel : Rel S (fun i => i < st.nx) φ Fz st.heap w
  slots : Qal S (fun i => i < st.nx) φ Fz w st.slots T
section
variable {S : Sig} {φ : Nat → Loc} {Fz : Nat → Prop} {st : St S.K} {a : Act} {w : World} (hI : Inv S φ Fz st a.tmps w)
include hI
theorem Q3J {o : Operand} {v : SV S.K} (h : operand st o = some v) : SRep S (fun i => i < st.nx) φ Fz w v (a.eval o) := by
  unfold operand at h
  split at h
  · exact hI.slots _ _ h
  · next cs =>
    split at h
    · next cs' hc =>
      cases h
      exact ⟨cs.toList, by simp [Act.eval], Q3Q hc⟩
    · cases h
  · split at h
    · next c hc => cases h; exact Qic hc
    · cases h
  · cases h; exact ⟨trivial, rfl⟩
  · cases h
theorem QS {o : Operand} {c : Cell S.K} (h : Q0F st o = some c) : CRep S (fun i => i < st.nx) φ Fz w c (a.eval o) := by
  unfold Q0F at h
  split at h
  · next hc => cases h; exact Q3J hI hc
  · cases h
theorem Q2A {o : Operand} {x : FV S.K} (h : Q56 st o = some x) : FRep S (fun i => i < st.nx) φ Fz w x (a.eval o) := by
  unfold Q56 at h
  split at h
  · next hc => cases h; exact Q3J hI hc
  · cases h
theorem Q3l : ∀ {os : List Operand} {xs : List (FV S.K)}, Qax st os = some xs → All2 (FRep S (fun i => i < st.nx) φ Fz w) xs (os.map a.eval)
  | [], xs, h => by cases h; exact .nil
  | o :: os, xs, h => by
    simp only [Qax] at h
    split at h
    · next h1 h2 => cases h; exact .cons (Q2A hI h1) (Q3l h2)
    · cases h
end
theorem FRep.cells {S : Sig} {D : Nat → Prop} {φ : Nat → Loc} {Fz : Nat → Prop} {w : World} {x : FV S.K} {v : Value} (h : FRep S D φ Fz w x v) (hf : ∀ c, x = .c c → c ≠ .undef) : All2 (CRep S D φ Fz w) x.cells v.cells.toList := by
  cases x with
  | a cs => obtain ⟨vs, rfl, h⟩ := h; simpa [FV.cells, Value.cells] using h
  | c c =>
    have hc : v.cells = #[v] := by
      have := hf c rfl
      cases c with
      | undef => exact absurd rfl this
      | int | bool | lit | str | arr => (have h' : TRep _ _ _ _ _ := h; cases h' <;> rfl)
      | vec id => rw [h.2]; rfl
      | sub id lo hi => obtain ⟨_, _, _, _, _, rfl, _⟩ := h; rfl
      | ptr id off => rw [h.2]; rfl
      | elt id i off => rw [h.2.2]; rfl
      | tpt e x off => obtain ⟨_, _, rfl, _⟩ := h; rfl
      | nils => rw [show v = _ from h]; rfl
      | nilp => rw [show v = _ from h]; rfl
      | nofn => rw [show v = _ from h]; rfl
      | fn f caps => rw [h.2]; rfl
      | self id => rcases h.2.2 with h | h <;> rw [h] <;> rfl
    rw [hc]
    exact .cons h .nil
theorem CRep.one {S : Sig} {D : Nat → Prop} {φ : Nat → Loc} {Fz : Nat → Prop} {w : World} {c : Cell S.K} {v : Value} (h : CRep S D φ Fz w c v) (hc : c ≠ .undef) : v.oneCell' = true := by
  cases c with
  | undef => exact absurd rfl hc
  | int | bool | lit | str | arr => (have h' : TRep _ _ _ _ _ := h; cases h' <;> rfl)
  | vec id => rw [h.2]; rfl
  | sub id lo hi => obtain ⟨_, _, _, _, _, rfl, _⟩ := h; rfl
  | ptr id off => rw [h.2]; rfl
  | elt id i off => rw [h.2.2]; rfl
  | tpt e x off => obtain ⟨_, _, rfl, _⟩ := h; rfl
  | nils => rw [show v = _ from h]; rfl
  | nilp => rw [show v = _ from h]; rfl
  | nofn => rw [show v = _ from h]; rfl
  | fn f caps => rw [h.2]; rfl
  | self id => rcases h.2.2 with h | h <;> rw [h] <;> rfl
structure After (S : Sig) (φ : Nat → Loc) (Fz : Nat → Prop) (st : St S.K) (w : World) (φ' : Nat → Loc) (Fz' : Nat → Prop) (st' : St S.K) (w' : World) : Prop where
  rel : Rel S (fun i => i < st'.nx) φ' Fz' st'.heap w'
  nx : st.nx ≤ st'.nx
  slots : st'.slots = st.slots
  agree : ∀ i, i < st.nx → φ' i = φ i
  fz : ∀ k, Fz k → Fz' k
  fzb : ∀ k, Fz' k → Fz k ∨ (∀ o, OC φ st.heap k o) ∨ w.heap.size ≤ k
  own : ∀ k o, OC φ' st'.heap k o → OC φ st.heap k o ∨ w.heap.size ≤ k
  chg : Chg (OC φ st.heap) w w'
theorem After.refl {S : Sig} {φ : Nat → Loc} {Fz : Nat → Prop} {st : St S.K} {w : World} (h : Rel S (fun i => i < st.nx) φ Fz st.heap w) : After S φ Fz st w φ Fz st w :=
  ⟨h, Nat.le_refl _, rfl, fun _ _ => rfl, fun _ h => h, fun _ h => .inl h, fun _ _ h => .inl h, Chg.refl _ _⟩
theorem Rel.notFz {S : Sig} {D : Nat → Prop} {φ : Nat → Loc} {Fz : Nat → Prop} {H : List (Nat × Blk S.K)} {w : World} (h : Rel S D φ Fz H w) : ∀ k o, OC φ H k o → ¬ Fz k :=
  fun k o ⟨id, b, h1, h2, h3⟩ => h.fz id b h1 h2 k o h3
section
variable {S : Sig} {φ φ' : Nat → Loc} {Fz Fz' : Nat → Prop} {st st' : St S.K} {w w' : World}
theorem After.srep (h : After S φ Fz st w φ' Fz' st' w') (hR : Rel S (fun i => i < st.nx) φ Fz st.heap w) {x : SV S.K} {v : Value} (hx : SRep S (fun i => i < st.nx) φ Fz w x v) : SRep S (fun i => i < st'.nx) φ' Fz' w' x v :=
  SRep.keep h.chg hR.notFz h.fz (fun i hi => Nat.lt_of_lt_of_le hi h.nx) h.agree hx
theorem After.crep (h : After S φ Fz st w φ' Fz' st' w') (hR : Rel S (fun i => i < st.nx) φ Fz st.heap w) {x : Cell S.K} {v : Value} (hx : CRep S (fun i => i < st.nx) φ Fz w x v) : CRep S (fun i => i < st'.nx) φ' Fz' w' x v :=
  CRep.keep h.chg hR.notFz h.fz (fun i hi => Nat.lt_of_lt_of_le hi h.nx) h.agree hx
end
def Goal (S : Sig) {R : Type} (φ : Nat → Loc) (Fz : Nat → Prop) (st : St S.K) (w : World) (k : SV S.K → St S.K → Option R) (r : R) (next : Value → World → Prop) : Prop :=
  ∀ v st' φ' Fz' x w', k v st' = some r → After S φ Fz st w φ' Fz' st' w' → SRep S (fun i => i < st'.nx) φ' Fz' w' v x → next x w'
theorem Q2R {P : Program} {o : Oper} {a : Act} {w w' : World} {next : Act → World → Prop} {Q : Exit → Act → World → Prop} {x : Value}
    (h : (execOp a.eval o).run P w = .ok (.value x) w') (hn : next (a.put o.dst x) w') : o.wp P a w next Q := by
  unfold Oper.wp; rw [h]; exact hn
theorem Qot {P : Program} {o : Oper} {a : Act} {w w' : World} {next : Act → World → Prop} {Q : Exit → Act → World → Prop}
    (h : (execOp a.eval o).run P w = .ok .skip w') (hn : next (a.put o.dst undef) w') : o.wp P a w next Q := by
  unfold Oper.wp; rw [h]; exact hn
theorem Qlv {E : Env} {R : Type} {φ : Nat → Loc} {Fz : Nat → Prop} {st : St E.S.K} {w : World} (hR : Rel E.S (fun i => i < st.nx) φ Fz st.heap w) {n : Nat} {p : Cell E.S.K} {pv : Value} (hp : CRep E.S (fun i => i < st.nx) φ Fz w p pv)
    {k : List (Cell E.S.K) → Option R} {r : R} (h : Q84 E st n p k = some r) :
    ∃ b o cs vs, pv = .pointer (some ⟨b, o, none⟩) ∧ k cs = some r ∧ cs.length = n ∧ All2 (CRep E.S (fun i => i < st.nx) φ Fz w) cs vs ∧ ∀ j v, vs[j]? = some v → w.cell? ⟨b, o + j, none⟩ = some v := by
  unfold Q84 at h
  split at h
  · next id off =>
    split at h
    · next own cs hg =>
      cases hb : Nat.ble (off + n) cs.length with
      | false => rw [hb] at h; cases h
      | true =>
        rw [hb] at h
        have hb := Nat.le_of_ble_eq_true hb
        obtain ⟨haddr, hcells⟩ := hR.rep id _ hg
        obtain ⟨vs, h1, h2⟩ := Q3T (R := CRep E.S (fun i => i < st.nx) φ Fz w) (P := fun j u => w.cell? ⟨(φ id).b, (φ id).o + (off + j), none⟩ = some u) ((cs.drop off).take n) 0 (fun j c hj => by
          obtain ⟨u, g1, g2, _⟩ := hcells (off + j) c (Q95 hj).1
          exact ⟨u, by rw [Nat.zero_add]; exact g1, g2⟩)
        refine ⟨(φ id).b, (φ id).o + off, _, vs, hp.2, h, by rw [List.length_take, List.length_drop]; omega, h1, fun j v hj => ?_⟩
        have := h2 j v hj
        rwa [Nat.zero_add, ← Nat.add_assoc] at this
    · cases h
  · next id i off =>
    split at h
    · next own e l hg =>
      cases hb : Nat.ble (off + n) (E.S.sz e) with
      | false => rw [hb] at h; cases h
      | true =>
        rw [hb] at h
        have hb := Nat.le_of_ble_eq_true hb
        dsimp only [chk] at h
        unfold sbind at h
        split at h
        · next x hx =>
          obtain ⟨hd, hlt, rfl⟩ := hp
          obtain ⟨hlen, hsz, hcap, _, hr⟩ := hR.rep id _ hg
          have hil : i < l.length := (List.getElem?_eq_some_iff.1 hx).1
          obtain ⟨haddr, _, cur, el, fz, hh, _, _, _, hcells⟩ := hr (by omega)
          obtain ⟨vs, h1, h2⟩ := Q3T (R := CRep E.S (fun i => i < st.nx) φ Fz w) (P := fun j u => w.cell? ⟨(φ id).b, (φ id).o + (i * (φ id).sz + (off + j)), none⟩ = some u) (((E.S.enc e x).drop off).take n) 0 (fun j c hj => by
            obtain ⟨u, g1, g2⟩ := hcells i x (off + j) c hx (Q95 hj).1
            exact ⟨u, by rw [Nat.zero_add, Q3t hh, hsz]; exact g1, g2.crep⟩)
          refine ⟨(φ id).b, (φ id).o + (i * (φ id).sz + off), _, vs, rfl, h, by rw [List.length_take, List.length_drop, E.S.enc_length]; omega, h1, fun j v hj => ?_⟩
          have := h2 j v hj
          rwa [Nat.zero_add, ← Nat.add_assoc, ← Nat.add_assoc, Nat.add_assoc ((φ id).o)] at this
        · cases h
    · cases h
  · next e x off =>
    cases hb : Nat.ble (off + n) (E.S.sz e) with
    | false => rw [hb] at h; cases h
    | true =>
      rw [hb] at h
      have hb := Nat.le_of_ble_eq_true hb
      obtain ⟨b, o, hv, hfz, hcells⟩ := hp
      obtain ⟨vs, h1, h2⟩ := Q3T (R := CRep E.S (fun i => i < st.nx) φ Fz w) (P := fun j u => w.cell? ⟨b, o + (off + j), none⟩ = some u) (((E.S.enc e x).drop off).take n) 0 (fun j c hj => by
        obtain ⟨u, g1, g2⟩ := hcells (off + j) c (Q95 hj).1
        exact ⟨u, by rw [Nat.zero_add]; exact g1, g2.crep⟩)
      refine ⟨b, o + off, _, vs, hv, h, by rw [List.length_take, List.length_drop, E.S.enc_length]; omega, h1, fun j v hj => ?_⟩
      have := h2 j v hj
      rwa [Nat.zero_add, ← Nat.add_assoc] at this
  · cases h
theorem QgE {P : Program} {t : TypeId} {i : TypeInfo} {d : TypeDesc} (hi : P.info? t = some i) (hd : P.underlying t = some d) {w : World} {b o : Nat} {vs : List Value} (hl : vs.length = i.size)
    (h : ∀ j v, vs[j]? = some v → w.cell? ⟨b, o + j, none⟩ = some v) :
    (QaF d = true → (loadVar t ⟨b, o, none⟩).run P w = .ok (.agg vs.toArray) w) ∧ (QaF d = false → ∀ v, vs = [v] → (loadVar t ⟨b, o, none⟩).run P w = .ok v w) := by
  have hc : (loadCells ⟨b, o, none⟩ vs.length).run P w = .ok vs.toArray w := run_loadCells_list w ⟨b, o, none⟩ vs (fun j v hj => by rw [add_lit]; exact h j v hj)
  constructor
  · intro ha
    have hg : (isAgg t).run P w = .ok true w := by
      cases d <;> simp [QaF] at ha <;> simp [isAgg, run_underlying hd]
    simp only [loadVar, Sem.run_bind, hg, Result.andThen_ok, if_true, sizeOf, typeInfo, run_program, hi, Sem.run_pure, ← hl, hc]
  · intro ha v hv
    subst hv
    have hg : (isAgg t).run P w = .ok false w := by
      cases d <;> simp [QaF] at ha <;> simp [isAgg, run_underlying hd]
    have h0 := h 0 v rfl
    rw [Nat.add_zero] at h0
    simp [loadVar, Sem.run_bind, hg, run_load, h0]
end Go.Ve
namespace Go.Ve
open Go.RowKit
set_option linter.unusedVariables false
set_option linter.unusedSimpArgs false
section
variable {S : Sig} {φ : Nat → Loc} {Fz : Nat → Prop} {st : St S.K} {w : World}
theorem Rel.cellLt {D : Nat → Prop} {H : List (Nat × Blk S.K)} (h : Rel S D φ Fz H w) {id : Nat} {b : Blk S.K} (hg : get H id = some b) {k o : Nat} (hc : cellsOf (φ id) b k o) : k < w.heap.size := by
  have hB := h.rep id b hg
  cases b with
  | var own cs =>
    obtain ⟨h1, h2, h3⟩ := hc
    have hj : o - (φ id).o < cs.length := by omega
    obtain ⟨u, hu, _⟩ := hB.2 (o - (φ id).o) cs[o - (φ id).o] (List.getElem?_eq_getElem hj)
    rw [h1]; exact lt_of_cell hu
  | vec own e l =>
    obtain ⟨h1, h2⟩ := hc
    obtain ⟨_, _, cur, el, fz, hh, _⟩ := hB.2.2.2.2 h1
    rw [h2]; exact lt_of_heap hh
def upd (φ : Nat → Loc) (n : Nat) (L : Loc) (i : Nat) : Loc := if i = n then L else φ i
theorem upd_same (n : Nat) (L : Loc) : upd φ n L n = L := if_pos rfl
theorem Q7Q {n i : Nat} (L : Loc) (h : i < n) : upd φ n L i = φ i := if_neg (by omega)
theorem After.repl (hR : Rel S (fun i => i < st.nx) φ Fz st.heap w) {w' : World} {H : List (Nat × Blk S.K)} {O : Nat → Nat → Prop}
    (hH : ∀ id b, get H id = some b → get st.heap id = some b) (hO : ∀ k o, O k o → ∃ id b, get st.heap id = some b ∧ b.own = true ∧ get H id = none ∧ cellsOf (φ id) b k o)
    (hC : Chg O w w') (L : Loc) (blk : Blk S.K) (hB : BRep S (fun i => i < st.nx) φ Fz w' L blk) (hnew : ∀ k o, cellsOf L blk k o → w.heap.size ≤ k ∨ O k o ∨ ∃ id b, get st.heap id = some b ∧ b.own = true ∧ get H id = none ∧ cellsOf (φ id) b k o)
    (hown : blk.own = true) :
    After S φ Fz st w (upd φ st.nx L) Fz { st with heap := (st.nx, blk) :: H, nx := st.nx + 1 } w' := by
  have hnx : ∀ id b, get H id = some b → id < st.nx := fun id b h => hR.dom id b (hH id b h)
  have hOc : ∀ k o, O k o → OC φ st.heap k o := fun k o h => let ⟨id, b, h1, h2, _, h4⟩ := hO k o h; ⟨id, b, h1, h2, h4⟩
  have hOfz : ∀ k o, O k o → ¬ Fz k := fun k o h => hR.notFz k o (hOc k o h)
  have hold : ∀ id b, get H id = some b → ∀ k o, cellsOf (φ id) b k o → ¬ O k o := fun id b hg k o hc ho => by
    obtain ⟨id', b', h1, h2, h3, h4⟩ := hO k o ho
    have hne : id' ≠ id := by rintro rfl; rw [h3] at hg; cases hg
    exact hR.dis id' id b' b h1 (hH id b hg) hne h2 k o h4 hc
  have hnewOld : ∀ id b, get H id = some b → ∀ k o, cellsOf L blk k o → ¬ cellsOf (φ id) b k o := fun id b hg k o hc hc' => by
    rcases hnew k o hc with h | h | ⟨id', b', h1, h2, h3, h4⟩
    · exact absurd (hR.cellLt (hH id b hg) hc') (by omega)
    · exact hold id b hg k o hc' h
    · have hne : id' ≠ id := by rintro rfl; rw [h3] at hg; cases hg
      exact hR.dis id' id b' b h1 (hH id b hg) hne h2 k o h4 hc'
  have cons : ∀ id b, get ((st.nx, blk) :: H) id = some b → (id = st.nx ∧ b = blk) ∨ (id < st.nx ∧ get H id = some b) := fun id b hg => by
    rw [Qw] at hg
    by_cases he : id = st.nx
    · rw [if_pos he] at hg; cases hg; exact .inl ⟨he, rfl⟩
    · rw [if_neg he] at hg; exact .inr ⟨hnx id b hg, hg⟩
  refine ⟨⟨?_, ?_, ?_, ?_, fun k hk => Nat.lt_of_lt_of_le (hR.lt k hk) hC.size, hR.inv.keep hC hOfz (fun _ h => h)⟩, Nat.le_succ _, rfl, fun i hi => Q7Q L hi, fun _ h => h, fun _ h => .inl h, ?_, hC.mono (fun k o _ h => hOc k o h)⟩
  · intro id b hg
    rcases cons id b hg with ⟨rfl, _⟩ | ⟨h, _⟩
    · exact Nat.lt_succ_self _
    · exact Nat.lt_succ_of_lt h
  · intro id b hg
    rcases cons id b hg with ⟨rfl, rfl⟩ | ⟨h, hg'⟩
    · rw [upd_same]
      exact hB.more (fun _ h => h) (fun _ h => Nat.lt_succ_of_lt h) (fun i hi => Q7Q L hi)
    · rw [Q7Q L h]
      exact (hR.rep id b (hH id b hg')).keep hC hOfz (fun _ h => h) (fun _ h => Nat.lt_succ_of_lt h) (fun i hi => Q7Q L hi) (hold id b hg')
  · intro id id' b b' hg hg' hne ho k o hc hc'
    rcases cons id b hg with ⟨rfl, rfl⟩ | ⟨h, hg1⟩ <;> rcases cons id' b' hg' with ⟨rfl, rfl⟩ | ⟨h', hg2⟩
    · exact hne rfl
    · rw [upd_same] at hc; rw [Q7Q L h'] at hc'; exact hnewOld id' b' hg2 k o hc hc'
    · rw [upd_same] at hc'; rw [Q7Q L h] at hc; exact hnewOld id b hg1 k o hc' hc
    · rw [Q7Q L h] at hc; rw [Q7Q L h'] at hc'; exact hR.dis id id' b b' (hH _ _ hg1) (hH _ _ hg2) hne ho k o hc hc'
  · intro id b hg ho k o hc hk
    rcases cons id b hg with ⟨rfl, rfl⟩ | ⟨h, hg1⟩
    · rw [upd_same] at hc
      rcases hnew k o hc with h | h | ⟨id', b', h1, h2, h3, h4⟩
      · exact absurd (hR.lt k hk) (by omega)
      · exact hOfz k o h hk
      · exact hR.fz id' b' h1 h2 k o h4 hk
    · rw [Q7Q L h] at hc; exact hR.fz id b (hH _ _ hg1) ho k o hc hk
  · rintro k o ⟨id, b, hg, ho, hc⟩
    rcases cons id b hg with ⟨rfl, rfl⟩ | ⟨h, hg1⟩
    · rw [upd_same] at hc
      rcases hnew k o hc with h | h | ⟨id', b', h1, h2, h3, h4⟩
      · exact .inr h
      · exact .inl (hOc k o h)
      · exact .inl ⟨id', b', h1, h2, h4⟩
    · rw [Q7Q L h] at hc; exact .inl ⟨id, b, hH _ _ hg1, ho, hc⟩
theorem After.new (hR : Rel S (fun i => i < st.nx) φ Fz st.heap w) {w' : World} (hC : Chg (fun _ _ => False) w w') (L : Loc) (blk : Blk S.K) (hB : BRep S (fun i => i < st.nx) φ Fz w' L blk)
    (hnew : ∀ k o, cellsOf L blk k o → w.heap.size ≤ k) (hown : blk.own = true) : After S φ Fz st w (upd φ st.nx L) Fz { st with heap := (st.nx, blk) :: st.heap, nx := st.nx + 1 } w' :=
  After.repl hR (fun _ _ h => h) (fun _ _ h => h.elim) hC L blk hB (fun k o h => .inl (hnew k o h)) hown
theorem After.put (hR : Rel S (fun i => i < st.nx) φ Fz st.heap w) {w' : World} {id : Nat} {b blk : Blk S.K} (hg : get st.heap id = some b) (hbo : b.own = true) (hown : blk.own = true)
    (hC : Chg (cellsOf (φ id) b) w w') (hcells : ∀ k o, cellsOf (φ id) blk k o ↔ cellsOf (φ id) b k o) (hB : BRep S (fun i => i < st.nx) φ Fz w' (φ id) blk) :
    After S φ Fz st w φ Fz { st with heap := Ve.put st.heap id blk } w' := by
  have hOfz : ∀ k o, cellsOf (φ id) b k o → ¬ Fz k := fun k o h => hR.fz id b hg hbo k o h
  have cas : ∀ i c, get (Ve.put st.heap id blk) i = some c → (i = id ∧ c = blk) ∨ (i ≠ id ∧ get st.heap i = some c) := fun i c h => by
    rw [get_put] at h
    by_cases he : i = id
    · rw [if_pos he] at h; cases h; exact .inl ⟨he, rfl⟩
    · rw [if_neg he] at h; exact .inr ⟨he, h⟩
  refine ⟨⟨?_, ?_, ?_, ?_, fun k hk => Nat.lt_of_lt_of_le (hR.lt k hk) hC.size, hR.inv.keep hC hOfz (fun _ h => h)⟩, Nat.le_refl _, rfl, fun _ _ => rfl, fun _ h => h, fun _ h => .inl h, ?_, hC.mono (fun k o _ h => ⟨id, b, hg, hbo, h⟩)⟩
  · intro i c h
    rcases cas i c h with ⟨rfl, _⟩ | ⟨_, h⟩
    · exact hR.dom i b hg
    · exact hR.dom i c h
  · intro i c h
    rcases cas i c h with ⟨rfl, rfl⟩ | ⟨hne, h⟩
    · exact hB
    · exact (hR.rep i c h).keep hC hOfz (fun _ h => h) (fun _ h => h) (fun _ _ => rfl) (fun k o hc ho => hR.dis id i b c hg h (Ne.symm hne) hbo k o ho hc)
  · intro i j c c' h h' hne ho k o hc hc'
    rcases cas i c h with ⟨e1, e2⟩ | ⟨h1, g1⟩ <;> rcases cas j c' h' with ⟨e3, e4⟩ | ⟨h2, g2⟩
    · exact hne (e1.trans e3.symm)
    · subst e1 e2; exact hR.dis i j b c' hg g2 hne hbo k o ((hcells k o).1 hc) hc'
    · subst e3 e4; exact hR.dis i j c b g1 hg hne ho k o hc ((hcells k o).1 hc')
    · exact hR.dis i j c c' g1 g2 hne ho k o hc hc'
  · intro i c h ho k o hc hk
    rcases cas i c h with ⟨rfl, rfl⟩ | ⟨h1, h⟩
    · exact hOfz k o ((hcells k o).1 hc) hk
    · exact hR.fz i c h ho k o hc hk
  · rintro k o ⟨i, c, h, ho, hc⟩
    rcases cas i c h with ⟨rfl, rfl⟩ | ⟨h1, h⟩
    · exact .inl ⟨i, b, hg, hbo, (hcells k o).1 hc⟩
    · exact .inl ⟨i, c, h, ho, hc⟩
theorem After.trans {φ1 φ2 : Nat → Loc} {Fz1 Fz2 : Nat → Prop} {st1 st2 : St S.K} {w1 w2 : World} (h : After S φ Fz st w φ1 Fz1 st1 w1) (h' : After S φ1 Fz1 st1 w1 φ2 Fz2 st2 w2) : After S φ Fz st w φ2 Fz2 st2 w2 where
  rel := h'.rel
  nx := Nat.le_trans h.nx h'.nx
  slots := h'.slots.trans h.slots
  agree := fun i hi => (h'.agree i (Nat.lt_of_lt_of_le hi h.nx)).trans (h.agree i hi)
  fz := fun k hk => h'.fz k (h.fz k hk)
  fzb := fun k hk => by
    rcases h'.fzb k hk with hk | hk | hk
    · exact h.fzb k hk
    · rcases Nat.lt_or_ge k w.heap.size with hlt | hge
      · exact .inr (.inl fun o => (h.own k o (hk o)).resolve_right (by omega))
      · exact .inr (.inr hge)
    · exact .inr (.inr (Nat.le_trans h.chg.size hk))
  own := fun k o hk => by
    rcases h'.own k o hk with hk | hk
    · exact h.own k o hk
    · exact .inr (Nat.le_trans h.chg.size hk)
  chg := h.chg.trans' h'.chg (fun k o hk ho => by
    rcases h.own k o ho with h | h
    · exact h
    · omega)
theorem Q7A {K : Nat → Type} (fr : List Nat) : ∀ (H : List (Nat × Blk K)) (id : Nat), get (freeze fr H) id = (get H id).map fun b => match b with | .vec own e l => .vec (own && !mem id fr) e l | b => b
  | [], id => by simp [freeze, get]
  | (i, .vec own e l) :: r, id => by
    rw [freeze, Qw, Qw, Q7A fr r id]
    by_cases h : id = i
    · subst h; simp
    · simp [h]
  | (i, .var own cs) :: r, id => by
    rw [freeze, Qw, Qw, Q7A fr r id]
    · by_cases h : id = i
      · subst h; simp
      · simp [h]
    · intro _ _ _ _ h; cases h
theorem After.freeze (hR : Rel S (fun i => i < st.nx) φ Fz st.heap w) (fr : List Nat) : After S φ Fz st w φ (FzA φ Fz st.heap fr) { st with heap := freeze fr st.heap } w := by
  have cas : ∀ i c, get (Ve.freeze fr st.heap) i = some c → ∃ b, get st.heap i = some b ∧ (c.own = true → b.own = true) ∧ (∀ L k o, cellsOf L c k o ↔ cellsOf L b k o) ∧
      ((∃ own cs, b = .var own cs ∧ c = b) ∨ ∃ own e l, b = .vec own e l ∧ c = .vec (own && !mem i fr) e l) := fun i c h => by
    rw [Q7A] at h
    cases hb : get st.heap i with
    | none => rw [hb] at h; cases h
    | some b =>
      rw [hb] at h
      cases b with
      | var own cs => simp only [Option.map_some, Option.some.injEq] at h; subst h; exact ⟨_, rfl, fun h => h, fun _ _ _ => Iff.rfl, .inl ⟨_, _, rfl, rfl⟩⟩
      | vec own e l =>
        simp only [Option.map_some, Option.some.injEq] at h; subst h
        refine ⟨_, rfl, fun h => ?_, fun _ _ _ => Iff.rfl, .inr ⟨_, _, _, rfl, rfl⟩⟩
        simp only [Blk.own, Bool.and_eq_true] at h; exact h.1
  have hF : ∀ k, Fz k → FzA φ Fz st.heap fr k := fun k h => .inl h
  refine ⟨⟨?_, ?_, ?_, ?_, ?_, hR.inv.keep (Chg.refl (fun _ _ => False) w) (fun _ _ h => h.elim) hF⟩, Nat.le_refl _, rfl, fun _ _ => rfl, hF, ?_, ?_, Chg.refl _ _⟩
  · intro i c h; obtain ⟨b, hb, _⟩ := cas i c h; exact hR.dom i b hb
  · intro i c h
    obtain ⟨b, hb, _, _, hc⟩ := cas i c h
    have hB := (hR.rep i b hb).more (D' := fun i => i < st.nx) (φ' := φ) hF (fun _ h => h) (fun _ _ => rfl)
    rcases hc with ⟨own, cs, rfl, rfl⟩ | ⟨own, e, l, rfl, rfl⟩
    · exact hB
    · obtain ⟨h1, h2, h3, hsh, h4⟩ := hB
      refine ⟨h1, h2, h3, hsh, fun h0 => ?_⟩
      obtain ⟨g1, g2, cur, el, fz, g3, ge, g4, g5, g6⟩ := h4 h0
      refine ⟨g1, fun ho => ?_, cur, el, fz, g3, ge, g4, fun ho => g5 ?_, g6⟩
      · cases hown : own with
        | false => exact g2 hown
        | true =>
          rw [hown] at ho
          simp only [Bool.true_and, Bool.not_eq_false'] at ho
          exact .inr ⟨i, (mem_iff i fr).1 ho, own, e, l, hb, h0, rfl⟩
      · simp only [Bool.and_eq_true] at ho; exact ho.1
  · intro i j c c' h h' hne ho k o hc hc'
    obtain ⟨b, hb, hbo, hbc, _⟩ := cas i c h
    obtain ⟨b', hb', _, hbc', _⟩ := cas j c' h'
    exact hR.dis i j b b' hb hb' hne (hbo ho) k o ((hbc _ k o).1 hc) ((hbc' _ k o).1 hc')
  · intro i c h ho k o hc hk
    obtain ⟨b, hb, hbo, hbc, hform⟩ := cas i c h
    rcases hk with hk | ⟨id', hmem, own', e', l', hg', hcap, hk⟩
    · exact hR.fz i b hb (hbo ho) k o ((hbc _ k o).1 hc) hk
    · by_cases he : i = id'
      · subst he
        rw [hb] at hg'; cases hg'
        rcases hform with ⟨_, _, h1, _⟩ | ⟨own2, e2, l2, h1, h2⟩
        · cases h1
        · cases h1; subst h2
          simp only [Blk.own, Bool.and_eq_true, Bool.not_eq_true'] at ho
          rw [(mem_iff i fr).2 hmem] at ho
          exact absurd ho.2 (by simp)
      · exact hR.dis i id' b _ hb hg' he (hbo ho) k o ((hbc _ k o).1 hc) ⟨hcap, hk⟩
  · intro k hk
    rcases hk with hk | ⟨id', _, own', e', l', hg', hcap, rfl⟩
    · exact hR.lt k hk
    · exact hR.cellLt (o := 0) hg' ⟨hcap, rfl⟩
  · intro k hk
    rcases hk with hk | ⟨id', hmem, own', e', l', hg', hcap, hk⟩
    · exact .inl hk
    · cases own' with
      | true => exact .inr (.inl fun _ => ⟨id', _, hg', rfl, hcap, hk⟩)
      | false =>
        have := (hR.rep id' _ hg').2.2.2.2 hcap
        exact .inl (by rw [hk]; exact this.2.1 rfl)
  · rintro k o ⟨i, c, h, ho, hc⟩
    obtain ⟨b, hb, hbo, hbc, _⟩ := cas i c h
    exact .inl ⟨i, b, hb, hbo ho, (hbc _ k o).1 hc⟩
theorem Q9Q (P : Program) (g o : Nat) (t : TypeId) (fz : Nat × Nat) : ∀ (vs : List Value) (i : Nat) (cur : Array Value) (w : World), w.heap[g]? = some (.cells cur t fz) → o + i + vs.length ≤ cur.size → (∀ v ∈ vs, v.oneCell' = true) →
    (∀ k, o + i ≤ k → k < o + i + vs.length → ¬ (fz.1 ≤ k ∧ k < fz.2)) →
    (storeCells ⟨g, o, none⟩ vs i).run P w = .ok () (w.setRow g (cur.toList.take (o + i) ++ vs ++ cur.toList.drop (o + i + vs.length)).toArray)
  | [], i, cur, w, hg, _, _, _ => by
    simp only [storeCells, List.append_nil, List.length_nil, Nat.add_zero, List.take_append_drop, Array.toArray_toList]
    rw [setRow_self w g cur t fz hg]
    rfl
  | v :: rest, i, cur, w, hg, hl, h1, hz => by
    have hi : o + i < cur.size := by simp at hl; omega
    have hadd : (⟨g, o, none⟩ : Addr).add i = ⟨g, o + i, none⟩ := add_lit g o i
    have hcell : w.cell? ⟨g, o + i, none⟩ = some cur[o + i] := by simp [World.cell?, hg, hi]
    have hfro : w.frozen? ⟨g, o + i, none⟩ = false := by
      have := hz (o + i) (Nat.le_refl _) (by simp)
      simp [World.frozen?, hg]
      omega
    have hst : (store ((⟨g, o, none⟩ : Addr).add i) v).run P w = .ok () (w.setRow g (cur.setIfInBounds (o + i) v)) := by
      rw [hadd, run_store P w _ v _ (h1 v (by simp)), hcell]
      simp [hfro, setCell_eq_setRow w g (o + i) cur t fz v hg]
    have ih := Q9Q P g o t fz rest (i + 1) (cur.setIfInBounds (o + i) v) (w.setRow g (cur.setIfInBounds (o + i) v)) (setRow_heap w g cur _ t _ hg) (by simp at hl ⊢; omega) (fun x hx => h1 x (by simp [hx]))
      (fun k h1 h2 => hz k (by omega) (by simp; omega))
    simp only [storeCells, Sem.run_bind, hst, Result.andThen_ok, ih, setRow_setRow]
    congr 3
    have e := list_seg_step cur.toList (o + i) v rest (by simp at hl ⊢; omega)
    simpa [Array.toList_setIfInBounds, Nat.add_assoc] using e
theorem QhB {w : World} {g : Nat} {cur new : Array Value} {t : TypeId} {fz : Nat × Nat} {O : Nat → Nat → Prop} (hg : w.heap[g]? = some (.cells cur t fz)) (h : ∀ x, ¬ O g x → new[x]? = cur[x]?) (hne : ∃ x, O g x) (hz : new.size = cur.size) : Chg O w (w.setRow g new) := by
  have hs : (w.setRow g new).heap[g]? = some (.cells new t fz) := setRow_heap w g cur new t fz hg
  refine ⟨rfl, rfl, rfl, by simp [World.setRow], fun k o hk ho => ?_, fun k hk ho => ?_, fun k hk => ?_⟩
  · by_cases he : k = g
    · subst he
      refine ⟨by rw [Q3t hs, Q3t hg]; exact h o ho, ?_⟩
      simp [World.frozen?, hs, hg]
    · have := setRow_other w g k new he
      exact ⟨World.cell?_of_block this, World.frozen?_of_block this⟩
  · by_cases he : k = g
    · subst he; obtain ⟨x, hx⟩ := hne; exact absurd hx (ho x)
    · exact setRow_other w g k new he
  · by_cases he : k = g
    · subst he; unfold World.shape?; rw [hs, hg]; simp [hz]
    · exact Q3c (setRow_other w g k new he)
theorem Q8Q {α : Type} (l vs : List α) (o j : Nat) (h : o + vs.length ≤ l.length) : (l.take o ++ vs ++ l.drop (o + vs.length))[j]? = if o ≤ j ∧ j < o + vs.length then vs[j - o]? else l[j]? := by
  have h1 : (l.take o).length = o := by rw [List.length_take]; omega
  rw [List.append_assoc, List.getElem?_append]
  by_cases hj : j < o
  · rw [if_pos (by omega), if_neg (by omega), List.getElem?_take, if_pos hj]
  · rw [if_neg (by omega), h1, List.getElem?_append]
    by_cases hj2 : j < o + vs.length
    · rw [if_pos (by omega), if_pos ⟨by omega, hj2⟩]
    · rw [if_neg (by omega), if_neg (by omega), List.getElem?_drop]; congr 1; omega
end
end Go.Ve
namespace Go.Ve
open Go.RowKit
set_option linter.unusedVariables false
set_option linter.unusedSimpArgs false
theorem flat_get {S : Sig} {e : Nat} : ∀ (l : List (S.K e)) (i j : Nat) (x : S.K e) (c : Cell S.K), l[i]? = some x → (S.enc e x)[j]? = some c → (l.flatMap (S.enc e))[i * S.sz e + j]? = some c
  | [], i, _, _, _, h, _ => by simp at h
  | y :: l, 0, j, x, c, h, hc => by
    simp only [List.getElem?_cons_zero, Option.some.injEq] at h
    subst h
    have hj : j < (S.enc e y).length := (List.getElem?_eq_some_iff.1 hc).1
    rw [List.flatMap_cons, Nat.zero_mul, Nat.zero_add, List.getElem?_append_left hj]
    exact hc
  | y :: l, i + 1, j, x, c, h, hc => by
    have ih := flat_get l i j x c (by simpa using h) hc
    have hl := S.enc_length e y
    rw [List.flatMap_cons, List.getElem?_append_right (by rw [hl, Nat.add_mul]; omega), hl, show (i + 1) * S.sz e + j - S.sz e = i * S.sz e + j by rw [Nat.add_mul]; omega]
    exact ih
theorem Q8s {S : Sig} {e : Nat} : ∀ (l : List (S.K e)), (l.flatMap (S.enc e)).length = l.length * S.sz e
  | [] => by simp
  | y :: l => by rw [List.flatMap_cons, List.length_append, S.enc_length, Q8s l, List.length_cons, Nat.add_mul]; omega
theorem Qmh {S : Sig} {e : Nat} (hsz : 0 < S.sz e) : ∀ (l : List (S.K e)) (m : Nat) (c : Cell S.K), (l.flatMap (S.enc e))[m]? = some c → ∃ x, l[m / S.sz e]? = some x ∧ (S.enc e x)[m % S.sz e]? = some c
  | [], m, c, h => by simp at h
  | y :: l, m, c, h => by
    have hl := S.enc_length e y
    rw [List.flatMap_cons] at h
    by_cases hm : m < S.sz e
    · rw [List.getElem?_append_left (by omega)] at h
      rw [Nat.div_eq_of_lt hm, Nat.mod_eq_of_lt hm]
      exact ⟨y, rfl, h⟩
    · rw [List.getElem?_append_right (by omega), hl] at h
      obtain ⟨x, h1, h2⟩ := Qmh hsz l (m - S.sz e) c h
      have e1 : m / S.sz e = (m - S.sz e) / S.sz e + 1 := by
        rw [Nat.div_eq m, if_pos ⟨hsz, by omega⟩]
      have e2 : m % S.sz e = (m - S.sz e) % S.sz e := by
        rw [Nat.mod_eq m, if_pos ⟨hsz, by omega⟩]
      rw [e1, e2]
      exact ⟨x, by simpa using h1, h2⟩
def Vals (S : Sig) (Fz : Nat → Prop) (w : World) (e : Nat) (l : List (S.K e)) (vs : List Value) : Prop := All2 (TRep S Fz w) (l.flatMap (S.enc e)) vs
theorem Vals.len {S : Sig} {Fz : Nat → Prop} {w : World} {e : Nat} {l : List (S.K e)} {vs : List Value} (h : Vals S Fz w e l vs) : vs.length = l.length * S.sz e := by
  rw [← All2.len h, Q8s]
theorem All2.append {α β : Type} {R : α → β → Prop} {a a' : List α} {b b' : List β} (h : All2 R a b) (h' : All2 R a' b') : All2 R (a ++ a') (b ++ b') := by
  induction h with
  | nil => exact h'
  | cons x _ ih => exact .cons x ih
theorem Vals.append {S : Sig} {Fz : Nat → Prop} {w : World} {e : Nat} {l l' : List (S.K e)} {vs vs' : List Value} (h : Vals S Fz w e l vs) (h' : Vals S Fz w e l' vs') : Vals S Fz w e (l ++ l') (vs ++ vs') := by
  unfold Vals; rw [List.flatMap_append]; exact All2.append h h'
theorem All2.take {α β : Type} {R : α → β → Prop} {a : List α} {b : List β} (h : All2 R a b) : ∀ n, All2 R (a.take n) (b.take n) := by
  induction h with
  | nil => intro n; simp; exact .nil
  | cons x _ ih => intro n; cases n with | zero => exact .nil | succ n => exact .cons x (ih n)
theorem All2.drop {α β : Type} {R : α → β → Prop} {a : List α} {b : List β} (h : All2 R a b) : ∀ n, All2 R (a.drop n) (b.drop n) := by
  induction h with
  | nil => intro n; simp; exact .nil
  | cons x t ih => intro n; cases n with | zero => exact .cons x t | succ n => exact ih n
theorem QjX {S : Sig} {e : Nat} : ∀ (l : List (S.K e)) (n : Nat), (l.take n).flatMap (S.enc e) = (l.flatMap (S.enc e)).take (n * S.sz e)
  | [], n => by simp
  | y :: l, 0 => by simp
  | y :: l, n + 1 => by
    have hl := S.enc_length e y
    rw [List.take_succ_cons, List.flatMap_cons, List.flatMap_cons, QjX l n, show (n + 1) * S.sz e = (S.enc e y).length + n * S.sz e by rw [hl, Nat.add_mul]; omega, List.take_length_add_append]
theorem Qk5 {S : Sig} {e : Nat} : ∀ (l : List (S.K e)) (n : Nat), (l.drop n).flatMap (S.enc e) = (l.flatMap (S.enc e)).drop (n * S.sz e)
  | [], n => by simp
  | y :: l, 0 => by simp
  | y :: l, n + 1 => by
    have hl := S.enc_length e y
    rw [List.drop_succ_cons, List.flatMap_cons, Qk5 l n, show (n + 1) * S.sz e = (S.enc e y).length + n * S.sz e by rw [hl, Nat.add_mul]; omega, List.drop_length_add_append]
theorem Vals.take {S : Sig} {Fz : Nat → Prop} {w : World} {e : Nat} {l : List (S.K e)} {vs : List Value} (h : Vals S Fz w e l vs) (n : Nat) : Vals S Fz w e (l.take n) (vs.take (n * S.sz e)) := by
  unfold Vals; rw [QjX]; exact All2.take h _
theorem Vals.drop {S : Sig} {Fz : Nat → Prop} {w : World} {e : Nat} {l : List (S.K e)} {vs : List Value} (h : Vals S Fz w e l vs) (n : Nat) : Vals S Fz w e (l.drop n) (vs.drop (n * S.sz e)) := by
  unfold Vals; rw [Qk5]; exact All2.drop h _
theorem Vals.get {S : Sig} {Fz : Nat → Prop} {w : World} {e : Nat} {l : List (S.K e)} {vs : List Value} (h : Vals S Fz w e l vs) {i j : Nat} {x : S.K e} {c : Cell S.K} (hx : l[i]? = some x) (hc : (S.enc e x)[j]? = some c) : ∃ u, vs[i * S.sz e + j]? = some u ∧ TRep S Fz w c u :=
  All2.get h (flat_get l i j x c hx hc)
theorem TRep.one {S : Sig} {Fz : Nat → Prop} {w : World} {c : Cell S.K} {v : Value} (h : TRep S Fz w c v) : v.oneCell' = true := by cases h <;> rfl
theorem All2.right {α β : Type} {R : α → β → Prop} {Q : β → Prop} (hq : ∀ a b, R a b → Q b) {a : List α} {b : List β} (h : All2 R a b) : ∀ x ∈ b, Q x := by
  induction h with
  | nil => intro x hx; cases hx
  | cons r _ ih =>
    intro x hx
    rcases List.mem_cons.1 hx with rfl | hx
    · exact hq _ _ r
    · exact ih x hx
theorem Vals.one {S : Sig} {Fz : Nat → Prop} {w : World} {e : Nat} {l : List (S.K e)} {vs : List Value} (h : Vals S Fz w e l vs) : ∀ v ∈ vs, v.oneCell' = true := All2.right (fun _ _ h => h.one) h
theorem Vals.keep {S : Sig} {Fz Fz' : Nat → Prop} {w w' : World} {O : Nat → Nat → Prop} (hC : Chg O w w') (hO : ∀ k o, O k o → ¬ Fz k) (hF : ∀ k, Fz k → Fz' k) {e : Nat} {l : List (S.K e)} {vs : List Value} (h : Vals S Fz w e l vs) : Vals S Fz' w' e l vs :=
  Q2B (fun _ _ => TRep.keep hC hO hF) h
theorem QbA {S : Sig} {Fz : Nat → Prop} {w : World} {e : Nat} (hsz : 0 < S.sz e) (l : List (S.K e)) (P : Nat → Value → Prop)
    (h : ∀ (i : Nat) (x : S.K e) (j : Nat) (c : Cell S.K), l[i]? = some x → (S.enc e x)[j]? = some c → ∃ u, P (i * S.sz e + j) u ∧ TRep S Fz w c u) : ∃ vs, Vals S Fz w e l vs ∧ ∀ m v, vs[m]? = some v → P m v := by
  obtain ⟨vs, h1, h2⟩ := Q3T (R := TRep S Fz w) (P := P) (l.flatMap (S.enc e)) 0 (fun m c hm => by
    obtain ⟨x, hx, hc⟩ := Qmh hsz l m c hm
    obtain ⟨u, h1, h2⟩ := h _ x _ c hx hc
    rw [Nat.zero_add]
    rw [Nat.mul_comm, Nat.div_add_mod] at h1
    exact ⟨u, h1, h2⟩)
  exact ⟨vs, h1, fun m v hm => by have := h2 m v hm; rwa [Nat.zero_add] at this⟩
structure Src2 (P : Program) (S : Sig) (Fz : Nat → Prop) (w : World) (e : Nat) (l : List (S.K e)) (v : Value) (vs : List Value) : Prop where
  vals : Vals S Fz w e l vs
  len : ∀ w2, (Builtin.lenOf v).run P w2 = .ok l.length w2
  first : ∀ (w2 : World) (n : Nat), w2.heap = w.heap → n ≤ l.length → (Builtin.firstCells (S.sz e) n v).run P w2 = .ok (vs.take (n * S.sz e)).toArray w2
theorem QcF {P : Program} {w : World} {b o size n : Nat} {len cap : Nat} {vs : List Value} (hl : n * size ≤ vs.length) (h : ∀ j v, vs[j]? = some v → w.cell? ⟨b, o + j, none⟩ = some v) {w2 : World} (hw : w2.heap = w.heap) :
    (Builtin.firstCells size n (.slice (some ⟨b, o, none⟩) len cap)).run P w2 = .ok (vs.take (n * size)).toArray w2 := by
  refine run_firstCells_some w2 size n ⟨b, o, none⟩ len cap (vs.take (n * size)) (by rw [List.length_take]; omega) (fun j v hj => ?_)
  rw [add_lit]
  have : vs[j]? = some v := by
    rw [List.getElem?_take] at hj
    split at hj
    · exact hj
    · cases hj
  have h1 := h j v this
  unfold World.cell? at h1 ⊢
  rw [hw]; exact h1
section
variable {P : Program} {E : Env} {φ : Nat → Loc} {Fz : Nat → Prop} {st : St E.S.K} {w : World}
theorem Qe2 {own : Bool} {e : Nat} {l : List (E.S.K e)} (hsz : 0 < E.S.sz e) {D : Nat → Prop} {L : Loc} (hB : BRep E.S D φ Fz w L (.vec own e l)) : ∃ vs, Src2 P E.S Fz w e l (.slice L.addr L.len L.cap) vs := by
  obtain ⟨hlen, hs, hcap, _, hr⟩ := hB
  by_cases h0 : L.cap = 0
  · have hl : l = [] := List.eq_nil_of_length_eq_zero (by omega)
    subst hl
    refine ⟨[], All2.nil, fun w2 => by simp [Builtin.lenOf, hlen], fun w2 n hw hn => ?_⟩
    have : n = 0 := by simpa using hn
    subst this
    cases hA : L.addr <;> simp [Builtin.firstCells, loadCells, loadCellsFrom]
  · obtain ⟨ha, _, cur, el, fz, hh, _, _, _, hcells⟩ := hr h0
    obtain ⟨vs, h1, h2⟩ := QbA hsz l (fun m u => w.cell? ⟨L.b, L.o + m, none⟩ = some u) (fun i x j c hx hc => by
      obtain ⟨u, g1, g2⟩ := hcells i x j c hx hc
      exact ⟨u, by rw [Q3t hh]; exact g1, g2⟩)
    refine ⟨vs, h1, fun w2 => by simp [Builtin.lenOf, hlen], fun w2 n hw hn => ?_⟩
    rw [ha]
    exact QcF (by rw [h1.len]; exact Nat.mul_le_mul_right _ hn) h2 hw
theorem Qo2 {e : Nat} {l : List (E.S.K e)} (hsz : 0 < E.S.sz e) {v : Value} (h : TRep E.S Fz w (.arr e l) v) : ∃ vs, Src2 P E.S Fz w e l v vs := by
  cases h with
  | arr _ _ a cap vals hcap hn hf hv ht =>
    cases a with
    | none =>
      have := hn rfl
      subst this
      refine ⟨[], All2.nil, fun w2 => by simp [Builtin.lenOf], fun w2 n hw hn => ?_⟩
      have : n = 0 := by simpa using hn
      subst this
      simp [Builtin.firstCells]
    | some ad =>
      obtain ⟨vs, h1, h2⟩ := QbA hsz l (fun m u => w.cell? ⟨ad.block, ad.off + m, none⟩ = some u) (fun i x j c hx hc => ⟨_, hv i x j c hx hc ad rfl, ht i x j c hx hc⟩)
      refine ⟨vs, h1, fun w2 => by simp [Builtin.lenOf], fun w2 n hw hn => ?_⟩
      by_cases hl : l = []
      · subst hl
        have : n = 0 := by simpa using hn
        subst this
        simp [Builtin.firstCells, loadCells, loadCellsFrom]
      · have hsp := (hf ad rfl hl).1
        have : ad = ⟨ad.block, ad.off, none⟩ := by cases ad; simp at hsp ⊢; exact hsp
        rw [this]
        exact QcF (by rw [h1.len]; exact Nat.mul_le_mul_right _ hn) h2 hw
theorem QnV {v : Value} {id lo hi : Nat} {own : Bool} {e : Nat} {l : List (E.S.K e)} (hR : Rel E.S (fun i => i < st.nx) φ Fz st.heap w) (hg : get st.heap id = some (.vec own e l)) (hv : CRep E.S (fun i => i < st.nx) φ Fz w (.sub id lo hi) v) :
    ∃ L : Loc, v = .slice L.addr L.len L.cap ∧ BRep E.S (fun i => i < st.nx) φ Fz w L (.vec own e ((l.take hi).drop lo)) ∧ (L.cap ≠ 0 → L.b = (φ id).b ∧ (φ id).cap ≠ 0) := by
  obtain ⟨hd, h1, h2, h3, a, rfl, ha⟩ := hv
  have hB := hR.rep id _ hg
  refine ⟨⟨a, hi - lo, (φ id).cap - lo, (φ id).sz⟩, rfl, BRep.subv hB h1 h2 rfl rfl rfl ha, fun h0 => ?_⟩
  have h00 : (φ id).cap - lo ≠ 0 := h0
  have hc : (φ id).cap ≠ 0 := by omega
  have hab := (hB.2.2.2.2 hc).1
  refine ⟨?_, hc⟩
  have : a = some ⟨(φ id).b, (φ id).o + lo * (φ id).sz, none⟩ := by rw [ha.1 (by omega), hab, Option.map_some, add_lit]
  simp [Loc.b, this]
theorem QgN (hE : Q0r P E) (hR : Rel E.S (fun i => i < st.nx) φ Fz st.heap w) {e : Nat} (hsz : 0 < E.S.sz e) {x : Cell E.S.K} {l : List (E.S.K e)} (h : elems E st e x = some l) {v : Value} (hv : CRep E.S (fun i => i < st.nx) φ Fz w x v) :
    ∃ vs, Src2 P E.S Fz w e l v vs := by
  unfold elems at h
  split at h
  · split at h
    · next e' l' heq _ => subst heq; cases h; exact Qo2 hsz hv
    · cases h
  · split at h
    · next hg =>
      split at h
      · next heq _ => subst heq; cases h; rw [hv.2]; exact Qe2 hsz (hR.rep _ _ hg)
      · cases h
    · cases h
  · split at h
    · next hg =>
      split at h
      · next heq _ =>
        subst heq; cases h
        obtain ⟨L, rfl, hB, _⟩ := QnV hR hg hv
        exact Qe2 hsz hB
      · cases h
    · cases h
  · next s =>
    split at h
    · next heq _ =>
      subst heq; cases h
      cases hv
      have hsz1 := hE.u8sz
      obtain ⟨vs, h1, h2⟩ := QbA (Fz := Fz) (w := w) hsz (E.S.ofB s) (fun m u => ∃ b, s.data[m]? = some b ∧ u = .int .u8 b.toNat) (fun i x j c hx hc => by
        obtain ⟨b, hb, he⟩ := hE.ofB s i x hx
        rw [he] at hc
        cases j with
        | zero =>
          simp only [List.getElem?_cons_zero, Option.some.injEq] at hc
          subst hc
          exact ⟨.int .u8 b.toNat, ⟨b, by rw [hsz1]; simpa using hb, rfl⟩, .int _ _⟩
        | succ j => simp at hc)
      have hlen : vs.length = s.size := by rw [h1.len, hE.ofB_len, hsz1, Nat.mul_one]
      refine ⟨vs, h1, fun w2 => by simp [Builtin.lenOf, Qbu, hE.ofB_len], fun w2 n hw hn => ?_⟩
      have hvs : vs = s.data.toList.map fun b => Value.int .u8 b.toNat := by
        apply List.ext_getElem?
        intro m
        rw [List.getElem?_map, show s.data.toList[m]? = s.data[m]? by simp]
        cases hm : vs[m]? with
        | none =>
          have := List.getElem?_eq_none_iff.1 hm
          rw [Array.getElem?_eq_none (by show s.size ≤ m; omega)]
          rfl
        | some v =>
          obtain ⟨b, hb, rfl⟩ := h2 m v hm
          rw [hb]; rfl
      simp only [Qbu, hE.ofB_len] at hn
      rw [hvs, hsz1, Nat.mul_one, ← List.map_take]
      simp only [Builtin.firstCells, Sem.run_pure]
      congr 1
      apply Array.ext'
      simp [ByteArray.extract, ByteArray.copySlice]
      try omega
    · cases h
  · cases h
end
end Go.Ve
namespace Go.Ve
open Go.RowKit
set_option linter.unusedVariables false
set_option linter.unusedSimpArgs false
section
variable {P : Program} {E : Env} {R : Type} {φ : Nat → Loc} {Fz : Nat → Prop} {st : St E.S.K} {w : World}
theorem Qkm (hR : Rel E.S (fun i => i < st.nx) φ Fz st.heap w) {cs : List (Cell E.S.K)} {vs : List Value} (hcs : All2 (CRep E.S (fun i => i < st.nx) φ Fz w) cs vs) {k : Kn E R} {r : R} (h : newVar E st cs k = some r) (t : TypeId)
    {next : Value → World → Prop} (hG : Goal E.S φ Fz st w k r next) : next (.pointer (some ⟨w.heap.size, 0, none⟩)) (w.alloc (.cells vs.toArray t)) := by
  refine hG _ _ _ _ _ _ h (After.new hR (Chg.alloc _ w _) ⟨some ⟨w.heap.size, 0, none⟩, 0, 0, 0⟩ (.var true cs) ⟨rfl, fun j c hj => ?_⟩ (fun k o hc => ?_) rfl) ⟨Nat.lt_succ_self _, ?_⟩
  · obtain ⟨u, hu, hr⟩ := hcs.get hj
    refine ⟨u, ?_, hr.keep (Chg.alloc (fun _ _ => False) w _) (fun _ _ h => h.elim) (fun _ h => h) (fun _ h => h) (fun _ _ => rfl), fun _ => ?_⟩
    · simp only [Loc.b, Loc.o, Option.getD_some, Nat.zero_add]
      rw [World.cell?_alloc_new]
      simpa using hu
    · simp only [Loc.b, Loc.o, Option.getD_some, Nat.zero_add]
      rw [World.frozen?_alloc_new]
  · exact Nat.le_of_eq hc.1.symm
  · rw [upd_same]; rfl
theorem QqN (hR : Rel E.S (fun i => i < st.nx) φ Fz st.heap w) {b : Cell E.S.K} {v : Value} (hb : CRep E.S (fun i => i < st.nx) φ Fz w b v) {T : Nat} (hT : E.S.bt = some T) {k : Kn E R} {r : R} (h : newVar E st [.self st.nx, b] k = some r)
    {next : Value → World → Prop} (hG : Goal E.S φ Fz st w k r next) : next (.pointer (some ⟨w.heap.size, 0, none⟩)) (w.alloc (.cells #[.pointer none, v] T)) := by
  have hcs : All2 (CRep E.S (fun i => i < st.nx) φ Fz w) [.nilp, b] [.pointer none, v] := .cons rfl (.cons hb .nil)
  have hA := After.new hR (Chg.alloc (fun _ _ => False) w (.cells #[.pointer none, v] T)) ⟨some ⟨w.heap.size, 0, none⟩, 0, 0, 0⟩ (.var true [.nilp, b]) ⟨rfl, fun j c hj => by
      obtain ⟨u, hu, hr⟩ := hcs.get hj
      refine ⟨u, ?_, hr.keep (Chg.alloc (fun _ _ => False) w _) (fun _ _ h => h.elim) (fun _ h => h) (fun _ h => h) (fun _ _ => rfl), fun _ => ?_⟩
      · simp only [Loc.b, Loc.o, Option.getD_some, Nat.zero_add]
        rw [World.cell?_alloc_new]
        simpa using hu
      · simp only [Loc.b, Loc.o, Option.getD_some, Nat.zero_add]
        rw [World.frozen?_alloc_new]⟩ (fun k o hc => Nat.le_of_eq hc.1.symm) rfl
  have hg : get ((st.nx, Blk.var true [.nilp, b]) :: st.heap) st.nx = some (.var true [.nilp, b]) := by rw [Qw, if_pos rfl]
  have hB0 := hA.rel.rep st.nx _ hg
  have hsh : (w.alloc (.cells #[.pointer none, v] T)).shape? w.heap.size = some (T, 2) := by
    unfold World.shape?
    rw [heap_alloc_new]
    rfl
  have hA2 := After.put (blk := .var true [.self st.nx, b]) hA.rel hg rfl rfl (Chg.refl _ _) (fun k o => Iff.rfl) ⟨hB0.1, fun j c hj => by
    cases j with
    | zero =>
      simp only [List.getElem?_cons_zero, Option.some.injEq] at hj
      subst hj
      obtain ⟨u, h1, h2, h3⟩ := hB0.2 0 .nilp rfl
      refine ⟨u, h1, ⟨Nat.lt_succ_self _, ⟨?_, T, hT, ?_⟩, .inl h2⟩, h3⟩
      · rw [upd_same]; rfl
      · rw [upd_same]; exact hsh
    | succ j => exact hB0.2 (j + 1) c hj⟩
  have hA3 := After.trans hA hA2
  have hput : Ve.put ((st.nx, Blk.var true [.nilp, b]) :: st.heap) st.nx (Blk.var true [.self st.nx, b]) = (st.nx, Blk.var true [.self st.nx, b]) :: st.heap := by rw [Ve.put, Nat.beq_refl]; rfl
  dsimp only at hA3
  rw [hput] at hA3
  refine hG _ _ _ _ _ _ h hA3 ⟨Nat.lt_succ_self _, ?_⟩
  rw [upd_same]; rfl
theorem QmG {D : Nat → Prop} {L : Loc} {b o : Nat} (hL : L.addr = some ⟨b, o, none⟩) {e : Nat} {l : List (E.S.K e)} (hlen : L.len = l.length) (hsz : L.sz = E.S.sz e) (hcap : l.length ≤ L.cap) {w' : World} {cur : Array Value} {fz : Nat × Nat}
    (hh : w'.heap[b]? = some (.cells cur e fz)) (hs : o + L.cap * E.S.sz e ≤ cur.size) (hfz : ∀ k, o ≤ k → k < o + L.cap * E.S.sz e → ¬ (fz.1 ≤ k ∧ k < fz.2)) {vs : List Value} (hv : Vals E.S Fz w' e l vs) (hcur : ∀ (m : Nat) (v : Value), vs[m]? = some v → cur[o + m]? = some v) :
    BRep E.S D φ Fz w' L (.vec true e l) := by
  obtain ⟨eb, eo⟩ := Q6W hL
  refine ⟨hlen, hsz, hcap, fun ad had => (by rw [hL] at had; cases had; unfold World.shape?; rw [hh]; rfl), fun h0 => ⟨by rw [eb, eo]; exact hL, (fun h => by cases h), cur, e, fz, by rw [eb]; exact hh, rfl, by rw [eo]; exact hs, fun _ k h1 h2 => hfz k (by rw [eo] at h1; exact h1) (by rw [eo] at h2; exact h2), fun i x j c hx hc => ?_⟩⟩
  obtain ⟨u, hu, ht⟩ := hv.get hx hc
  exact ⟨u, by rw [eo]; exact hcur _ u hu, ht⟩
theorem QaE (hR : Rel E.S (fun i => i < st.nx) φ Fz st.heap w) {H : List (Nat × Blk E.S.K)} (hH : ∀ id b, get H id = some b → get st.heap id = some b) {e : Nat} {l : List (E.S.K e)} {k : Kn E R} {r : R} (h : Q3p E { st with heap := H } e l k = some r)
    {next : Value → World → Prop} (hG : Goal E.S φ Fz st w k r next) {w1 w' : World} (hC : Chg (fun _ _ => False) w w') {b : Nat} (hb : w.heap.size ≤ b) {cap : Nat} {cur : Array Value} {fz : Nat × Nat} (hh : w'.heap[b]? = some (.cells cur e fz))
    (hcap : l.length ≤ cap) (hs : cap * E.S.sz e ≤ cur.size) (hfz : ∀ k, k < cap * E.S.sz e → ¬ (fz.1 ≤ k ∧ k < fz.2)) {vs : List Value} (hv : Vals E.S Fz w e l vs) (hcur : ∀ (m : Nat) (v : Value), vs[m]? = some v → cur[m]? = some v) :
    next (.slice (some ⟨b, 0, none⟩) l.length cap) w' := by
  have hv' : Vals E.S Fz w' e l vs := hv.keep hC (fun _ _ h => h.elim) (fun _ h => h)
  refine hG _ _ _ _ _ _ h (After.repl hR hH (O := fun _ _ => False) (fun _ _ h => h.elim) hC ⟨some ⟨b, 0, none⟩, l.length, cap, E.S.sz e⟩ (.vec true e l)
    (QmG rfl rfl rfl hcap hh (by simpa using hs) (fun k _ h2 => hfz k (by simpa using h2)) hv' (fun m v hm => by rw [Nat.zero_add]; exact hcur m v hm)) (fun k o hc => .inl ?_) rfl) ⟨Nat.lt_succ_self _, ?_⟩
  · rw [hc.2]; exact hb
  · rw [upd_same]
set_option maxHeartbeats 1000000 in
theorem Q7q {t u ty e : TypeId} {i : TypeInfo} {d : TypeDesc} (ht : P.underlying t = some (.slice e)) (hi : P.info? e = some i) (hu : P.underlying u = some d) (hd : (∃ e', d = .slice e') ∨ d = .string)
    {ba : Option Addr} {sLen sCap n : Nat} {x : Value} {news : List Value} (hlen : ∀ w2, (Builtin.lenOf x).run P w2 = .ok n w2) (hf : ∀ w2 : World, w2.heap = w.heap → (Builtin.firstCells i.size n x).run P w2 = .ok news.toArray w2)
    (hfit : sLen + n ≤ sCap) {w' : World} (hst : (match ba with | some a => (storeCells (a.add (sLen * i.size)) news).run P w | none => .ok () w) = .ok () w') :
    (Builtin.append_ #[t, u] ty #[.slice ba sLen sCap, x]).run P w = .ok (.slice ba (sLen + n) sCap) w' := by
  cases ba with
  | none =>
    simp only [Result.ok.injEq, true_and] at hst
    subst hst
    rcases hd with ⟨e', rfl⟩ | rfl <;> simp [Builtin.append_, run_underlying ht, run_underlying hu, sizeOf, typeInfo, hi, hlen, hfit, hf w rfl]
  | some a =>
    rcases hd with ⟨e', rfl⟩ | rfl <;> simp [Builtin.append_, run_underlying ht, run_underlying hu, sizeOf, typeInfo, hi, hlen, hfit, hf w rfl, hst]
set_option maxHeartbeats 1000000 in
theorem Qhu {t u ty e : TypeId} {i : TypeInfo} {d : TypeDesc} {z : Value} (ht : P.underlying t = some (.slice e)) (hi : P.info? e = some i) (hz : i.zero = some z) (hu : P.underlying u = some d) (hd : (∃ e', d = .slice e') ∨ d = .string)
    {ba : Option Addr} {sLen sCap n : Nat} {x : Value} {olds news : List Value} (hlen : ∀ w2, (Builtin.lenOf x).run P w2 = .ok n w2) (hf : ∀ w2 : World, w2.heap = w.heap → (Builtin.firstCells i.size n x).run P w2 = .ok news.toArray w2)
    (hfo : ∀ w2 : World, w2.heap = w.heap → (Builtin.firstCells i.size sLen (.slice ba sLen sCap)).run P w2 = .ok olds.toArray w2)
    (hg : sCap < sLen + n) (hb0 : 0 < i.bytes) (hb : (sLen + n) * i.bytes ≤ 140737488355328) :
    (Builtin.append_ #[t, u] ty #[.slice ba sLen sCap, x]).run P w =
      .ok (.slice (some ⟨w.heap.size, 0, none⟩) (sLen + n) (grownCap w (sLen + n) sCap e))
        (w.drew.alloc (.cells (olds.toArray ++ news.toArray ++ Builtin.zeroCells z.cells (grownCap w (sLen + n) sCap e - (sLen + n))) e)) := by
  have hn : ¬ (sLen + n ≤ sCap) := by omega
  have hle : sLen + n ≤ (sLen + n) * i.bytes := Nat.le_mul_of_pos_right _ hb0
  have h63' : ¬ (9223372036854775807 < ((sLen : Int) + (n : Int))) := by omega
  have h48 := growslice_fits (old := sCap) hg hb
  have h48' : ¬ (281474976710656 < Builtin.nextslicecap (sLen + n) sCap * i.bytes) := by omega
  have hf1 := hf w.drew rfl
  have hf2 := hfo w.drew rfl
  rcases hd with ⟨e', rfl⟩ | rfl <;> simp [Builtin.append_, run_underlying ht, run_underlying hu, sizeOf, typeInfo, zeroValue, hi, hz, hlen, hn, h63', h48', Question.forced, hf1, hf2, newRow, grownCap] <;> (congr 2; apply Array.ext'; simp)
theorem Qrg (hE : Q0r P E) (hR : Rel E.S (fun i => i < st.nx) φ Fz st.heap w) {e : Nat} {s : Cell E.S.K} {l0 : List (E.S.K e)} {H : List (Nat × Blk E.S.K)} (h : base E st e s = some (l0, H)) {v : Value} (hv : CRep E.S (fun i => i < st.nx) φ Fz w s v) :
    ∃ L : Loc, v = .slice L.addr L.len L.cap ∧ BRep E.S (fun i => i < st.nx) φ Fz w L (.vec true e l0) ∧ (∀ id b, get H id = some b → get st.heap id = some b) ∧
      (L.cap ≠ 0 → ∃ id b, get st.heap id = some b ∧ b.own = true ∧ get H id = none ∧ ∀ o, cellsOf (φ id) b L.b o) := by
  have hdel : ∀ id j b, get (del st.heap id) j = some b → get st.heap j = some b := fun id j b hj => by
    rw [QbC] at hj
    split at hj
    · cases hj
    · exact hj
  unfold base at h
  split at h
  · cases h
    refine ⟨⟨none, 0, 0, E.S.sz e⟩, hv, ⟨rfl, rfl, Nat.le_refl _, (fun ad h => by cases h), fun h => absurd rfl h⟩, fun _ _ h => h, fun h => absurd rfl h⟩
  · split at h
    · next id e' l hg =>
      split at h
      · next heq _ =>
        subst heq; cases h
        refine ⟨φ _, hv.2, hR.rep _ _ hg, hdel _, fun h0 => ⟨_, _, hg, rfl, by rw [QbC, if_pos rfl], fun o => ⟨h0, rfl⟩⟩⟩
      · cases h
    · cases h
  · split at h
    · next hg =>
      split at h
      · next heq _ =>
        subst heq; cases h
        obtain ⟨L, hvL, hB, hL⟩ := QnV hR hg hv
        refine ⟨L, hvL, hB, hdel _, fun h0 => ⟨_, _, hg, rfl, by rw [QbC, if_pos rfl], fun o => ⟨(hL h0).2, (hL h0).1⟩⟩⟩
      · cases h
    · cases h
  · cases h
theorem Qoy (hE : Q0r P E) (hR : Rel E.S (fun i => i < st.nx) φ Fz st.heap w) {t u ty : TypeId} {e : Nat} (ht : sliceOf E t = some e) (hu : (isSlice (kindOf E u) || isStr (kindOf E u)) = true) {s x : Cell E.S.K} {sv xv : Value}
    (hs : CRep E.S (fun i => i < st.nx) φ Fz w s sv) (hx : CRep E.S (fun i => i < st.nx) φ Fz w x xv) {k : Kn E R} {r : R} (h : Q7j E st e (bytesOf E e) s x k = some r) {next : Value → World → Prop} (hG : Goal E.S φ Fz st w k r next) :
    ∃ v w', (Builtin.append_ #[t, u] ty #[sv, xv]).run P w = .ok v w' ∧ next v w' := by
  obtain ⟨hund, i, z, ed, _, hi, hsize, hbytes, _, hb0, hz, hzc, hzl, hsz⟩ := hE.sliceOf ht
  obtain ⟨d, hud, hdk⟩ : ∃ d, P.underlying u = some d ∧ ((∃ e', d = .slice e') ∨ d = .string) := by
    cases hk : kindOf E u <;> rw [hk] at hu <;> simp [isSlice, isStr] at hu
    · obtain ⟨d, h1, h2⟩ := hE.kind hk (by simp); exact ⟨d, h1, .inr h2⟩
    · obtain ⟨d, h1, h2⟩ := hE.kind hk (by simp); exact ⟨d, h1, .inl ⟨_, h2⟩⟩
  unfold Q7j at h
  split at h
  · -- nothing to append
    have hxv : xv = .slice none 0 0 := hx
    subst hxv
    have hnil : ∀ w2, (Builtin.lenOf (.slice none 0 0)).run P w2 = .ok 0 w2 := fun w2 => by simp [Builtin.lenOf]
    have hfn : ∀ w2 : World, w2.heap = w.heap → (Builtin.firstCells i.size 0 (.slice none 0 0)).run P w2 = .ok ([] : List Value).toArray w2 := fun w2 _ => by simp [Builtin.firstCells]
    split at h
    · have hsv : sv = .slice none 0 0 := hs
      subst hsv
      exact ⟨_, _, Q7q (w' := w) hund hi hud hdk hnil hfn (Nat.le_refl _) rfl, hG _ _ _ _ _ _ h (After.refl hR) rfl⟩
    · next id =>
      split at h
      · next e' l hg =>
        obtain ⟨hd, rfl⟩ := hs
        have hB := hR.rep _ _ hg
        refine ⟨_, _, Q7q (w' := w) hund hi hud hdk hnil hfn (by have := hB.1; have := hB.2.2.1; omega) ?_, hG _ _ _ _ _ _ h (After.refl hR) ⟨hd, rfl⟩⟩
        cases (φ id).addr <;> simp [storeCells]
      · cases h
    · cases h
  · split at h
    · next l0 H l hb hl =>
      unfold sif at h
      split at h
      · next hroom =>
        obtain ⟨L, rfl, hB, hH, hown⟩ := Qrg hE hR hb hs
        obtain ⟨news, hsrc⟩ := QgN hE hR hsz hl hx
        obtain ⟨hLlen, hLsz, hLcap, hLsh, hLr⟩ := hB
        have hnl := hsrc.vals.len
        have hroom' : (l0.length + l.length) * i.bytes ≤ 140737488355328 := by
          rw [hbytes]; exact Nat.le_of_ble_eq_true hroom
        have hf : ∀ w2 : World, w2.heap = w.heap → (Builtin.firstCells i.size l.length xv).run P w2 = .ok news.toArray w2 := fun w2 hw => by
          rw [hsize, hsrc.first w2 l.length hw (Nat.le_refl _), List.take_of_length_le (by omega)]
        by_cases hfit : L.len + l.length ≤ L.cap
        · -- in place
          by_cases h0 : L.cap = 0
          · have e1 : l0 = [] := List.eq_nil_of_length_eq_zero (by omega)
            have e2 : l = [] := List.eq_nil_of_length_eq_zero (by omega)
            subst e1 e2
            have hn0 : news = [] := List.eq_nil_of_length_eq_zero (by simpa using hnl)
            subst hn0
            have hst : (match L.addr with | some a => (storeCells (a.add (L.len * i.size)) []).run P w | none => .ok () w) = .ok () w := by
              cases L.addr <;> simp [storeCells]
            refine ⟨_, _, Q7q hund hi hud hdk hsrc.len hf hfit hst, ?_⟩
            have hA := After.repl hR hH (O := fun _ _ => False) (fun _ _ h => h.elim) (Chg.refl _ w) ⟨L.addr, 0, 0, E.S.sz e⟩ (.vec true e ([] ++ [])) ⟨rfl, rfl, Nat.le_refl _, hLsh, fun h => absurd rfl h⟩ (fun k o hc => absurd rfl hc.1) rfl
            refine hG _ _ _ _ _ _ h hA ⟨Nat.lt_succ_self _, ?_⟩
            rw [upd_same]
            have : L.len = 0 := by simpa using hLlen
            simp [this, h0]
          · obtain ⟨ha, _, cur, el, fz, hh, he, hs', hun, hcells⟩ := hLr h0
            rw [he] at hh
            have hun := hun rfl
            obtain ⟨id, b0, hg0, hbo, hgH, hcl⟩ := hown h0
            have hle : (L.len + l.length) * E.S.sz e ≤ L.cap * E.S.sz e := Nat.mul_le_mul_right _ hfit
            rw [Nat.add_mul] at hle
            have hst := Q9Q P L.b (L.o + L.len * E.S.sz e) e fz news 0 cur w hh (by rw [hnl]; omega) hsrc.vals.one (fun k h1 h2 => hun k (by omega) (by rw [hnl] at h2; omega))
            have hst' : (match L.addr with | some a => (storeCells (a.add (L.len * i.size)) news).run P w | none => .ok () w) = .ok () (w.setRow L.b (cur.toList.take (L.o + L.len * E.S.sz e) ++ news ++ cur.toList.drop (L.o + L.len * E.S.sz e + news.length)).toArray) := by
              rw [ha]
              simp only [add_lit, hsize]
              simpa using hst
            refine ⟨_, _, Q7q hund hi hud hdk hsrc.len hf hfit hst', ?_⟩
            have hspl : ∀ j, (cur.toList.take (L.o + L.len * E.S.sz e) ++ news ++ cur.toList.drop (L.o + L.len * E.S.sz e + news.length)).toArray[j]? = if L.o + L.len * E.S.sz e ≤ j ∧ j < L.o + L.len * E.S.sz e + news.length then news[j - (L.o + L.len * E.S.sz e)]? else cur[j]? := fun j => by
              have hls : L.o + L.len * E.S.sz e + news.length ≤ cur.toList.length := by have h1 : cur.toList.length = cur.size := Array.length_toList; omega
              rw [List.getElem?_toArray, Q8Q _ _ _ _ hls]
              simp
            have hC : Chg (fun (k o : Nat) => k = L.b) w (w.setRow L.b (cur.toList.take (L.o + L.len * E.S.sz e) ++ news ++ cur.toList.drop (L.o + L.len * E.S.sz e + news.length)).toArray) :=
              QhB hh (fun x hx => absurd rfl hx) ⟨0, rfl⟩ (by have h2 : cur.toList.length = cur.size := Array.length_toList; simp only [List.size_toArray, List.length_append, List.length_take, List.length_drop, h2]; omega)
            have hnf : ∀ (k o : Nat), k = L.b → ¬ Fz k := fun k o hk => by rw [hk]; exact hR.fz id b0 hg0 hbo L.b 0 (hcl 0)
            obtain ⟨olds, hov, hop⟩ := QbA (Fz := Fz) (w := w) hsz l0 (fun m v => cur[L.o + m]? = some v) (fun i x j c hx hc => hcells i x j c hx hc)
            have hol := hov.len
            have hB' : BRep E.S (fun i => i < st.nx) φ Fz (w.setRow L.b (cur.toList.take (L.o + L.len * E.S.sz e) ++ news ++ cur.toList.drop (L.o + L.len * E.S.sz e + news.length)).toArray) ⟨L.addr, l0.length + l.length, L.cap, E.S.sz e⟩ (.vec true e (l0 ++ l)) := by
              refine QmG (L := ⟨L.addr, l0.length + l.length, L.cap, E.S.sz e⟩) (b := L.b) (o := L.o) ha (by simp) rfl (by simp; omega) (setRow_heap w L.b cur _ e fz hh) ?_ hun ((hov.append hsrc.vals).keep hC (fun k o h => hnf k o h) (fun _ h => h)) (fun m v hm => ?_)
              · simp only [List.size_toArray, List.length_append, List.length_take, List.length_drop, Array.length_toList]
                omega
              · rw [hspl]
                rw [List.getElem?_append] at hm
                by_cases hml : m < olds.length
                · rw [if_pos hml] at hm
                  rw [if_neg (by rw [hol] at hml; rw [hLlen]; omega)]
                  exact hop m v hm
                · rw [if_neg hml] at hm
                  have hml2 : m - olds.length < news.length := (List.getElem?_eq_some_iff.1 hm).1
                  rw [hol] at hml hml2 hm
                  rw [if_pos (by rw [hLlen]; omega)]
                  rw [← hm]; congr 1; rw [hLlen]; omega
            have hA := After.repl hR hH (O := fun (k o : Nat) => k = L.b) (fun k o hk => ⟨id, b0, hg0, hbo, hgH, by rw [hk]; exact hcl o⟩) hC _ (.vec true e (l0 ++ l)) hB' (fun k o hc => .inr (.inl (hc.2.trans (Q6W ha).1))) rfl
            refine hG _ _ _ _ _ _ h hA ⟨Nat.lt_succ_self _, ?_⟩
            rw [upd_same, hLlen]
        · -- in new memory
          obtain ⟨olds, hso⟩ := Qe2 (P := P) (w := w) (φ := φ) (Fz := Fz) hsz (D := fun i => i < st.nx) (L := L) (own := true) ⟨hLlen, hLsz, hLcap, hLsh, hLr⟩
          have hol := hso.vals.len
          have hfo : ∀ w2 : World, w2.heap = w.heap → (Builtin.firstCells i.size L.len (.slice L.addr L.len L.cap)).run P w2 = .ok olds.toArray w2 := fun w2 hw => by
            rw [hsize, hLlen]
            have := hso.first w2 l0.length hw (Nat.le_refl _)
            rw [List.take_of_length_le (by omega)] at this
            rw [hLlen] at this
            exact this
          have hrun := Qhu (ty := ty) hund hi hz hud hdk hsrc.len hf hfo (by omega) hb0 (by rw [hLlen]; exact hroom')
          refine ⟨_, _, hrun, ?_⟩
          have hge := grownCap_ge w (L.len + l.length) L.cap e
          have hzs : z.cells.size = E.S.sz e := by rw [← hzl, ← hzc, Array.length_toList]
          have hCh : Chg (fun _ _ => False) w (w.drew.alloc (.cells (olds.toArray ++ news.toArray ++ Builtin.zeroCells z.cells (grownCap w (L.len + l.length) L.cap e - (L.len + l.length))) e)) := (Chg.drew _ w).trans (Chg.alloc _ w.drew _)
          have hfin := QaE (w1 := w) hR hH h hG hCh (b := w.heap.size) (Nat.le_refl _) (cap := grownCap w (L.len + l.length) L.cap e) (heap_alloc_new w.drew _) (by rw [List.length_append]; omega)
            (by
              simp only [Array.size_append, List.size_toArray, size_zeroCells, hzs, hol, hnl, ← Nat.add_mul]
              exact Nat.mul_le_mul_right _ (by omega))
            (fun k _ hk => by simp at hk) (hso.vals.append hsrc.vals) (fun m v hm => by
              have : m < olds.length + news.length := by have := (List.getElem?_eq_some_iff.1 hm).1; simpa using this
              rw [Array.getElem?_append_left (by simpa using this)]
              simpa using hm)
          rw [List.length_append, ← hLlen] at hfin
          exact hfin
      · cases h
    · cases h
end
end Go.Ve
namespace Go.Ve
open Go.RowKit
set_option linter.unusedVariables false
set_option linter.unusedSimpArgs false
section
variable {P : Program} {E : Env} {R : Type} {φ : Nat → Loc} {Fz : Nat → Prop} {st : St E.S.K} {w : World}
theorem QiG (hR : Rel E.S (fun i => i < st.nx) φ Fz st.heap w) : ∀ {ts : List TS} {cs cs' : List (Cell E.S.K)} {fr : List Nat}, Qby st.heap ts cs = some (cs', fr) → ∀ {vs : List Value}, All2 (CRep E.S (fun i => i < st.nx) φ Fz w) cs vs → All2 (TRep E.S (FzA φ Fz st.heap fr) w) cs' vs
  | [], [], cs', fr, h, vs, hv => by cases h; cases hv; exact .nil
  | t :: ts, c :: cs, cs', fr, h, vs, hv => by
    simp only [Qby] at h
    split at h
    · next c1 f cs1 g h1 h2 =>
      cases h
      cases hv with
      | cons hc ht =>
        exact .cons ((Qkq hR h1 hc).1.fz (FzA.mono fun _ h => List.mem_append_left _ h)) (Q2B (fun _ _ h => TRep.fz (FzA.mono fun _ h => List.mem_append_right _ h) h) (QiG hR h2 ht))
    · cases h
  | [], _ :: _, _, _, h, _, _ => by simp [Qby] at h
  | _ :: _, [], _, _, h, _, _ => by simp [Qby] at h
theorem QbO (hR : Rel E.S (fun i => i < st.nx) φ Fz st.heap w) {e : Nat} {cs : List (Cell E.S.K)} {x : E.S.K e} {fr : List Nat} (h : Qaq E st e cs = some (x, fr)) {vs : List Value} (hv : All2 (CRep E.S (fun i => i < st.nx) φ Fz w) cs vs) :
    All2 (TRep E.S (FzA φ Fz st.heap fr) w) (E.S.enc e x) vs := by
  unfold Qaq at h
  split at h
  · next cs1 fr1 h1 =>
    split at h
    · next x1 h2 =>
      cases h
      rw [E.S.enc_dec e _ _ h2]
      exact QiG hR h1 hv
    · cases h
  · cases h
theorem Q4R {K : Nat → Type} {cs new : List (Cell K)} {o : Nat} (h : o + new.length ≤ cs.length) : (splice cs new o).length = cs.length := by
  unfold splice; simp; omega
theorem Qf4 {K : Nat → Type} {cs new : List (Cell K)} {o : Nat} (h : o + new.length ≤ cs.length) (j : Nat) : (splice cs new o)[j]? = if o ≤ j ∧ j < o + new.length then new[j - o]? else cs[j]? := by
  unfold splice
  rw [← List.append_assoc]
  exact Q8Q cs new o j h
theorem Qfa {b o n : Nat} (hn : 0 < n) (h : ∀ j, j < n → (∃ u, w.cell? ⟨b, o + j, none⟩ = some u) ∧ w.frozen? ⟨b, o + j, none⟩ = false) :
    ∃ cur el fz, w.heap[b]? = some (.cells cur el fz) ∧ o + n ≤ cur.size ∧ ∀ k, o ≤ k → k < o + n → ¬ (fz.1 ≤ k ∧ k < fz.2) := by
  obtain ⟨⟨u, hu⟩, _⟩ := h 0 hn
  cases hb : w.heap[b]? with
  | none => simp [World.cell?, hb] at hu
  | some ob =>
    cases ob with
    | cells cur el fz =>
      refine ⟨cur, el, fz, rfl, ?_, fun k h1 h2 => ?_⟩
      · obtain ⟨⟨u', hu'⟩, _⟩ := h (n - 1) (by omega)
        rw [Q3t hb] at hu'
        have := (Array.getElem?_eq_some_iff.1 hu').1
        omega
      · have := (h (k - o) (by omega)).2
        simp only [World.frozen?, hb] at this
        rw [show o + (k - o) = k by omega] at this
        simp at this
        omega
    | _ => simp [World.cell?, hb] at hu
theorem Qct {b o : Nat} {vs : List Value} (h1 : ∀ v ∈ vs, v.oneCell' = true) (h : ∀ j, j < vs.length → (∃ u, w.cell? ⟨b, o + j, none⟩ = some u) ∧ w.frozen? ⟨b, o + j, none⟩ = false) :
    ∃ w', (storeCells ⟨b, o, none⟩ vs).run P w = .ok () w' ∧ Chg (fun k x => k = b ∧ o ≤ x ∧ x < o + vs.length) w w' ∧ (∀ j v, vs[j]? = some v → w'.cell? ⟨b, o + j, none⟩ = some v) ∧
      ∀ cur el fz, w.heap[b]? = some (.cells cur el fz) → ∃ new : Array Value, w'.heap[b]? = some (.cells new el fz) ∧ new.size = cur.size ∧ ∀ j, new[j]? = if o ≤ j ∧ j < o + vs.length then vs[j - o]? else cur[j]? := by
  by_cases hn : vs.length = 0
  · have : vs = [] := List.eq_nil_of_length_eq_zero hn
    subst this
    refine ⟨w, by simp [storeCells], Chg.refl _ _, fun j v hj => by simp at hj, fun cur el fz hh => ⟨cur, hh, rfl, fun j => ?_⟩⟩
    rw [if_neg (by simp only [List.length_nil]; omega)]
  · obtain ⟨cur, el, fz, hh, hs, hz⟩ := Qfa (w := w) (b := b) (o := o) (n := vs.length) (by omega) h
    have hrun := Q9Q P b o el fz vs 0 cur w hh (by simpa using hs) h1 (by simpa using hz)
    rw [Nat.add_zero] at hrun
    have hls : o + vs.length ≤ cur.toList.length := by have h1 : cur.toList.length = cur.size := Array.length_toList; omega
    have hget : ∀ j, (cur.toList.take o ++ vs ++ cur.toList.drop (o + vs.length)).toArray[j]? = if o ≤ j ∧ j < o + vs.length then vs[j - o]? else cur[j]? := fun j => by
      rw [List.getElem?_toArray, Q8Q _ _ _ _ hls]; simp
    refine ⟨_, hrun, QhB hh (fun x hx => ?_) ⟨o, rfl, Nat.le_refl _, by omega⟩ (by have h2 : cur.toList.length = cur.size := Array.length_toList; simp only [List.size_toArray, List.length_append, List.length_take, List.length_drop, h2]; omega), fun j v hj => ?_, fun cur' el' fz' hh' => ?_⟩
    · rw [hget, if_neg (fun h => hx ⟨rfl, h⟩)]
    · rw [Q3t (setRow_heap w b cur _ el fz hh), hget, if_pos ⟨by omega, by have := (List.getElem?_eq_some_iff.1 hj).1; omega⟩]
      rw [show o + j - o = j by omega]; exact hj
    · rw [hh] at hh'; cases hh'
      refine ⟨_, setRow_heap w b cur _ el fz hh, ?_, hget⟩
      have h2 : cur.toList.length = cur.size := Array.length_toList
      simp only [List.size_toArray, List.length_append, List.length_take, List.length_drop, h2]
      omega
theorem QnK {K : Nat → Type} : ∀ {cs : List (Cell K)}, full cs = true → ∀ c ∈ cs, c ≠ .undef
  | [], _, c, h => by cases h
  | a :: l, h, c, hc => by
    rcases List.mem_cons.1 hc with rfl | hc
    · rintro rfl; simp [full] at h
    · refine QnK (cs := l) ?_ c hc
      cases a <;> first | exact h | (simp [full] at h)
theorem QqM {D : Nat → Prop} {cs : List (Cell E.S.K)} {vs : List Value} (h : All2 (CRep E.S D φ Fz w) cs vs) (hf : full cs = true) : ∀ v ∈ vs, v.oneCell' = true := by
  have hf' := QnK hf
  clear hf
  induction h with
  | nil => intro v hv; cases hv
  | @cons c v l l' hc _ ih =>
    intro x hx
    rcases List.mem_cons.1 hx with rfl | hx
    · exact hc.one (hf' c (by simp))
    · exact ih (fun c hc => hf' c (List.mem_cons_of_mem _ hc)) x hx
theorem Qqe (hR : Rel E.S (fun i => i < st.nx) φ Fz st.heap w) {new : List (Cell E.S.K)} (hfull : full new = true) {vs : List Value} (hvs : All2 (CRep E.S (fun i => i < st.nx) φ Fz w) new vs) {p : Cell E.S.K} {pv : Value} (hp : CRep E.S (fun i => i < st.nx) φ Fz w p pv)
    {k : St E.S.K → Option R} {r : R} (h : Qbl E st new p k = some r) {next : Value → World → Prop} (hG : ∀ st' φ' Fz' w', k st' = some r → After E.S φ Fz st w φ' Fz' st' w' → next undef w') :
    ∃ b o w', pv = .pointer (some ⟨b, o, none⟩) ∧ (storeCells ⟨b, o, none⟩ vs).run P w = .ok () w' ∧ next undef w' := by
  have hone := QqM hvs hfull
  have hlen := hvs.len
  unfold Qbl at h
  split at h
  · next id off =>
    split at h
    · next cs hg =>
      cases hb : Nat.ble (off + new.length) cs.length with
      | false => rw [hb] at h; cases h
      | true =>
        rw [hb] at h
        have hb := Nat.le_of_ble_eq_true hb
        obtain ⟨haddr, hcells⟩ := hR.rep id _ hg
        have hpre : ∀ j, j < vs.length → (∃ u, w.cell? ⟨(φ id).b, (φ id).o + off + j, none⟩ = some u) ∧ w.frozen? ⟨(φ id).b, (φ id).o + off + j, none⟩ = false := fun j hj => by
          obtain ⟨u, h1, _, h3⟩ := hcells (off + j) cs[off + j] (List.getElem?_eq_getElem (by omega))
          rw [← Nat.add_assoc] at h1 h3
          exact ⟨⟨u, h1⟩, h3 rfl⟩
        obtain ⟨w', hrun, hC, hnew, _⟩ := Qct (P := P) hone hpre
        refine ⟨_, _, w', hp.2, hrun, hG _ _ _ _ h (After.put hR hg rfl rfl (hC.mono fun k o _ hk => ⟨hk.1, by omega, by omega⟩) (fun k o => ?_) ⟨haddr, fun j c hj => ?_⟩)⟩
        · simp only [cellsOf, Q4R hb]
        · have hOfz : ∀ k o, (k = (φ id).b ∧ (φ id).o + off ≤ o ∧ o < (φ id).o + off + vs.length) → ¬ Fz k := fun k o hk => hR.fz id _ hg rfl k o ⟨hk.1, by omega, by omega⟩
          rw [Qf4 hb] at hj
          by_cases hin : off ≤ j ∧ j < off + new.length
          · rw [if_pos hin] at hj
            obtain ⟨u, hu, hr⟩ := hvs.get hj
            have h1 := hnew (j - off) u hu
            rw [show (φ id).o + off + (j - off) = (φ id).o + j by omega] at h1
            refine ⟨u, h1, hr.keep hC hOfz (fun _ h => h) (fun _ h => h) (fun _ _ => rfl), fun _ => ?_⟩
            obtain ⟨_, _, _, h3⟩ := hcells j cs[j] (List.getElem?_eq_getElem (by omega))
            have h3 := h3 rfl
            obtain ⟨cur, el, fz, hh, _, hz⟩ := Qfa (w := w) (b := (φ id).b) (o := (φ id).o + off) (n := vs.length) (by omega) hpre
            obtain ⟨w2, hrun2, _, _, hblk⟩ := Qct (P := P) hone hpre
            rw [hrun] at hrun2; cases hrun2
            obtain ⟨nw, hnw, _, _⟩ := hblk cur el fz hh
            simp only [World.frozen?, hnw]
            simp only [World.frozen?, hh] at h3
            exact h3
          · rw [if_neg hin] at hj
            obtain ⟨u, h1, h2, h3⟩ := hcells j c hj
            have hlt : j < cs.length := (List.getElem?_eq_some_iff.1 hj).1
            have := hC.cell (φ id).b ((φ id).o + j) (lt_of_cell h1) (fun hk => hin (by omega))
            exact ⟨u, by rw [this.1]; exact h1, h2.keep hC hOfz (fun _ h => h) (fun _ h => h) (fun _ _ => rfl), fun ho => by rw [this.2]; exact h3 ho⟩
    · cases h
  · next id i off =>
    split at h
    · next e l hg =>
      obtain ⟨hd, hil, rfl⟩ := hp
      have hB := hR.rep id _ hg
      obtain ⟨hl, hs, hcap, hsh, hr⟩ := hB
      have hc0 : (φ id).cap ≠ 0 := by omega
      obtain ⟨haddr, _, cur, el, fz, hh, hel, hsz, hun, hcells⟩ := hr hc0
      have hun := hun rfl
      have hilt : i < l.length := by omega
      have core : ∀ (x' : E.S.K e) (fr : List Nat) (vrow : List Value), All2 (TRep E.S (FzA φ Fz st.heap fr) w) (E.S.enc e x') vrow → mem id fr = false → off + new.length ≤ E.S.sz e →
          (∀ j v, vs[j]? = some v → vrow[off + j]? = some v) → (∀ j v, vrow[j]? = some v → ¬ (off ≤ j ∧ j < off + vs.length) → cur[(φ id).o + (i * E.S.sz e + j)]? = some v) →
          k { st with heap := put (freeze fr st.heap) id (.vec true e (l.set i x')) } = some r →
          ∃ b o w', ptrV (φ id) (i * (φ id).sz + off) = .pointer (some ⟨b, o, none⟩) ∧ (storeCells ⟨b, o, none⟩ vs).run P w = .ok () w' ∧ next undef w' := by
        intro x' fr vrow hrow hmem hoff hv1 hv2 hk
        have hmul : (i + 1) * E.S.sz e ≤ (φ id).cap * E.S.sz e := Nat.mul_le_mul_right _ (by omega)
        rw [Nat.add_mul, Nat.one_mul] at hmul
        have hpre : ∀ j, j < vs.length → (∃ u, w.cell? ⟨(φ id).b, (φ id).o + (i * (φ id).sz + off) + j, none⟩ = some u) ∧ w.frozen? ⟨(φ id).b, (φ id).o + (i * (φ id).sz + off) + j, none⟩ = false := fun j hj => by
          rw [hs]
          refine ⟨⟨cur[(φ id).o + (i * E.S.sz e + off) + j]'(by omega), by rw [Q3t hh, Array.getElem?_eq_getElem]⟩, ?_⟩
          have := hun ((φ id).o + (i * E.S.sz e + off) + j) (by omega) (by omega)
          simp only [World.frozen?, hh]
          simp
          omega
        obtain ⟨w', hrun, hC, hnew, hblk⟩ := Qct (P := P) hone hpre
        obtain ⟨nw, hnw, hnws, hnwg⟩ := hblk cur el fz hh
        refine ⟨_, _, w', rfl, hrun, ?_⟩
        have hA := After.freeze hR fr
        have hg' : get (freeze fr st.heap) id = some (.vec true e l) := by rw [Q7A, hg]; simp [hmem]
        have hOfz : ∀ (k o : Nat), (k = (φ id).b ∧ (φ id).o + (i * (φ id).sz + off) ≤ o ∧ o < (φ id).o + (i * (φ id).sz + off) + vs.length) → ¬ FzA φ Fz st.heap fr k := fun k o hk =>
          hA.rel.fz id _ hg' rfl k o ⟨hc0, hk.1⟩
        have hA2 := After.put (st := { st with heap := freeze fr st.heap }) (w' := w') (blk := .vec true e (l.set i x')) hA.rel hg' rfl rfl (hC.mono fun k o _ hk => ⟨hc0, hk.1⟩) (fun k o => Iff.rfl)
          ⟨by rw [hl, List.length_set], hs, by rw [List.length_set]; exact hcap, fun ad had => (by rw [haddr] at had; cases had; unfold World.shape?; rw [hnw]; rfl), fun _ => ⟨haddr, (fun h => by cases h), nw, el, fz, hnw, hel, by rw [hnws]; exact hsz, fun _ => hun, fun i' x j c hx hc => ?_⟩⟩
        · exact hG _ _ _ _ hk (After.trans hA hA2)
        · rw [hnwg, hs]
          have hjs : j < E.S.sz e := by have := (List.getElem?_eq_some_iff.1 hc).1; rw [E.S.enc_length] at this; exact this
          rw [List.getElem?_set] at hx
          by_cases hii : i = i'
          · subst hii
            rw [if_pos rfl, if_pos (by omega)] at hx
            cases hx
            obtain ⟨u, hu, ht⟩ := hrow.get hc
            refine ⟨u, ?_, ht.keep hC hOfz (fun _ h => h)⟩
            by_cases hin : off ≤ j ∧ j < off + vs.length
            · rw [if_pos (by omega), show (φ id).o + (i * E.S.sz e + j) - ((φ id).o + (i * E.S.sz e + off)) = j - off by omega]
              have hv : j - off < vs.length := by omega
              have h1 := hv1 (j - off) _ (List.getElem?_eq_getElem hv)
              rw [show off + (j - off) = j by omega, hu] at h1
              cases h1
              exact List.getElem?_eq_getElem hv
            · rw [if_neg (by omega)]
              exact hv2 j u hu hin
          · rw [if_neg hii] at hx
            obtain ⟨u, hu, ht⟩ := hcells i' x j c hx hc
            refine ⟨u, ?_, (ht.fz (fun k hk => .inl hk)).keep hC hOfz (fun _ h => h)⟩
            rw [if_neg ?_]
            · exact hu
            · rintro ⟨h1, h2⟩
              rcases Nat.lt_or_gt_of_ne hii with hlt | hlt
              · have : (i + 1) * E.S.sz e ≤ i' * E.S.sz e := Nat.mul_le_mul_right _ hlt
                rw [Nat.add_mul, Nat.one_mul] at this
                omega
              · have : (i' + 1) * E.S.sz e ≤ i * E.S.sz e := Nat.mul_le_mul_right _ hlt
                rw [Nat.add_mul, Nat.one_mul] at this
                omega
      split at h
      · next hwhole =>
        simp only [Bool.and_eq_true] at hwhole
        have e0 := Q03 hwhole.1
        have e1 := Q03 hwhole.2
        split at h
        · next x' fr hrow =>
          cases hm : mem id fr with
          | true => rw [hm] at h; cases h
          | false =>
            rw [hm] at h
            refine core x' fr vs (QbO hR hrow hvs) hm (by omega) (fun j v hj => by rw [e0, Nat.zero_add]; exact hj) (fun j v hj hout => ?_) h
            have := (List.getElem?_eq_some_iff.1 hj).1
            omega
        · cases h
      · cases hb : Nat.ble (off + new.length) (E.S.sz e) with
        | false => rw [hb] at h; cases h
        | true =>
          rw [hb] at h
          have hb := Nat.le_of_ble_eq_true hb
          dsimp only [chk] at h
          unfold sbind at h
          split at h
          · next x0 hx0 =>
            dsimp only at h
            split at h
            · next x' fr hrow =>
              cases hm : mem id fr with
              | true => rw [hm] at h; cases h
              | false =>
                rw [hm] at h
                obtain ⟨old, ho1, ho2⟩ := Q3T (R := CRep E.S (fun i => i < st.nx) φ Fz w) (P := fun j u => cur[(φ id).o + (i * E.S.sz e + j)]? = some u) (E.S.enc e x0) 0 (fun j c hj => by
                  obtain ⟨u, g1, g2⟩ := hcells i x0 j c hx0 hj
                  exact ⟨u, by rw [Nat.zero_add]; exact g1, g2.crep⟩)
                have hol := ho1.len
                rw [E.S.enc_length] at hol
                have hsp : All2 (CRep E.S (fun i => i < st.nx) φ Fz w) (splice (E.S.enc e x0) new off) (old.take off ++ (vs ++ old.drop (off + vs.length))) := by
                  unfold splice
                  rw [hlen]
                  exact (ho1.take off).append (hvs.append (ho1.drop _))
                have hget : ∀ j, (old.take off ++ (vs ++ old.drop (off + vs.length)))[j]? = if off ≤ j ∧ j < off + vs.length then vs[j - off]? else old[j]? := fun j => by
                  rw [← List.append_assoc]; exact Q8Q old vs off j (by omega)
                refine core x' fr _ (QbO hR hrow hsp) hm hb (fun j v hj => ?_) (fun j v hj hout => ?_) h
                · have hjl := (List.getElem?_eq_some_iff.1 hj).1
                  rw [hget, if_pos ⟨by omega, by omega⟩, show off + j - off = j by omega]; exact hj
                · rw [hget, if_neg hout] at hj
                  have := ho2 j v hj
                  rwa [Nat.zero_add] at this
            · cases h
          · cases h
    · cases h
  · cases h
end
end Go.Ve
namespace Go.Ve
open Go.RowKit
set_option linter.unusedVariables false
set_option linter.unusedSimpArgs false
section
variable {P : Program} {E : Env} {R : Type} {φ : Nat → Loc} {Fz : Nat → Prop} {st : St E.S.K} {w : World}
def Q8S (P : Program) : Option Int → Option Value → Prop
  | none, none => True
  | some n, some v => ∃ k, v = .int k n
  | _, _ => False
theorem Qkn {a : Act} (hI : Inv E.S φ Fz st a.tmps w) {o : Option Operand} {x : Option Int} (h : Qik E st o = some x) : Q8S P x (o.map a.eval) := by
  unfold Qik at h
  split at h
  · cases h; trivial
  · next o =>
    split at h
    · next k n hc =>
      cases h
      have h1 : TRep _ _ _ _ _ := QS hI hc
      show ∃ k, a.eval o = .int k n
      generalize a.eval o = v at h1
      cases h1
      exact ⟨_, rfl⟩
    · cases h
theorem Qcu {k : IntKind} {i : Int} {y : Nat} {code : BoundsCode} (h0 : 0 ≤ i) (h1 : i ≤ y) : (Instr.sliceBound (.int k i) y code).run P w = .ok i.toNat w := by
  simp [Instr.sliceBound, asIntOf, h0, h1]
theorem QaH {len : Nat} {lo hi : Option Int} {k : Nat → Nat → Option R} {r : R} (h : bounds len lo hi k = some r) {lov hiv : Option Value} (hlo : Q8S P lo lov) (hhi : Q8S P hi hiv) :
    ∃ a b, k a b = some r ∧ a ≤ b ∧ b ≤ len ∧ ∀ (isSlice : Bool) (cap : Nat), len ≤ cap → (isSlice = false → cap = len) → (Instr.sliceBounds isSlice len cap lov hiv none).run P w = .ok (a, b, cap) w := by
  unfold bounds at h
  split at h
  · cases lov <;> cases hiv <;> simp only [Q8S] at hlo hhi
    exact ⟨0, len, h, Nat.zero_le _, Nat.le_refl _, fun s cap hc _ => by simp [Instr.sliceBounds]⟩
  · next l =>
    unfold sif at h
    split at h
    · next hb =>
      simp only [le3, Bool.and_eq_true, decide_eq_true_eq] at hb
      cases lov <;> cases hiv <;> simp only [Q8S] at hlo hhi
      obtain ⟨kd, rfl⟩ := hlo
      refine ⟨l.toNat, len, h, by omega, Nat.le_refl _, fun s cap hc _ => ?_⟩
      simp [Instr.sliceBounds, Qcu hb.1 hb.2]
    · cases h
  · next x =>
    unfold sif at h
    split at h
    · next hb =>
      simp only [le3, Bool.and_eq_true, decide_eq_true_eq] at hb
      cases lov <;> cases hiv <;> simp only [Q8S] at hlo hhi
      obtain ⟨kd, rfl⟩ := hhi
      refine ⟨0, x.toNat, h, Nat.zero_le _, by omega, fun s cap hc hs => ?_⟩
      have : x ≤ (cap : Int) := by omega
      simp [Instr.sliceBounds, Qcu hb.1 this]
    · cases h
  · next l x =>
    unfold sif at h
    split at h
    · next hb =>
      split at h
      · next hb2 =>
        simp only [le3, Bool.and_eq_true, decide_eq_true_eq] at hb hb2
        cases lov <;> cases hiv <;> simp only [Q8S] at hlo hhi
        obtain ⟨kd, rfl⟩ := hhi
        obtain ⟨kd', rfl⟩ := hlo
        refine ⟨l.toNat, x.toNat, h, by omega, by omega, fun s cap hc hs => ?_⟩
        have h1 : x ≤ (cap : Int) := by omega
        have h2 : l ≤ (x.toNat : Int) := by omega
        simp [Instr.sliceBounds, Qcu hb.1 h1, Qcu hb2.1 h2]
      · cases h
    · cases h
theorem add_add (a : Addr) (x y : Nat) : (a.add x).add y = a.add (x + y) := by
  unfold Addr.add
  by_cases hx : x = 0
  · subst hx; simp
  · by_cases hy : y = 0
    · subst hy; simp [hx]
    · simp [hx, hy, Nat.add_assoc]
theorem Qrp {e : Nat} {l : List (E.S.K e)} {ad : Option Addr} {n cap : Nat} (h : TRep E.S Fz w (.arr e l) (.slice ad n cap)) {a b : Nat} (hab : a ≤ b) (hb : b ≤ l.length) :
    TRep E.S Fz w (.arr e ((l.take b).drop a)) (.slice (if cap = a then ad else ad.map (·.add (a * E.S.sz e))) (b - a) (cap - a)) := by
  cases h with
  | arr _ _ _ _ vals hcap hn hf hv ht =>
    have hlen := Qev l a b hb
    by_cases hca : cap = a
    · have : (l.take b).drop a = [] := List.eq_nil_of_length_eq_zero (by omega)
      rw [if_pos hca, this, show b - a = ([] : List (E.S.K e)).length by simp; omega]
      exact .arr e [] _ _ (fun _ _ => undef) (by simp) (fun _ => rfl) (fun _ _ h => absurd rfl h) (fun i x j c hx => by simp at hx) (fun i x j c hx => by simp at hx)
    · rw [if_neg hca, ← hlen]
      refine .arr e _ _ _ (fun i j => vals (a + i) j) (by omega) (fun h => ?_) (fun ad' h hl => ?_) (fun i x j c hx hc ad' h => ?_) (fun i x j c hx hc => ?_)
      · cases ad with
        | none => have := hn rfl; subst this; simp
        | some _ => cases h
      · cases ad with
        | none => cases h
        | some a0 =>
          simp only [Option.map_some, Option.some.injEq] at h
          subst h
          have hl0 : l ≠ [] := by rintro rfl; simp at hl
          obtain ⟨h1, h2⟩ := hf a0 rfl hl0
          unfold Addr.add
          split <;> simp [h1, h2]
      · obtain ⟨hx', _⟩ := QaU l a b i x hx
        cases ad with
        | none => cases h
        | some a0 =>
          simp only [Option.map_some, Option.some.injEq] at h
          subst h
          have := hv (a + i) x j c hx' hc a0 rfl
          have e1 : (a0.add (a * E.S.sz e)).block = a0.block := by unfold Addr.add; split <;> rfl
          have e2 : (a0.add (a * E.S.sz e)).off = a0.off + a * E.S.sz e := by
            unfold Addr.add
            split
            · next h => rw [h]; rfl
            · rfl
          rw [e1, e2, ← this]
          congr 2
          rw [Nat.add_mul]; omega
      · obtain ⟨hx', _⟩ := QaU l a b i x hx
        exact ht (a + i) x j c hx' hc
theorem Qar {t e : TypeId} {i : TypeInfo} (ht : P.underlying t = some (.slice e)) (hi : P.info? e = some i) {ad : Option Addr} {len cap : Nat} {lov hiv : Option Value} {a b : Nat} (hb : (Instr.sliceBounds true len cap lov hiv none).run P w = .ok (a, b, cap) w) :
    (Instr.sliceAt t (.slice ad len cap) lov hiv none).run P w = .ok (.slice (if cap = a then ad else ad.map (·.add (a * i.size))) (b - a) (cap - a)) w := by
  simp [Instr.sliceAt, Instr.slice, run_underlying ht, hb, sizeOf, typeInfo, hi]
theorem Qgy {a q : Option Addr} {n m k : Nat} (h : ∀ ad, a = some ad → ∃ ad0, q = some ad0 ∧ ad.block = ad0.block) : ∀ ad, (if n = m then a else a.map (·.add k)) = some ad → ∃ ad0, q = some ad0 ∧ ad.block = ad0.block := by
  intro ad had
  split at had
  · exact h ad had
  · cases a with
    | none => cases had
    | some x => cases had; obtain ⟨ad0, h1, h2⟩ := h x rfl; exact ⟨ad0, h1, by unfold Addr.add; split <;> exact h2⟩
theorem QpV (hE : Q0r P E) (hR : Rel E.S (fun i => i < st.nx) φ Fz st.heap w) {t : TypeId} {x : Cell E.S.K} {v : Value} (hv : CRep E.S (fun i => i < st.nx) φ Fz w x v) {lo hi : Option Int} {lov hiv : Option Value} (hlo : Q8S P lo lov) (hhi : Q8S P hi hiv)
    {k : Cell E.S.K → Option R} {r : R} (h : Q77 E st t x lo hi k = some r) : ∃ c u, k c = some r ∧ (Instr.sliceAt t v lov hiv none).run P w = .ok u w ∧ CRep E.S (fun i => i < st.nx) φ Fz w c u := by
  unfold Q77 at h
  split at h
  · next s =>
    cases hk : isStr (kindOf E t) with
    | false => rw [hk] at h; cases h
    | true =>
      rw [hk] at h
      have hu : P.underlying t = some .string := by
        cases hkk : kindOf E t <;> rw [hkk] at hk <;> simp [isStr] at hk
        obtain ⟨d, h1, h2⟩ := hE.kind hkk (by simp); rw [h1]; exact congrArg some h2
      obtain ⟨a, b, hkr, hab, hb, hrun⟩ := QaH (P := P) (w := w) h hlo hhi
      cases hv
      refine ⟨_, _, hkr, ?_, TRep.str _⟩
      simp [Instr.sliceAt, Instr.slice, run_underlying hu, hrun false s.size (Nat.le_refl _) (fun _ => rfl)]
  · split at h
    · next e hs =>
      obtain ⟨hund, i, z, ed, _, hi, hsize, _, _, _, _, _, _, hsz⟩ := hE.sliceOf hs
      split at h
      · have hv' : v = .slice none 0 0 := hv
        subst hv'
        obtain ⟨a, b, hkr, hab, hb, hrun⟩ := QaH (P := P) (w := w) h hlo hhi
        have ea : a = 0 := by omega
        have eb : b = 0 := by omega
        subst ea eb
        refine ⟨.nils, .slice none 0 0, hkr, ?_, rfl⟩
        rw [Qar hund hi (hrun true 0 (Nat.le_refl _) (fun h => by cases h))]; simp
      · next e' l _ =>
        cases hb : Nat.beq e' e with
        | false => rw [hb] at h; cases h
        | true =>
          rw [hb] at h
          have := Q03 hb
          subst this
          obtain ⟨a, b, hkr, hab, hbl, hrun⟩ := QaH (P := P) (w := w) h hlo hhi
          have hv' : TRep E.S Fz w (.arr e' l) v := hv
          have hsub := fun (h' : TRep E.S Fz w (.arr e' l) v) => h'
          cases hv' with
          | arr _ _ ad cap vals h1 h2 h3 h4 h5 =>
            refine ⟨_, _, hkr, Qar hund hi (hrun true cap h1 (fun h => by cases h)), ?_⟩
            rw [hsize]
            exact Qrp (.arr e' l ad cap vals h1 h2 h3 h4 h5) hab hbl
      · next id _ =>
        split at h
        · next own e' l hg =>
          cases hb : Nat.beq e' e with
          | false => rw [hb] at h; cases h
          | true =>
            rw [hb] at h
            have := Q03 hb
            subst this
            obtain ⟨a, b, hkr, hab, hbl, hrun⟩ := QaH (P := P) (w := w) h hlo hhi
            obtain ⟨hd, rfl⟩ := hv
            have hB := hR.rep _ _ hg
            have hl := hB.1
            rw [← hl] at hrun
            refine ⟨_, _, hkr, Qar hund hi (hrun true (φ id).cap (by have := hB.2.2.1; omega) (fun h => by cases h)), hd, hab, by omega, by have := hB.2.2.1; omega, _, rfl, fun hne => ?_, Qgy (fun ad h => ⟨ad, h, rfl⟩)⟩
            rw [if_neg hne, hsize, hB.2.1]
        · cases h
      · next id a0 b0 _ =>
        split at h
        · next own e' l hg =>
          cases hb : Nat.beq e' e with
          | false => rw [hb] at h; cases h
          | true =>
            rw [hb] at h
            have := Q03 hb
            subst this
            obtain ⟨a, b, hkr, hab, hbl, hrun⟩ := QaH (P := P) (w := w) h hlo hhi
            obtain ⟨hd, h1, h2, h3, ad, rfl, had⟩ := hv
            have hB := hR.rep _ _ hg
            refine ⟨_, _, hkr, Qar hund hi (hrun true ((φ id).cap - a0) (by omega) (fun h => by cases h)), hd, by omega, by omega, h3, _, by rw [show a0 + b - (a0 + a) = b - a by omega, show (φ id).cap - (a0 + a) = (φ id).cap - a0 - a by omega], fun hne => ?_, Qgy had.2⟩
            rw [if_neg (by omega), had.1 (by omega), hsize, hB.2.1, Option.map_map]
            congr 1
            funext z
            simp only [Function.comp]
            rw [add_add, ← Nat.add_mul]
        · cases h
      · cases h
    · cases h
theorem run_indexAt {t e : TypeId} {i : TypeInfo} (ht : P.underlying t = some (.slice e)) (hi : P.info? e = some i) {ad : Addr} {len cap : Nat} {k : IntKind} {n : Int} (h0 : 0 ≤ n) (h1 : n < len) :
    (Instr.indexAt t (.slice (some ad) len cap) (.int k n)).run P w = .ok (.pointer (some (ad.add (n.toNat * i.size)))) w := by
  simp [Instr.indexAt, run_underlying ht, asIntOf, h0, h1, sizeOf, typeInfo, hi]
theorem Ql6 (hE : Q0r P E) (hR : Rel E.S (fun i => i < st.nx) φ Fz st.heap w) {t : TypeId} {x : Cell E.S.K} {v : Value} (hv : CRep E.S (fun i => i < st.nx) φ Fz w x v) {n : Int} {kd : IntKind}
    {k : Cell E.S.K → Option R} {r : R} (h : Q2F E st t x n k = some r) : ∃ c u, k c = some r ∧ (Instr.indexAt t v (.int kd n)).run P w = .ok u w ∧ CRep E.S (fun i => i < st.nx) φ Fz w c u := by
  unfold Q2F at h
  split at h
  · next e hs =>
    obtain ⟨hund, i, z, ed, _, hi, hsize, _, _, _, _, _, _, hsz⟩ := hE.sliceOf hs
    split at h
    · next e' l =>
      cases hb : Nat.beq e' e with
      | false => rw [hb] at h; cases h
      | true =>
        rw [hb] at h
        have := Q03 hb
        subst this
        dsimp only [chk] at h
        unfold sbind at h
        split at h
        · next x0 hx =>
          unfold idx at hx
          split at hx
          · next h0 =>
            have hlt := (List.getElem?_eq_some_iff.1 hx).1
            have hv' : TRep E.S Fz w (.arr e' l) v := hv
            cases hv' with
            | arr _ _ ad cap vals h1 h2 h3 h4 h5 =>
              cases ad with
              | none => have := h2 rfl; subst this; simp at hx
              | some a0 =>
                have hl : l ≠ [] := by rintro rfl; simp at hx
                obtain ⟨hsp, hfz⟩ := h3 a0 rfl hl
                refine ⟨_, _, h, run_indexAt hund hi h0 (by omega), a0.block, a0.off + n.toNat * E.S.sz e', ?_, hfz, fun j c hj => ?_⟩
                · have : a0 = ⟨a0.block, a0.off, none⟩ := by cases a0; simp at hsp ⊢; exact hsp
                  rw [this, add_lit, hsize]; rfl
                · exact ⟨_, by have := h4 _ x0 j c hx hj a0 rfl; rw [Nat.add_assoc]; exact this, h5 _ x0 j c hx hj⟩
          · cases hx
        · cases h
    · next id =>
      split at h
      · next own e' l hg =>
        cases hb : Nat.beq e' e with
        | false => rw [hb] at h; cases h
        | true =>
          rw [hb] at h
          have := Q03 hb
          subst this
          dsimp only [chk] at h
          unfold sif at h
          split at h
          · next hin =>
            simp only [lt3, Bool.and_eq_true, decide_eq_true_eq] at hin
            obtain ⟨hd, rfl⟩ := hv
            have hB := hR.rep _ _ hg
            obtain ⟨hl, hs', hcap, _, hr⟩ := hB
            have hne0 : (φ id).cap ≠ 0 := by clear hr; omega
            have hlt : n.toNat < (φ id).len := by clear hr; omega
            have hlt2 : n < ((φ id).len : Int) := by clear hr; omega
            have ha := (hr hne0).1
            refine ⟨_, .pointer (some ((⟨(φ id).b, (φ id).o, none⟩ : Addr).add (n.toNat * i.size))), h, by rw [ha]; exact run_indexAt hund hi hin.1 hlt2, hd, hlt, ?_⟩
            rw [add_lit, hsize, ← hs']
            simp [ptrV]
          · cases h
      · cases h
    · next id lo hi' =>
      split at h
      · next own e' l hg =>
        cases hb : Nat.beq e' e with
        | false => rw [hb] at h; cases h
        | true =>
          rw [hb] at h
          have := Q03 hb
          subst this
          dsimp only [chk] at h
          unfold sif at h
          split at h
          · next hin =>
            simp only [lt3, Bool.and_eq_true, decide_eq_true_eq] at hin
            obtain ⟨hd, h1, h2, h3, ad, rfl, had⟩ := hv
            have hne : (φ id).cap ≠ lo := by clear had; omega
            have hne0 : (φ id).cap ≠ 0 := by clear had; omega
            have hlt : lo + n.toNat < (φ id).len := by clear had; omega
            have hlt2 : n < ((hi' - lo : Nat) : Int) := hin.2
            have hB := hR.rep _ _ hg
            obtain ⟨hl, hs', hcap, _, hr⟩ := hB
            have ha := (hr hne0).1
            have had' := had.1 hne
            rw [ha, Option.map_some, add_lit] at had'
            refine ⟨_, .pointer (some ((⟨(φ id).b, (φ id).o + lo * (φ id).sz, none⟩ : Addr).add (n.toNat * i.size))), h, by rw [had']; exact run_indexAt hund hi hin.1 hlt2, hd, hlt, ?_⟩
            rw [add_lit, hsize, ← hs']
            simp only [ptrV, Nat.add_zero, Nat.add_mul, Nat.add_assoc]
          · cases h
      · cases h
    · cases h
  · cases h
theorem Qrs (hE : Q0r P E) (hR : Rel E.S (fun i => i < st.nx) φ Fz st.heap w) {t : TypeId} {ts : Array TypeId} (hts : ts[0]? = some t) {ty : TypeId} {x : Cell E.S.K} {v : Value} (hv : CRep E.S (fun i => i < st.nx) φ Fz w x v)
    {k : Cell E.S.K → Option R} {r : R} (h : dLen E st (kindOf E t) x k = some r) : ∃ c u, k c = some r ∧ (Builtin.len_ ts ty #[v]).run P w = .ok u w ∧ CRep E.S (fun i => i < st.nx) φ Fz w c u := by
  have hstr : isStr (kindOf E t) = true → P.underlying t = some .string := fun hk => by
    cases hkk : kindOf E t <;> rw [hkk] at hk <;> simp [isStr] at hk
    obtain ⟨d, h1, h2⟩ := hE.kind hkk (by simp); rw [h1]; exact congrArg some h2
  have hsl : isSlice (kindOf E t) = true → ∃ e, P.underlying t = some (.slice e) := fun hk => by
    cases hkk : kindOf E t <;> rw [hkk] at hk <;> simp [isSlice] at hk
    obtain ⟨d, h1, h2⟩ := hE.kind hkk (by simp); exact ⟨_, by rw [h1]; exact congrArg some h2⟩
  have run_sl : isSlice (kindOf E t) = true → ∀ (a : Option Addr) (n c : Nat), (Builtin.len_ ts ty #[.slice a n c]).run P w = .ok (.int .i64 n) w := fun hk a n c => by
    obtain ⟨e, hu⟩ := hsl hk
    simp [Builtin.len_, hts, run_underlying hu, goInt]
  unfold dLen at h
  split at h
  · cases hk : isStr (kindOf E t) with
    | false => rw [hk] at h; cases h
    | true =>
      rw [hk] at h
      cases hv
      exact ⟨_, _, h, by simp [Builtin.len_, hts, run_underlying (hstr hk), goInt], TRep.int _ _⟩
  · next e l =>
    cases hk : isSlice (kindOf E t) with
    | false => rw [hk] at h; cases h
    | true =>
      rw [hk] at h
      have hv' : TRep E.S Fz w (.arr e l) v := hv
      cases hv'
      exact ⟨_, _, h, run_sl hk _ _ _, TRep.int _ _⟩
  · split at h
    · next own e l hg =>
      cases hk : isSlice (kindOf E t) with
      | false => rw [hk] at h; cases h
      | true =>
        rw [hk] at h
        obtain ⟨_, rfl⟩ := hv
        exact ⟨_, _, h, run_sl hk _ _ _, by rw [(hR.rep _ _ hg).1]; exact TRep.int _ _⟩
    · cases h
  · cases hk : isSlice (kindOf E t) with
    | false => rw [hk] at h; cases h
    | true =>
      rw [hk] at h
      obtain ⟨_, _, _, _, a, rfl, _⟩ := hv
      exact ⟨_, _, h, run_sl hk _ _ _, TRep.int _ _⟩
  · cases hk : isSlice (kindOf E t) with
    | false => rw [hk] at h; cases h
    | true =>
      rw [hk] at h
      have hv' : v = .slice none 0 0 := hv
      subst hv'
      exact ⟨_, _, h, run_sl hk _ _ _, TRep.int _ _⟩
  · cases h
theorem Q0v {D : Nat → Prop} {k : IntKind} {n : Int} {v : Value} (h : CRep E.S D φ Fz w (.int k n) v) : v = .int k n := by cases h; rfl
theorem Q7i {D : Nat → Prop} {b : Bool} {v : Value} (h : CRep E.S D φ Fz w (.bool b) v) : v = .bool b := by cases h; rfl
theorem Q8p {D : Nat → Prop} {b : Bool} {v : Value} (h : CRep E.S D φ Fz w (.lit b) v) : v = .bool b := by cases h; rfl
theorem Q2l {D : Nat → Prop} {s : ByteArray} {v : Value} (h : CRep E.S D φ Fz w (.str s) v) : v = .string s := by cases h; rfl
theorem Qgt {D : Nat → Prop} {c : Cell E.S.K} {b : Bool} (h : QhL c = some b) {v : Value} (hv : CRep E.S D φ Fz w c v) : v = .bool b := by
  cases c <;> simp [QhL] at h <;> subst h
  · exact Q7i hv
  · exact Q8p hv
theorem QdT {a : Act} {o : Operand} {n : Int} (h : QfB o = some n) {k : IntKind} {b : Int} (hv : a.eval o = .int k b) : b = n := by
  unfold QfB at h
  split at h
  · cases h; simp [Act.eval] at hv; exact hv.2.symm
  · cases h
theorem Qms {op : BinOp} {t : TypeId} {x y : Operand} {a b : Value} (ha : ∀ cs, a ≠ .agg cs) (hn : a ≠ .nilIface) : (eqGuard op t x y a b).run P w = .ok () w := by
  unfold eqGuard
  cases op <;> simp <;> (cases a <;> cases b <;> simp at * )
theorem QoC {D : Nat → Prop} {c : Cell E.S.K} {v : Value} (h : CRep E.S D φ Fz w c v) (hc : c ≠ .undef) : (∀ cs, v ≠ .agg cs) ∧ v ≠ .nilIface := by
  cases c with
  | undef => exact absurd rfl hc
  | int | bool | lit | str | arr => (have h' : TRep _ _ _ _ _ := h; cases h' <;> exact ⟨fun _ h => (by cases h), fun h => (by cases h)⟩)
  | vec id => rw [h.2]; exact ⟨fun _ h => (by cases h), fun h => (by cases h)⟩
  | sub id lo hi => obtain ⟨_, _, _, _, _, rfl, _⟩ := h; exact ⟨fun _ h => (by cases h), fun h => (by cases h)⟩
  | ptr id off => rw [h.2]; exact ⟨fun _ h => (by cases h), fun h => (by cases h)⟩
  | elt id i off => rw [h.2.2]; exact ⟨fun _ h => (by cases h), fun h => (by cases h)⟩
  | tpt e x off => obtain ⟨_, _, rfl, _⟩ := h; exact ⟨fun _ h => (by cases h), fun h => (by cases h)⟩
  | nils => rw [show v = _ from h]; exact ⟨fun _ h => (by cases h), fun h => (by cases h)⟩
  | nilp => rw [show v = _ from h]; exact ⟨fun _ h => (by cases h), fun h => (by cases h)⟩
  | nofn => rw [show v = _ from h]; exact ⟨fun _ h => (by cases h), fun h => (by cases h)⟩
  | fn f caps => rw [h.2]; exact ⟨fun _ h => (by cases h), fun h => (by cases h)⟩
  | self id => rcases h.2.2 with h | h <;> rw [h] <;> exact ⟨fun _ h => (by cases h), fun h => (by cases h)⟩
end
end Go.Ve
namespace Go.Ve
open Go.RowKit
set_option linter.unusedVariables false
set_option linter.unusedSimpArgs false
section
variable {P : Program} {E : Env} {R : Type} {φ : Nat → Loc} {Fz : Nat → Prop} {st : St E.S.K} {w : World}
theorem Q3x {op : BinOp} {t : TypeId} {x0 y0 : Operand} {a b u : Value} (ha : ∀ cs, a ≠ .agg cs) (hn : a ≠ .nilIface) (h : (binOp op t a b).run P w = .ok u w) : ((do eqGuard op t x0 y0 a b; binOp op t a b) : Sem Value).run P w = .ok u w := by
  simp [Sem.run_bind, Qms ha hn, h]
theorem QiP {tk : TK} (hE : Q0r P E) {t : TypeId} (h : kindOf E t = tk) : (∀ e, tk = .ptr e → P.underlying t = some (.pointer e)) ∧ (tk = .func → ∃ a b c, P.underlying t = some (.func a b c)) ∧ (∀ e, tk = .slice e → P.underlying t = some (.slice e)) ∧ (tk = .bool → P.underlying t = some .bool) := by
  refine ⟨fun e he => ?_, fun he => ?_, fun e he => ?_, fun he => ?_⟩ <;> subst he <;> obtain ⟨d, h1, h2⟩ := hE.kind h (by simp)
  · rw [h1]; exact congrArg some h2
  · obtain ⟨a, b, c, h2⟩ := h2; exact ⟨a, b, c, by rw [h1]; exact congrArg some h2⟩
  · rw [h1]; exact congrArg some h2
  · rw [h1]; exact congrArg some h2
theorem Qbq (t : TypeId) (x y : Value) : Op.equal t x y = Op.equalIn (9999 + 1) t x y := rfl
theorem Qce {t e : TypeId} (hu : P.underlying t = some (.pointer e)) (d : Nat) : (Op.equalIn (d + 1) t (.pointer none) (.pointer none)).run P w = .ok true w ∧ ∀ a, (Op.equalIn (d + 1) t (.pointer none) (.pointer (some a))).run P w = .ok false w ∧ (Op.equalIn (d + 1) t (.pointer (some a)) (.pointer none)).run P w = .ok false w := by
  refine ⟨?_, fun a => ⟨?_, ?_⟩⟩ <;> simp [Op.equalIn, run_underlying hu]
theorem Qog {t : TypeId} {a : Array TypeId} {b : Array TypeId} {c : Bool} (hu : P.underlying t = some (.func a b c)) (d : Nat) : (Op.equalIn (d + 1) t .nilFunc .nilFunc).run P w = .ok true w ∧ ∀ f x y, (Op.equalIn (d + 1) t .nilFunc (.func f x y)).run P w = .ok false w ∧ (Op.equalIn (d + 1) t (.func f x y) .nilFunc).run P w = .ok false w := by
  refine ⟨?_, fun f x y => ⟨?_, ?_⟩⟩ <;> simp [Op.equalIn, run_underlying hu]
theorem Qs6 {t e : TypeId} (hu : P.underlying t = some (.slice e)) (d : Nat) : (Op.equalIn (d + 1) t (.slice none 0 0) (.slice none 0 0)).run P w = .ok true w := by
  simp [Op.equalIn, run_underlying hu]
theorem Qsa {t : TypeId} (hu : P.underlying t = some .bool) (d : Nat) (a b : Bool) : (Op.equalIn (d + 1) t (.bool a) (.bool b)).run P w = .ok (a == b) w := by
  simp [Op.equalIn, run_underlying hu]
theorem Qqk (hE : Q0r P E) {t : TypeId} {D : Nat → Prop} {x y : Cell E.S.K} {b : Bool} (h : Qel (kindOf E t) x y = some b) {vx vy : Value} (hx : CRep E.S D φ Fz w x vx) (hy : CRep E.S D φ Fz w y vy) : (Op.equal t vx vy).run P w = .ok b w := by
  generalize hk : kindOf E t = tk at h
  obtain ⟨k1, k2, k3, k4⟩ := QiP hE hk
  rw [Qbq]
  unfold Qel at h
  split at h <;> cases h
  · next e => rw [show vx = _ from hx, show vy = _ from hy]; exact (Qce (k1 e rfl) _).1
  · obtain ⟨a, b, c, hu⟩ := k2 rfl; rw [show vx = _ from hx, show vy = _ from hy]; exact (Qog hu _).1
  · next e => rw [show vx = _ from hx, show vy = _ from hy]; exact Qs6 (k3 e rfl) _
  · next e _ _ => rw [show vx = _ from hx, hy.2]; exact ((Qce (k1 e rfl) _).2 _).1
  · next e _ _ _ => rw [show vx = _ from hx, hy.2.2]; exact ((Qce (k1 e rfl) _).2 _).1
  · next e _ _ _ => obtain ⟨_, _, rfl, _⟩ := hy; rw [show vx = _ from hx]; exact ((Qce (k1 e rfl) _).2 _).1
  · next e _ _ => rw [show vy = _ from hy, hx.2]; exact ((Qce (k1 e rfl) _).2 _).2
  · next e _ _ _ => rw [show vy = _ from hy, hx.2.2]; exact ((Qce (k1 e rfl) _).2 _).2
  · next e _ _ _ => obtain ⟨_, _, rfl, _⟩ := hx; rw [show vy = _ from hy]; exact ((Qce (k1 e rfl) _).2 _).2
  · obtain ⟨a, b, c, hu⟩ := k2 rfl; rw [show vx = _ from hx, hy.2]; exact ((Qog hu _).2 _ _ _).1
  · obtain ⟨a, b, c, hu⟩ := k2 rfl; rw [show vy = _ from hy, hx.2]; exact ((Qog hu _).2 _ _ _).2
theorem Qp3 {D : Nat → Prop} {tk : TK} {x y : Cell E.S.K} {b : Bool} (h : Qel tk x y = some b) {vx : Value} (hx : CRep E.S D φ Fz w x vx) : (∃ a, vx = .pointer a) ∨ vx = .nilFunc ∨ (∃ f a b, vx = .func f a b) ∨ ∃ a n c, vx = .slice a n c := by
  unfold Qel at h
  split at h <;> first
    | (cases h; done)
    | exact .inl ⟨_, hx⟩
    | exact .inl ⟨_, hx.2⟩
    | exact .inl ⟨_, hx.2.2⟩
    | (obtain ⟨_, _, rfl, _⟩ := hx; exact .inl ⟨_, rfl⟩)
    | exact .inr (.inl hx)
    | exact .inr (.inr (.inl ⟨_, _, _, hx.2⟩))
    | exact .inr (.inr (.inr ⟨_, _, _, hx⟩))
theorem Qib {t : TypeId} {a b : Value} {r : Bool} (hv : (∃ p, a = .pointer p) ∨ a = .nilFunc ∨ (∃ f x y, a = .func f x y) ∨ (∃ p n c, a = .slice p n c) ∨ ∃ x, a = .bool x) (h : (Op.equal t a b).run P w = .ok r w) :
    (binOp .eql t a b).run P w = .ok (.bool r) w ∧ (binOp .neq t a b).run P w = .ok (.bool (!r)) w := by
  have e1 : binOp .eql t a b = (do pure (.bool (← Op.equal t a b))) := by
    rcases hv with ⟨p, rfl⟩ | rfl | ⟨f, x, y, rfl⟩ | ⟨p, n, c, rfl⟩ | ⟨x, rfl⟩ <;> cases b <;> rfl
  have e2 : binOp .neq t a b = (do pure (.bool (!(← Op.equal t a b)))) := by
    rcases hv with ⟨p, rfl⟩ | rfl | ⟨f, x, y, rfl⟩ | ⟨p, n, c, rfl⟩ | ⟨x, rfl⟩ <;> cases b <;> rfl
  rw [e1, e2]
  simp [h]
theorem Qnu {tk : TK} {x y : Cell E.S.K} {b : Bool} (h : Qel tk x y = some b) : x ≠ .undef ∧ y ≠ .undef := by
  unfold Qel at h
  split at h <;> first | (cases h; exact ⟨fun h => (by cases h), fun h => (by cases h)⟩) | (cases h)
theorem Qk7 {op : BinOp} {k yk : IntKind} {a b : Int} (h0 : ¬ b < 0) : (op = .shl → (Op.shift op k a yk b).run P w = .ok (.int k (k.wrap (a * 2 ^ min b.toNat k.bits))) w) ∧ (op = .shr → (Op.shift op k a yk b).run P w = .ok (.int k (a.fdiv (2 ^ min b.toNat k.bits))) w) := by
  constructor <;> rintro rfl <;> simp [Op.shift, h0]
set_option maxHeartbeats 1000000 in
theorem Qnl (hE : Q0r P E) {a : Act} {t : TypeId} {op : BinOp} {x0 y0 : Operand} {D : Nat → Prop} {x y : Cell E.S.K} (hx : CRep E.S D φ Fz w x (a.eval x0)) (hy : CRep E.S D φ Fz w y (a.eval y0)) {k : Cell E.S.K → Option R} {r : R}
    (h : Q4k op (kindOf E t) y0 x y k = some r) : ∃ c u, k c = some r ∧ ((do eqGuard op t x0 y0 (a.eval x0) (a.eval y0); binOp op t (a.eval x0) (a.eval y0)) : Sem Value).run P w = .ok u w ∧ CRep E.S D φ Fz w c u := by
  unfold Q4k at h
  split at h
  · next i n i' m =>
    have e1 := Q0v hx
    have e2 := Q0v hy
    have key : ¬ m < 0 → k (.int i (i.wrap (n * 2 ^ min m.toNat i.bits))) = some r → ∃ c u, k c = some r ∧ ((do eqGuard .shl t x0 y0 (a.eval x0) (a.eval y0); binOp .shl t (a.eval x0) (a.eval y0)) : Sem Value).run P w = .ok u w ∧ CRep E.S D φ Fz w c u := fun h0 hk => by
      refine ⟨_, _, hk, Q3x (by rw [e1]; simp) (by rw [e1]; simp) ?_, TRep.int _ _⟩
      rw [e1, e2]; exact (Qk7 (yk := i') h0).1 rfl
    split at h
    · next q hq =>
      have hm := QdT hq e2
      cases hc : (!decide (q < 0)) with
      | false => rw [hc] at h; cases h
      | true => rw [hc] at h; exact key (by rw [hm]; simpa using hc) h
    · unfold sif at h
      split at h
      · cases h
      · next hc => exact key (by simpa using hc) h
  · next i n i' m =>
    have e1 := Q0v hx
    have e2 := Q0v hy
    have key : ¬ m < 0 → k (.int i (n.fdiv (2 ^ min m.toNat i.bits))) = some r → ∃ c u, k c = some r ∧ ((do eqGuard .shr t x0 y0 (a.eval x0) (a.eval y0); binOp .shr t (a.eval x0) (a.eval y0)) : Sem Value).run P w = .ok u w ∧ CRep E.S D φ Fz w c u := fun h0 hk => by
      refine ⟨_, _, hk, Q3x (by rw [e1]; simp) (by rw [e1]; simp) ?_, TRep.int _ _⟩
      rw [e1, e2]; exact (Qk7 (yk := i') h0).2 rfl
    split at h
    · next q hq =>
      have hm := QdT hq e2
      cases hc : (!decide (q < 0)) with
      | false => rw [hc] at h; cases h
      | true => rw [hc] at h; exact key (by rw [hm]; simpa using hc) h
    · unfold sif at h
      split at h
      · cases h
      · next hc => exact key (by simpa using hc) h
  · next i n i' m =>
    have e1 := Q0v hx
    have e2 := Q0v hy
    cases hb : Q1M i i' with
    | false => rw [hb] at h; cases h
    | true =>
      rw [hb] at h
      have := Qbk hb
      subst this
      have key : ¬ m = 0 → k (.int i (i.wrap (n.tdiv m))) = some r → ∃ c u, k c = some r ∧ ((do eqGuard .quo t x0 y0 (a.eval x0) (a.eval y0); binOp .quo t (a.eval x0) (a.eval y0)) : Sem Value).run P w = .ok u w ∧ CRep E.S D φ Fz w c u := fun h0 hk => by
        refine ⟨_, _, hk, Q3x (by rw [e1]; simp) (by rw [e1]; simp) ?_, TRep.int _ _⟩
        rw [e1, e2]; simp [binOp, Op.intDiv, h0]
      dsimp only [chk] at h
      split at h
      · next q hq =>
        have hm := QdT hq e2
        cases hc : (!decide (q = 0)) with
        | false => rw [hc] at h; cases h
        | true => rw [hc] at h; exact key (by rw [hm]; simpa using hc) h
      · unfold sif at h
        split at h
        · cases h
        · next hc => exact key (by simpa using hc) h
  · next i n i' m =>
    have e1 := Q0v hx
    have e2 := Q0v hy
    cases hb : Q1M i i' with
    | false => rw [hb] at h; cases h
    | true =>
      rw [hb] at h
      have := Qbk hb
      subst this
      have key : ¬ m = 0 → k (.int i (n.tmod m)) = some r → ∃ c u, k c = some r ∧ ((do eqGuard .rem t x0 y0 (a.eval x0) (a.eval y0); binOp .rem t (a.eval x0) (a.eval y0)) : Sem Value).run P w = .ok u w ∧ CRep E.S D φ Fz w c u := fun h0 hk => by
        refine ⟨_, _, hk, Q3x (by rw [e1]; simp) (by rw [e1]; simp) ?_, TRep.int _ _⟩
        rw [e1, e2]; simp [binOp, Op.intDiv, h0]
      dsimp only [chk] at h
      split at h
      · next q hq =>
        have hm := QdT hq e2
        cases hc : (!decide (q = 0)) with
        | false => rw [hc] at h; cases h
        | true => rw [hc] at h; exact key (by rw [hm]; simpa using hc) h
      · unfold sif at h
        split at h
        · cases h
        · next hc => exact key (by simpa using hc) h
  · next i n i' m _ _ _ _ =>
    have e1 := Q0v hx
    have e2 := Q0v hy
    cases hb : Q1M i i' with
    | false => rw [hb] at h; cases h
    | true =>
      rw [hb] at h
      have := Qbk hb
      subst this
      dsimp only [chk] at h
      split at h <;> first
        | (cases h; done)
        | exact ⟨_, _, h, Q3x (by rw [e1]; simp) (by rw [e1]; simp) (by rw [e1, e2]; simp only [binOp, ne_eq, not_true_eq_false, if_false, Op.intArith, Op.intBits, Op.intCmp]; rfl), TRep.int _ _⟩
        | exact ⟨_, _, h, Q3x (by rw [e1]; simp) (by rw [e1]; simp) (by rw [e1, e2]; simp only [binOp, ne_eq, not_true_eq_false, if_false, Op.intArith, Op.intBits, Op.intCmp]; rfl), TRep.bool _⟩
  · next s1 s2 =>
    have e1 := Q2l hx
    have e2 := Q2l hy
    split at h
    · unfold sif at h
      split at h
      · next hj =>
        refine ⟨_, _, h, Q3x (by rw [e1]; simp) (by rw [e1]; simp) ?_, TRep.str _⟩
        rw [e1, e2]
        have : ¬ (IntKind.i64.max < ((s1.size + s2.size : Nat) : Int)) := by
          have hj' := Nat.le_of_ble_eq_true hj
          rw [show IntKind.i64.max = 9223372036854775807 from rfl]
          omega
        simp only [binOp, Op.stringOp]
        rw [if_neg (by simpa using this)]
        rfl
      · cases h
    all_goals first
      | (cases h; done)
      | exact ⟨_, _, h, Q3x (by rw [e1]; simp) (by rw [e1]; simp) (by rw [e1, e2]; rfl), TRep.bool _⟩
  · split at h
    · next b hb =>
      obtain ⟨hxu, hyu⟩ := Qnu hb
      obtain ⟨hx1, hx2⟩ := QoC hx hxu
      have hrun := Qqk hE hb hx hy
      have hval := Qp3 hb hx
      have hr := Qib (P := P) (w := w) (hval.imp id (fun h => h.imp id (fun h => h.imp id .inl))) hrun
      split at h
      · exact ⟨_, _, h, Q3x hx1 hx2 hr.1, TRep.lit _⟩
      · exact ⟨_, _, h, Q3x hx1 hx2 hr.2, TRep.lit _⟩
      · cases h
    · split at h
      · next ba bb hk h1 h2 =>
        have e1 := Qgt h1 hx
        have e2 := Qgt h2 hy
        have hu := (QiP hE hk).2.2.2 rfl
        have hr := Qib (P := P) (w := w) (t := t) (a := a.eval x0) (b := a.eval y0) (.inr (.inr (.inr (.inr ⟨_, e1⟩)))) (by rw [e1, e2, Qbq]; exact Qsa hu _ ba bb)
        split at h
        · exact ⟨_, _, h, Q3x (by rw [e1]; simp) (by rw [e1]; simp) hr.1, TRep.bool _⟩
        · exact ⟨_, _, h, Q3x (by rw [e1]; simp) (by rw [e1]; simp) hr.2, TRep.bool _⟩
        · cases h
      · cases h
theorem Qpk {a : Act} {op : UnOp} {D : Nat → Prop} {x : Cell E.S.K} {v : Value} (hx : CRep E.S D φ Fz w x v) {k : Cell E.S.K → Option R} {r : R} (h : Q6I op x k = some r) : ∃ c u, k c = some r ∧ (Op.unary op v).run P w = .ok u w ∧ CRep E.S D φ Fz w c u := by
  unfold Q6I at h
  split at h
  · rw [Q0v hx]; exact ⟨_, _, h, rfl, TRep.int _ _⟩
  · rw [Q0v hx]; exact ⟨_, _, h, rfl, TRep.int _ _⟩
  · rw [Q7i hx]; exact ⟨_, _, h, rfl, TRep.bool _⟩
  · rw [Q8p hx]; exact ⟨_, _, h, rfl, TRep.lit _⟩
  · cases h
end
end Go.Ve
