/- The evaluator: values, heaps and steps of an abstract machine that the kernel can run, whatever the tape answers. -/
import Derived.WalkKit
set_option linter.unusedVariables false
namespace Go.Ev
open Go
noncomputable section
/-- tries over numbers -/
inductive T (α : Type) where
  | e
  | n (v : Option α) (a b c d : T α)
/-- cells -/
inductive CV where
  | b (x : Bool)
  | i (k : IntKind) (n : Int)
  | y (k : IntKind) (c : Int) (l : List (Int × Int × Int))
  | s (x : ByteArray)
  | nilp
  | ptr (n off : Nat)
  | nils
  | emp
  | sl (n off len cap sz : Nat) (ex : Bool)
  | nilm
  | mp (n : Nat)
  | nilf
  | fn (f : FuncId) (c : Nat)
  | yl (n : Nat)
inductive AS where
  | c (x : CV)
  | agg (l : List CV)
inductive AV where
  | u
  | c (x : CV)
  | agg (l : List CV)
  | tup (l : List AS)
/-- temporaries: what is known of them -/
inductive TM where
  | nil
  | cons (t : Nat) (v : AV) (r : TM)
inductive TD where
  | sc | int (k : IntKind) | str | bool | ptr (e : TypeId) | slice (e : TypeId) | array (n : Nat) (e : TypeId)
  | struct (fs : List (Nat × TypeId)) | map (k e : TypeId) | func
structure TI where
  d : TD
  sz : Nat
  by_ : Nat
  z : List CV
structure LoopR where
  st : LoopState
  pend : Option Code
  fn : FuncId
  tmps : TM
  ps : List Tmp
  assign : Code
  body : Code
  dfr : Nat
  nt : Nat
structure ME where
  k : CV
  v : AS
  c : Nat
inductive AO where
  | cells (l : List CV) (sib : Option Nat)
  | ro (l : List CV)
  | map (l : List ME) (clk : Nat)
  | loop (r : LoopR)
  | dfr (o : Bool)
  | caps (l : List AS)
structure H where
  nx : Nat
  t : T AO
/-- what a call hands back: a value, or a new row -/
inductive SmR where
  | val (v : CV)
  | row (l : List CV) (len cap sz : Nat)
structure Sm where
  args : List AV
  foot : List (Nat × List CV)
  res : SmR
structure Env where
  fs : T Func
  ty : T TI
  lv : T (T Nat)
  rg : T (T (List (Nat × List Nat)))
  sm : T (List Sm)
/-! ### the bare tools -/
def bf {α : Type} (b : Bool) (t e : α) : α := @Bool.rec (fun _ => α) e t b
/-- the digit's part -/
def d4 {α : Type} (k : Nat) (a b c d : α) : α := (@Nat.rec (fun _ => α) (a) (fun k _ => (@Nat.rec (fun _ => α) (b) (fun k _ => (@Nat.rec (fun _ => α) (c) (fun k _ => d)) k)) k)) (Nat.mod k 4)
def T.get {α : Type} (t : T α) : Nat → Option α :=
  (@T.rec α (fun _ => Nat → Option α) (fun _ => none) (fun v a b c d A B C D => fun k => (@Nat.rec (fun _ => Option α) (v) (fun k _ => d4 k A B C D (Nat.div k 4))) k)) t
section
variable {R : Type}
abbrev Out (R : Type) := Option R
def TM.get (tm : TM) : Nat → Option AV := (@TM.rec (fun _ => Nat → Option AV) (fun _ => none) (fun t v r ih => fun k => bf (Nat.beq t k) (some v) (ih k))) tm
/-- those of the set m (bits) alone -/
def TM.keepK (tm : TM) : Nat → (TM → Option R) → Option R :=
  (@TM.rec (fun _ => Nat → (TM → Option R) → Option R) (fun _ K => K .nil) (fun t v r ih => fun m K => bf (Nat.beq (Nat.land (Nat.shiftRight m t) 1) 1) (ih (Nat.xor m (Nat.pow 2 t)) fun r => K (.cons t v r)) (ih m K))) tm
def ob {α : Type} (x : Option α) : (α → Option R) → Option R := (@Option.rec α (fun _ => (α → Option R) → Option R) (fun _ => none) (fun a => fun K => K a)) x
def fN (n : Nat) : (Nat → Option R) → Option R := (@Nat.rec (fun _ => (Nat → Option R) → Option R) (fun K => K 0) (fun n _ => fun K => K (Nat.succ n))) n
def fI (n : Int) : (Int → Option R) → Option R := (@Int.rec (fun _ => (Int → Option R) → Option R) (fun n => fun K => fN n fun n => K (Int.ofNat n)) (fun n => fun K => fN n fun n => K (Int.negSucc n))) n
def fB (b : Bool) : (Bool → Option R) → Option R := (@Bool.rec (fun _ => (Bool → Option R) → Option R) (fun K => K false) (fun K => K true)) b
/-- 'K' gets the trie with v at k (d: the depth) -/
def T.setK {α : Type} (d : Nat) : T α → Nat → Option α → (T α → Option R) → Option R :=
  (@Nat.rec (fun _ => T α → Nat → Option α → (T α → Option R) → Option R) (fun _ _ _ _ => none) (fun _ ih => fun t k v K =>
    ((@T.rec α (fun _ => Nat → Option α → (T α → Option R) → (T α → Nat → Option α → (T α → Option R) → Option R) → Option R) (fun k v K ih =>
      (@Nat.rec (fun _ => Option R) (K (.n v .e .e .e .e)) (fun k _ => ih .e (Nat.div k 4) v (d4 k (fun x => K (.n none x .e .e .e)) (fun x => K (.n none .e x .e .e)) (fun x => K (.n none .e .e x .e)) (fun x => K (.n none .e .e .e x))))) k) (fun w a b c d _ _ _ _ => fun k v K ih =>
      (@Nat.rec (fun _ => Option R) (K (.n v a b c d)) (fun k _ => ih (d4 k a b c d) (Nat.div k 4) v (d4 k (fun x => K (.n w x b c d)) (fun x => K (.n w a x c d)) (fun x => K (.n w a b x d)) (fun x => K (.n w a b c x))))) k)) t) k v K ih)) d
/-! ### lists -/
section
variable {α : Type}
/-- the first n -/
def takeK (l : List α) : Nat → (List α → Option R) → Option R :=
  (@List.rec α (fun _ => Nat → (List α → Option R) → Option R) (fun n K => (@Nat.rec (fun _ => Option R) (K []) (fun _ _ => none)) n) (fun a l ih => fun n K => (@Nat.rec (fun _ => Option R) (K []) (fun m _ => ih m fun x => K (a :: x))) n)) l
def dropK (l : List α) : Nat → (List α → Option R) → Option R :=
  (@List.rec α (fun _ => Nat → (List α → Option R) → Option R) (fun n K => (@Nat.rec (fun _ => Option R) (K []) (fun _ _ => none)) n) (fun a l ih => fun n K => (@Nat.rec (fun _ => Option R) (K (a :: l)) (fun m _ => ih m K)) n)) l
def partK (l : List α) (off n : Nat) (K : List α → Option R) : Option R := dropK l off fun m => takeK m n K
/-- vs laid over l (they must lie within) -/
def overK (l : List α) : List α → (List α → Option R) → Option R :=
  (@List.rec α (fun _ => List α → (List α → Option R) → Option R) (fun vs K => (@List.rec α (fun _ => Option R) (K []) (fun _ _ _ => none)) vs) (fun a l ih => fun vs K => (@List.rec α (fun _ => Option R) (K (a :: l)) (fun v vs _ => ih vs fun m => K (v :: m))) vs)) l
def putK (l : List α) : Nat → List α → (List α → Option R) → Option R :=
  (@List.rec α (fun _ => Nat → List α → (List α → Option R) → Option R) (fun n vs K => (@Nat.rec (fun _ => Option R) (overK [] vs K) (fun _ _ => none)) n) (fun a l ih => fun n vs K => (@Nat.rec (fun _ => Option R) (overK (a :: l) vs K) (fun m _ => ih m vs fun x => K (a :: x))) n)) l
def appK (l : List α) : List α → (List α → Option R) → Option R :=
  (@List.rec α (fun _ => List α → (List α → Option R) → Option R) (fun m K => K m) (fun a l ih => fun m K => ih m fun x => K (a :: x))) l
def repK (n : Nat) : List α → (List α → Option R) → Option R :=
  (@Nat.rec (fun _ => List α → (List α → Option R) → Option R) (fun _ K => K []) (fun _ ih => fun z K => ih z fun l => appK z l K)) n
def getL (l : List α) : Nat → Option α := (@List.rec α (fun _ => Nat → Option α) (fun _ => none) (fun a l ih => fun n => (@Nat.rec (fun _ => Option α) (some a) (fun m _ => ih m)) n)) l
def lenN (l : List α) : Nat := (@List.rec α (fun _ => Nat) (0) (fun a l ih => Nat.succ ih)) l
end
/-! ### what a value is -/
def withC (v : AV) : (CV → Option R) → Option R := (@AV.rec (fun _ => (CV → Option R) → Option R) (fun _ => none) (fun x => fun K => K x) (fun _ => fun _ => none) (fun _ => fun _ => none)) v
def withAgg (v : AV) : (List CV → Option R) → Option R := (@AV.rec (fun _ => (List CV → Option R) → Option R) (fun _ => none) (fun _ => fun _ => none) (fun l => fun K => K l) (fun _ => fun _ => none)) v
def withTup (v : AV) : (List AS → Option R) → Option R := (@AV.rec (fun _ => (List AS → Option R) → Option R) (fun _ => none) (fun _ => fun _ => none) (fun _ => fun _ => none) (fun l => fun K => K l)) v
/-- the value's cells -/
def withFlat (v : AV) : (List CV → Option R) → Option R := (@AV.rec (fun _ => (List CV → Option R) → Option R) (fun _ => none) (fun x => fun K => K [x]) (fun l => fun K => K l) (fun _ => fun _ => none)) v
def toS (v : AV) : (AS → Option R) → Option R := (@AV.rec (fun _ => (AS → Option R) → Option R) (fun _ => none) (fun x => fun K => K (.c x)) (fun l => fun K => K (.agg l)) (fun _ => fun _ => none)) v
def ofS (v : AS) : (AV → Option R) → Option R := (@AS.rec (fun _ => (AV → Option R) → Option R) (fun x => fun K => K (.c x)) (fun l => fun K => K (.agg l))) v
def withPtr (x : CV) : (Nat → Nat → Option R) → Option R := (@CV.rec (fun _ => (Nat → Nat → Option R) → Option R) (fun _ => fun _ => none) (fun _ _ => fun _ => none) (fun _ _ _ => fun _ => none) (fun _ => fun _ => none) (fun _ => none) (fun n o => fun K => K n o) (fun _ => none) (fun _ => none) (fun _ _ _ _ _ _ => fun _ => none) (fun _ => none) (fun _ => fun _ => none) (fun _ => none) (fun _ _ => fun _ => none) (fun _ => fun _ => none)) x
def withB (x : CV) : (Bool → Option R) → Option R := (@CV.rec (fun _ => (Bool → Option R) → Option R) (fun c => fun K => K c) (fun _ _ => fun _ => none) (fun _ _ _ => fun _ => none) (fun _ => fun _ => none) (fun _ => none) (fun _ _ => fun _ => none) (fun _ => none) (fun _ => none) (fun _ _ _ _ _ _ => fun _ => none) (fun _ => none) (fun _ => fun _ => none) (fun _ => none) (fun _ _ => fun _ => none) (fun _ => fun _ => none)) x
def withI (x : CV) : (IntKind → Int → Option R) → Option R := (@CV.rec (fun _ => (IntKind → Int → Option R) → Option R) (fun _ => fun _ => none) (fun k n => fun K => K k n) (fun _ _ _ => fun _ => none) (fun _ => fun _ => none) (fun _ => none) (fun _ _ => fun _ => none) (fun _ => none) (fun _ => none) (fun _ _ _ _ _ _ => fun _ => none) (fun _ => none) (fun _ => fun _ => none) (fun _ => none) (fun _ _ => fun _ => none) (fun _ => fun _ => none)) x
def withS (x : CV) : (ByteArray → Option R) → Option R := (@CV.rec (fun _ => (ByteArray → Option R) → Option R) (fun _ => fun _ => none) (fun _ _ => fun _ => none) (fun _ _ _ => fun _ => none) (fun x => fun K => K x) (fun _ => none) (fun _ _ => fun _ => none) (fun _ => none) (fun _ => none) (fun _ _ _ _ _ _ => fun _ => none) (fun _ => none) (fun _ => fun _ => none) (fun _ => none) (fun _ _ => fun _ => none) (fun _ => fun _ => none)) x
def withMp (x : CV) : (Nat → Option R) → Option R := (@CV.rec (fun _ => (Nat → Option R) → Option R) (fun _ => fun _ => none) (fun _ _ => fun _ => none) (fun _ _ _ => fun _ => none) (fun _ => fun _ => none) (fun _ => none) (fun _ _ => fun _ => none) (fun _ => none) (fun _ => none) (fun _ _ _ _ _ _ => fun _ => none) (fun _ => none) (fun n => fun K => K n) (fun _ => none) (fun _ _ => fun _ => none) (fun _ => fun _ => none)) x
/-- a number that is none below nought -/
def asN (v : AV) (K : Nat → Option R) : Option R := withC v fun x => withI x fun _ n => ((@Int.rec (fun _ => (Nat → Option R) → Option R) (fun n => fun K => K n) (fun _ => fun _ => none)) n) K
/-! ### heaps -/
def hget (h : H) (n : Nat) : Option AO := T.get h.t n
def hset (h : H) : Nat → Option AO → (H → Option R) → Option R := (@H.rec (fun _ => Nat → Option AO → (H → Option R) → Option R) (fun nx t => fun n o K => T.setK 12 t n o fun t => K (H.mk nx t))) h
def hnew (h : H) : AO → (Nat → H → Option R) → Option R := (@H.rec (fun _ => AO → (Nat → H → Option R) → Option R) (fun nx t => fun o K => T.setK 12 t nx (some o) fun t => fN (Nat.succ nx) fun nx' => K nx (H.mk nx' t))) h
def withCells (o : AO) : (List CV → Option Nat → Option R) → Option R := (@AO.rec (fun _ => (List CV → Option Nat → Option R) → Option R) (fun l s => fun K => K l s) (fun _ => fun _ => none) (fun _ _ => fun _ => none) (fun _ => fun _ => none) (fun _ => fun _ => none) (fun _ => fun _ => none)) o
def withRd (o : AO) : (List CV → Option R) → Option R := (@AO.rec (fun _ => (List CV → Option R) → Option R) (fun l s => fun K => K l) (fun l => fun K => K l) (fun _ _ => fun _ => none) (fun _ => fun _ => none) (fun _ => fun _ => none) (fun _ => fun _ => none)) o
def withMap (o : AO) : (List ME → Nat → Option R) → Option R := (@AO.rec (fun _ => (List ME → Nat → Option R) → Option R) (fun _ _ => fun _ => none) (fun _ => fun _ => none) (fun l c => fun K => K l c) (fun _ => fun _ => none) (fun _ => fun _ => none) (fun _ => fun _ => none)) o
def withLoop (o : AO) : (LoopR → Option R) → Option R := (@AO.rec (fun _ => (LoopR → Option R) → Option R) (fun _ _ => fun _ => none) (fun _ => fun _ => none) (fun _ _ => fun _ => none) (fun r => fun K => K r) (fun _ => fun _ => none) (fun _ => fun _ => none)) o
def withCaps (o : AO) : (List AS → Option R) → Option R := (@AO.rec (fun _ => (List AS → Option R) → Option R) (fun _ _ => fun _ => none) (fun _ => fun _ => none) (fun _ _ => fun _ => none) (fun _ => fun _ => none) (fun _ => fun _ => none) (fun l => fun K => K l)) o
def withDfr (o : AO) : Option R → Option R := (@AO.rec (fun _ => Option R → Option R) (fun _ _ => fun _ => none) (fun _ => fun _ => none) (fun _ _ => fun _ => none) (fun _ => fun _ => none) (fun c => fun K => bf c K none) (fun _ => fun _ => none)) o
def hrd (h : H) (n : Nat) (K : List CV → Option R) : Option R := ob (hget h n) fun o => withRd o K
/-- whoever may share the row is forgotten -/
def hkill (h : H) (s : Option Nat) : (H → Option R) → Option R := (@Option.rec Nat (fun _ => H → (H → Option R) → Option R) (fun h K => K h) (fun m => fun h K => hset h m none K)) s h
def hwrite (h : H) (n off : Nat) (vs : List CV) (K : H → Option R) : Option R :=
  ((@List.rec CV (fun _ => H → Nat → Nat → List CV → (H → Option R) → Option R) (fun h _ _ _ K => K h) (fun _ _ _ => fun h n off vs K =>
    ob (hget h n) fun o => withCells o fun l s => hkill h s fun h => putK l off vs fun l' => hset h n (some (.cells l' none)) K)) vs) h n off vs K
def isAgg (d : TD) : Bool := (@TD.rec (fun _ => Bool) (false) (fun _ => false) (false) (false) (fun _ => false) (fun _ => false) (fun _ _ => true) (fun _ => true) (fun _ _ => false) (false)) d
/-- cells as a value of type t -/
def shapeK (t : TI) (l : List CV) (K : AV → Option R) : Option R := bf (isAgg t.d) (K (.agg l))
  (((@List.rec CV (fun _ => (AV → Option R) → Option R) (fun _ => none) (fun x r _ => fun K => (@List.rec CV (fun _ => Option R) (K (.c x)) (fun _ _ _ => none)) r)) l) K)
def hload (h : H) (t : TI) (n off : Nat) (K : AV → Option R) : Option R := hrd h n fun l => partK l off t.sz fun m => shapeK t m K
/-! ### constants -/
def ofV1 : Value → Option CV
  | .bool x => some (.b x)
  | .int k n => some (.i k n)
  | .string x => some (.s x)
  | .pointer none => some .nilp
  | .slice none 0 0 => some .nils
  | .map none => some .nilm
  | .nilFunc => some .nilf
  | _ => none
def ofVs : List Value → Option (List CV)
  | [] => some []
  | v :: l => match ofV1 v with
    | some a => match ofVs l with
      | some r => some (a :: r)
      | none => none
    | none => none
def ofV : Value → Option AV
  | .agg cs => (ofVs cs.toList).map .agg
  | v => (ofV1 v).map .c
def evK (tm : TM) (x : Operand) : (AV → Option R) → Option R :=
  (@Operand.rec (fun _ => TM → (AV → Option R) → Option R) (fun t => fun tm K => ob (TM.get tm t) K) (fun v => fun _ K => ob (ofV v) K) (fun g => fun _ K => bf (Nat.blt g 3) (K (.c (.ptr g 0))) none) (fun f => fun _ K => K (.c (.fn f 0)))) x tm
def evC (tm : TM) (x : Operand) (K : CV → Option R) : Option R := evK tm x fun v => withC v K
def evs (tm : TM) (l : List Operand) : (List AV → Option R) → Option R :=
  (@List.rec Operand (fun _ => TM → (List AV → Option R) → Option R) (fun _ K => K []) (fun x r ih => fun tm K => evK tm x fun v => ih tm fun l => K (v :: l))) l tm
def evsS (tm : TM) (l : List Operand) : (List AS → Option R) → Option R :=
  (@List.rec Operand (fun _ => TM → (List AS → Option R) → Option R) (fun _ K => K []) (fun x r ih => fun tm K => evK tm x fun v => toS v fun v => ih tm fun l => K (v :: l))) l tm
def oev (tm : TM) (x : Option Operand) : (Option AV → Option R) → Option R :=
  (@Option.rec Operand (fun _ => TM → (Option AV → Option R) → Option R) (fun _ K => K none) (fun x => fun tm K => evK tm x fun v => K (some v))) x tm
/-! ### operations -/
def ltI (x : Int) : Int → Bool := (@Int.rec (fun _ => Int → Bool) (fun a => fun y => (@Int.rec (fun _ => Bool) (fun b => Nat.blt a b) (fun _ => false)) y) (fun a => fun y => (@Int.rec (fun _ => Bool) (fun _ => true) (fun b => Nat.blt b a)) y)) x
def eqI (x : Int) : Int → Bool := (@Int.rec (fun _ => Int → Bool) (fun a => fun y => (@Int.rec (fun _ => Bool) (fun b => Nat.beq a b) (fun _ => false)) y) (fun a => fun y => (@Int.rec (fun _ => Bool) (fun _ => false) (fun b => Nat.beq a b)) y)) x
/-- a number of 64 bits is left as it is -/
def smallI (x : Int) : Bool := (@Int.rec (fun _ => Bool) (fun a => Nat.blt a 9223372036854775808) (fun a => Nat.blt a 9223372036854775808)) x
def wrapI (k : IntKind) : Int → Int := (@IntKind.rec (fun _ => Int → Int) (IntKind.wrap .i8) (IntKind.wrap .i16) (IntKind.wrap .i32) (fun n => bf (smallI n) n (IntKind.wrap .i64 n)) (IntKind.wrap .u8) (IntKind.wrap .u16) (IntKind.wrap .u32) (IntKind.wrap .u64)) k
def kindN (k : IntKind) : Nat := (@IntKind.rec (fun _ => Nat) (0) (1) (2) (3) (4) (5) (6) (7)) k
def sameI (k k' : IntKind) : Bool := Nat.beq (kindN k) (kindN k')
/-- arithmetic -/
def arI (op : BinOp) : IntKind → Int → Int → (CV → Option R) → Option R :=
  (@BinOp.rec (fun _ => IntKind → Int → Int → (CV → Option R) → Option R) (fun k x y K => fI (wrapI k (Int.add x y)) fun n => K (.i k n)) (fun k x y K => fI (wrapI k (Int.sub x y)) fun n => K (.i k n)) (fun k x y K => fI (wrapI k (Int.mul x y)) fun n => K (.i k n)) (fun k x y K => bf (eqI y 0) none (fI (wrapI k (x.tdiv y)) fun n => K (.i k n))) (fun k x y K => bf (eqI y 0) none (fI (x.tmod y) fun n => K (.i k n))) (fun _ _ _ _ => none) (fun _ _ _ _ => none) (fun _ _ _ _ => none) (fun k x y K => bf (ltI y 0) none (fI (k.wrap (x * 2 ^ (min y.toNat k.bits))) fun n => K (.i k n))) (fun k x y K => bf (ltI y 0) none (fI (x.fdiv (2 ^ (min y.toNat k.bits))) fun n => K (.i k n))) (fun _ _ _ _ => none) (fun _ x y K => fB (eqI x y) fun c => K (.b c)) (fun _ x y K => fB (eqI x y) fun c => fB (not c) fun c => K (.b c)) (fun _ x y K => fB (ltI x y) fun c => K (.b c)) (fun _ x y K => fB (ltI y x) fun c => fB (not c) fun c => K (.b c)) (fun _ x y K => fB (ltI y x) fun c => K (.b c)) (fun _ x y K => fB (ltI x y) fun c => fB (not c) fun c => K (.b c))) op
/-- numbers that are not known: c and coefficients of variables, each with its bounds -/
def modOk (q : Int) (l : List (Int × Int × Int)) : Bool := (@List.rec (Int × Int × Int) (fun _ => Bool) (true) (fun t _ ih => bf (bf (ltI t.1 0) false (bf (ltI t.2.1 0) false (eqI (Int.emod t.1 q) 0))) ih false)) l
def remY (op : BinOp) : IntKind → Int → List (Int × Int × Int) → Int → (CV → Option R) → Option R :=
  (@BinOp.rec (fun _ => IntKind → Int → List (Int × Int × Int) → Int → (CV → Option R) → Option R) (fun _ _ _ _ _ => none) (fun _ _ _ _ _ => none) (fun _ _ _ _ _ => none) (fun _ _ _ _ _ => none) (fun k c l q K => bf (bf (ltI 0 q) (bf (ltI c 0) false (modOk q l)) false) (fI (Int.emod c q) fun n => K (.i k n)) none) (fun _ _ _ _ _ => none) (fun _ _ _ _ _ => none) (fun _ _ _ _ _ => none) (fun _ _ _ _ _ => none) (fun _ _ _ _ _ => none) (fun _ _ _ _ _ => none) (fun _ _ _ _ _ => none) (fun _ _ _ _ _ => none) (fun _ _ _ _ _ => none) (fun _ _ _ _ _ => none) (fun _ _ _ _ _ => none) (fun _ _ _ _ _ => none)) op
/-- the number's parts: coefficient, bounds -/
def fP (t : Int × Int × Int) (K : Int → Int → Int → Option R) : Option R := @Prod.rec Int (Int × Int) (fun _ => Option R) (fun a q => @Prod.rec Int Int (fun _ => Option R) (fun lo hi => K a lo hi) q) t
def addL (l : List (Int × Int × Int)) : List (Int × Int × Int) → (List (Int × Int × Int) → Option R) → Option R :=
  (@List.rec (Int × Int × Int) (fun _ => List (Int × Int × Int) → (List (Int × Int × Int) → Option R) → Option R) (fun m K => K m) (fun t r ih => fun m K => (@List.rec (Int × Int × Int) (fun _ => Option R) (K (t :: r)) (fun u m _ => fP t fun a lo hi => fP u fun b _ _ => fI (Int.add a b) fun c => ih m fun x => K ((c, lo, hi) :: x))) m)) l
def mulL (s : Int) (l : List (Int × Int × Int)) : (List (Int × Int × Int) → Option R) → Option R :=
  (@List.rec (Int × Int × Int) (fun _ => (List (Int × Int × Int) → Option R) → Option R) (fun K => K []) (fun t r ih => fun K => fP t fun a lo hi => fI (Int.mul s a) fun c => ih fun x => K ((c, lo, hi) :: x))) l
def quoL (s : Int) (l : List (Int × Int × Int)) : (List (Int × Int × Int) → Option R) → Option R :=
  (@List.rec (Int × Int × Int) (fun _ => (List (Int × Int × Int) → Option R) → Option R) (fun K => K []) (fun t r ih => fun K => fP t fun a lo hi => fI (Int.tdiv a s) fun c => ih fun x => K ((c, lo, hi) :: x))) l
def lbL (l : List (Int × Int × Int)) : Int := (@List.rec (Int × Int × Int) (fun _ => Int) (0) (fun t r ih => Int.add (Int.mul t.1 (bf (ltI t.1 0) t.2.2 t.2.1)) ih)) l
def ubL (l : List (Int × Int × Int)) : Int := (@List.rec (Int × Int × Int) (fun _ => Int) (0) (fun t r ih => Int.add (Int.mul t.1 (bf (ltI t.1 0) t.2.1 t.2.2)) ih)) l
def no0 (l : List (Int × Int × Int)) : Bool := (@List.rec (Int × Int × Int) (fun _ => Bool) (true) (fun t r ih => bf (eqI t.1 0) ih false)) l
def dvdL (q : Int) (l : List (Int × Int × Int)) : Bool := (@List.rec (Int × Int × Int) (fun _ => Bool) (true) (fun t r ih => bf (eqI (Int.emod t.1 q) 0) ih false)) l
def geY (c : Int) (l : List (Int × Int × Int)) : Bool := bf (ltI (Int.add c (lbL l)) 0) false true
/-- not below nought; the third variable is the first less the second -/
def geA (c : Int) (l : List (Int × Int × Int)) : Bool := bf (geY c l) true ((@List.rec (Int × Int × Int) (fun _ => Bool) (false) (fun t r _ => (@List.rec (Int × Int × Int) (fun _ => Bool) (false) (fun u s _ => (@List.rec (Int × Int × Int) (fun _ => Bool) (false) (fun v q _ => bf (geY c ((0, t.2) :: (Int.add t.1 u.1, u.2) :: (Int.add v.1 t.1, v.2) :: q)) true (geY c ((Int.add t.1 u.1, t.2) :: (0, u.2) :: (Int.sub v.1 u.1, v.2) :: q)))) s)) r)) l)
def minI (k : IntKind) : Int := (@IntKind.rec (fun _ => Int) ((-128)) ((-32768)) ((-2147483648)) ((-9223372036854775808)) (0) (0) (0) (0)) k
def maxI (k : IntKind) : Int := (@IntKind.rec (fun _ => Int) (127) (32767) (2147483647) (9223372036854775807) (255) (65535) (4294967295) (18446744073709551615)) k
def normY (k : IntKind) (c : Int) (l : List (Int × Int × Int)) (K : CV → Option R) : Option R := bf (no0 l) (K (.i k c)) (K (.y k c l))
def mkY (k : IntKind) (c : Int) (l : List (Int × Int × Int)) (K : CV → Option R) : Option R := bf (ltI (Int.add c (lbL l)) (minI k)) none (bf (ltI (maxI k) (Int.add c (ubL l))) none (normY k c l K))
def decY (p q : Bool) (K : CV → Option R) : Option R := bf p (K (.b true)) (bf q (K (.b false)) none)
/-- c + l against nought; n: less l -/
def cmpY (op : BinOp) : Int → List (Int × Int × Int) → List (Int × Int × Int) → (CV → Option R) → Option R :=
  (@BinOp.rec (fun _ => Int → List (Int × Int × Int) → List (Int × Int × Int) → (CV → Option R) → Option R) (fun _ _ _ _ => none) (fun _ _ _ _ => none) (fun _ _ _ _ => none) (fun _ _ _ _ => none) (fun _ _ _ _ => none) (fun _ _ _ _ => none) (fun _ _ _ _ => none) (fun _ _ _ _ => none) (fun _ _ _ _ => none) (fun _ _ _ _ => none) (fun _ _ _ _ => none) (fun c l n K => bf (no0 l) (fB (eqI c 0) fun b => K (.b b)) (decY false (bf (geA (Int.sub c 1) l) true (geA (Int.sub (-1) c) n)) K)) (fun c l n K => bf (no0 l) (fB (eqI c 0) fun b => fB (not b) fun b => K (.b b)) (decY (bf (geA (Int.sub c 1) l) true (geA (Int.sub (-1) c) n)) false K)) (fun c l n K => decY (geA (Int.sub (-1) c) n) (geA c l) K) (fun c l n K => decY (geA (Int.neg c) n) (geA (Int.sub c 1) l) K) (fun c l n K => decY (geA (Int.sub c 1) l) (geA (Int.neg c) n) K) (fun c l n K => decY (geA c l) (geA (Int.sub (-1) c) n) K)) op
def subY (c : Int) (l : List (Int × Int × Int)) (d : Int) (m : List (Int × Int × Int)) (K : Int → List (Int × Int × Int) → Option R) : Option R := mulL (-1) m fun m => addL l m fun l => fI (Int.sub c d) fun c => K c l
def arY (op : BinOp) : IntKind → Int → List (Int × Int × Int) → Int → List (Int × Int × Int) → (CV → Option R) → Option R :=
  (@BinOp.rec (fun _ => IntKind → Int → List (Int × Int × Int) → Int → List (Int × Int × Int) → (CV → Option R) → Option R) (fun k c l d m K => addL l m fun l => fI (Int.add c d) fun c => mkY k c l K) (fun k c l d m K => subY c l d m fun c l => mkY k c l K) (fun k c l d m K => bf (no0 m) (mulL d l fun l => fI (Int.mul c d) fun c => mkY k c l K) (bf (no0 l) (mulL c m fun l => fI (Int.mul c d) fun c => mkY k c l K) none)) (fun k c l d m K => bf (bf (no0 m) (bf (ltI 0 d) (bf (eqI (Int.emod c d) 0) (dvdL d l) false) false) false) (quoL d l fun l => fI (Int.tdiv c d) fun c => mkY k c l K) none) (fun k c l d m K => bf (no0 m) (bf (bf (ltI 0 d) (bf (eqI (Int.emod c d) 0) (dvdL d l) false) false) (K (.i k 0)) (remY .rem k c l d K)) none) (fun _ _ _ _ _ _ => none) (fun _ _ _ _ _ _ => none) (fun _ _ _ _ _ _ => none) (fun _ _ _ _ _ _ => none) (fun _ _ _ _ _ _ => none) (fun _ _ _ _ _ _ => none) (fun _ c l d m K => subY c l d m fun c l => mulL (-1) l fun n => cmpY op c l n K) (fun _ c l d m K => subY c l d m fun c l => mulL (-1) l fun n => cmpY op c l n K) (fun _ c l d m K => subY c l d m fun c l => mulL (-1) l fun n => cmpY op c l n K) (fun _ c l d m K => subY c l d m fun c l => mulL (-1) l fun n => cmpY op c l n K) (fun _ c l d m K => subY c l d m fun c l => mulL (-1) l fun n => cmpY op c l n K) (fun _ c l d m K => subY c l d m fun c l => mulL (-1) l fun n => cmpY op c l n K)) op
def withY (x : CV) : (IntKind → Int → List (Int × Int × Int) → Option R) → Option R := (@CV.rec (fun _ => (IntKind → Int → List (Int × Int × Int) → Option R) → Option R) (fun _ => fun _ => none) (fun k n => fun K => K k n []) (fun k c l => fun K => K k c l) (fun _ => fun _ => none) (fun _ => none) (fun _ _ => fun _ => none) (fun _ => none) (fun _ => none) (fun _ _ _ _ _ _ => fun _ => none) (fun _ => none) (fun _ => fun _ => none) (fun _ => none) (fun _ _ => fun _ => none) (fun _ => fun _ => none)) x
def isY (x : CV) : Bool := (@CV.rec (fun _ => Bool) (fun _ => false) (fun _ _ => false) (fun _ _ _ => true) (fun _ => false) (false) (fun _ _ => false) (false) (false) (fun _ _ _ _ _ _ => false) (false) (fun _ => false) (false) (fun _ _ => false) (fun _ => false)) x
def hasY (l : List AV) : Bool := (@List.rec AV (fun _ => Bool) (false) (fun v _ ih => bf ((@AV.rec (fun _ => Bool) (false) (fun x => isY x) (fun _ => false) (fun _ => false)) v) true ih)) l
/-- the greatest, the least of such -/
def maxYK (mx : Bool) (l : List AV) : IntKind → Int → List (Int × Int × Int) → (AV → Option R) → Option R :=
  (@List.rec AV (fun _ => IntKind → Int → List (Int × Int × Int) → (AV → Option R) → Option R) (fun k c l K => normY k c l fun x => K (.c x)) (fun v r ih => fun k c l K => withC v fun v => withY v fun _ d m =>
    subY c l d m fun e q => bf (geA e q) (bf mx (ih k c l K) (ih k d m K)) (mulL (-1) q fun q => bf (geA (Int.neg e) q) (bf mx (ih k d m K) (ih k c l K)) none))) l
def isShift (op : BinOp) : Bool := (@BinOp.rec (fun _ => Bool) (false) (false) (false) (false) (false) (false) (false) (false) (true) (true) (false) (false) (false) (false) (false) (false) (false)) op
def boolI (op : BinOp) : Bool → Bool → (CV → Option R) → Option R :=
  (@BinOp.rec (fun _ => Bool → Bool → (CV → Option R) → Option R) (fun _ _ _ => none) (fun _ _ _ => none) (fun _ _ _ => none) (fun _ _ _ => none) (fun _ _ _ => none) (fun _ _ _ => none) (fun _ _ _ => none) (fun _ _ _ => none) (fun _ _ _ => none) (fun _ _ _ => none) (fun _ _ _ => none) (fun x y K => fB (x == y) fun c => K (.b c)) (fun x y K => fB (x != y) fun c => K (.b c)) (fun _ _ _ => none) (fun _ _ _ => none) (fun _ _ _ => none) (fun _ _ _ => none)) op
def strI (op : BinOp) : ByteArray → ByteArray → Option Bool :=
  (@BinOp.rec (fun _ => ByteArray → ByteArray → Option Bool) (fun _ _ => none) (fun _ _ => none) (fun _ _ => none) (fun _ _ => none) (fun _ _ => none) (fun _ _ => none) (fun _ _ => none) (fun _ _ => none) (fun _ _ => none) (fun _ _ => none) (fun _ _ => none) (fun a c => some (a.toList == c.toList)) (fun a c => some (!(a.toList == c.toList))) (fun a c => some (Op.bytesLess a.toList c.toList)) (fun a c => some (Op.bytesLess a.toList c.toList || (a.toList == c.toList))) (fun a c => some (!(Op.bytesLess a.toList c.toList || (a.toList == c.toList)))) (fun a c => some (!(Op.bytesLess a.toList c.toList)))) op
def isNil (x : CV) : Option Bool := (@CV.rec (fun _ => Option Bool) (fun _ => none) (fun _ _ => none) (fun _ _ _ => none) (fun _ => none) (some true) (fun _ _ => some false) (some true) (none) (fun _ _ _ _ _ _ => some false) (some true) (fun _ => some false) (some true) (fun _ _ => some false) (fun _ => some false)) x
def nilI (op : BinOp) : Bool → Bool → (CV → Option R) → Option R :=
  (@BinOp.rec (fun _ => Bool → Bool → (CV → Option R) → Option R) (fun _ _ _ => none) (fun _ _ _ => none) (fun _ _ _ => none) (fun _ _ _ => none) (fun _ _ _ => none) (fun _ _ _ => none) (fun _ _ _ => none) (fun _ _ _ => none) (fun _ _ _ => none) (fun _ _ _ => none) (fun _ _ _ => none) (fun a b K => bf (bf a true b) (fB (bf a b false) fun c => K (.b c)) none) (fun a b K => bf (bf a true b) (fB (bf a b false) fun c => fB (not c) fun c => K (.b c)) none) (fun _ _ _ => none) (fun _ _ _ => none) (fun _ _ _ => none) (fun _ _ _ => none)) op
def ty (E : Env) (t : TypeId) (K : TI → Option R) : Option R := ob (T.get E.ty t) K
/-- what can be compared with nil, by type and by value -/
def nilT (d : TD) : Nat := (@TD.rec (fun _ => Nat) (0) (fun _ => 0) (0) (5) (fun _ => 1) (fun _ => 2) (fun _ _ => 0) (fun _ => 0) (fun _ _ => 3) (4)) d
def nilC (x : CV) : Nat := (@CV.rec (fun _ => Nat) (fun _ => 6) (fun _ _ => 6) (fun _ _ _ => 6) (fun _ => 6) (1) (fun _ _ => 1) (2) (6) (fun _ _ _ _ _ _ => 2) (3) (fun _ => 3) (4) (fun _ _ => 4) (fun _ => 4)) x
def binop (E : Env) (t : TypeId) (op : BinOp) (x y : CV) (K : CV → Option R) : Option R :=
  ((@CV.rec (fun _ => Env → TypeId → BinOp → CV → CV → (CV → Option R) → Option R) (fun a => fun E t op _ y K => withB y fun b => ty E t fun t => bf (Nat.beq (nilT t.d) 5) (boolI op a b K) none) (fun k a => fun _ _ op _ y K => bf (isY y) (withY y fun k' d m => bf (sameI k k') (arY op k a [] d m K) none) (withI y fun k' b => bf (bf (isShift op) true (sameI k k')) (arI op k a b K) none)) (fun k c l => fun _ _ op _ y K => withY y fun k' d m => bf (sameI k k') (arY op k c l d m K) none) (fun a => fun _ _ op _ y K => withS y fun b => ob (strI op a b) fun c => fB c fun c => K (.b c)) (fun E t op x y K => ty E t fun t => bf (bf (Nat.beq (nilT t.d) (nilC x)) (Nat.beq (nilT t.d) (nilC y)) false) (ob (isNil x) fun a => ob (isNil y) fun b => nilI op a b K) none) (fun _ _ => fun E t op x y K => ty E t fun t => bf (bf (Nat.beq (nilT t.d) (nilC x)) (Nat.beq (nilT t.d) (nilC y)) false) (ob (isNil x) fun a => ob (isNil y) fun b => nilI op a b K) none) (fun E t op x y K => ty E t fun t => bf (bf (Nat.beq (nilT t.d) (nilC x)) (Nat.beq (nilT t.d) (nilC y)) false) (ob (isNil x) fun a => ob (isNil y) fun b => nilI op a b K) none) (fun E t op x y K => ty E t fun t => bf (bf (Nat.beq (nilT t.d) (nilC x)) (Nat.beq (nilT t.d) (nilC y)) false) (ob (isNil x) fun a => ob (isNil y) fun b => nilI op a b K) none) (fun _ _ _ _ _ _ => fun E t op x y K => ty E t fun t => bf (bf (Nat.beq (nilT t.d) (nilC x)) (Nat.beq (nilT t.d) (nilC y)) false) (ob (isNil x) fun a => ob (isNil y) fun b => nilI op a b K) none) (fun E t op x y K => ty E t fun t => bf (bf (Nat.beq (nilT t.d) (nilC x)) (Nat.beq (nilT t.d) (nilC y)) false) (ob (isNil x) fun a => ob (isNil y) fun b => nilI op a b K) none) (fun _ => fun E t op x y K => ty E t fun t => bf (bf (Nat.beq (nilT t.d) (nilC x)) (Nat.beq (nilT t.d) (nilC y)) false) (ob (isNil x) fun a => ob (isNil y) fun b => nilI op a b K) none) (fun E t op x y K => ty E t fun t => bf (bf (Nat.beq (nilT t.d) (nilC x)) (Nat.beq (nilT t.d) (nilC y)) false) (ob (isNil x) fun a => ob (isNil y) fun b => nilI op a b K) none) (fun _ _ => fun E t op x y K => ty E t fun t => bf (bf (Nat.beq (nilT t.d) (nilC x)) (Nat.beq (nilT t.d) (nilC y)) false) (ob (isNil x) fun a => ob (isNil y) fun b => nilI op a b K) none) (fun _ => fun E t op x y K => ty E t fun t => bf (bf (Nat.beq (nilT t.d) (nilC x)) (Nat.beq (nilT t.d) (nilC y)) false) (ob (isNil x) fun a => ob (isNil y) fun b => nilI op a b K) none)) x) E t op x y K
def withSlice (d : TD) : (TypeId → Option R) → Option R := (@TD.rec (fun _ => (TypeId → Option R) → Option R) (fun _ => none) (fun _ => fun _ => none) (fun _ => none) (fun _ => none) (fun _ => fun _ => none) (fun e => fun K => K e) (fun _ _ => fun _ => none) (fun _ => fun _ => none) (fun _ _ => fun _ => none) (fun _ => none)) d
def withStruct (d : TD) : (List (Nat × TypeId) → Option R) → Option R := (@TD.rec (fun _ => (List (Nat × TypeId) → Option R) → Option R) (fun _ => none) (fun _ => fun _ => none) (fun _ => none) (fun _ => none) (fun _ => fun _ => none) (fun _ => fun _ => none) (fun _ _ => fun _ => none) (fun e => fun K => K e) (fun _ _ => fun _ => none) (fun _ => none)) d
def withMapT (d : TD) : (TypeId → TypeId → Option R) → Option R := (@TD.rec (fun _ => (TypeId → TypeId → Option R) → Option R) (fun _ => none) (fun _ => fun _ => none) (fun _ => none) (fun _ => none) (fun _ => fun _ => none) (fun _ => fun _ => none) (fun _ _ => fun _ => none) (fun _ => fun _ => none) (fun k e => fun K => K k e) (fun _ => none)) d
def keyT (d : TD) : Nat := (@TD.rec (fun _ => Nat) (0) (fun _ => 2) (7) (0) (fun _ => 0) (fun _ => 0) (fun _ _ => 0) (fun _ => 0) (fun _ _ => 0) (0)) d
def keyC (x : CV) : Nat := (@CV.rec (fun _ => Nat) (fun _ => 8) (fun _ _ => 2) (fun _ _ _ => 8) (fun _ => 7) (8) (fun _ _ => 8) (8) (8) (fun _ _ _ _ _ _ => 8) (8) (fun _ => 8) (8) (fun _ _ => 8) (fun _ => 8)) x
/-- a map type that takes the key: its elements' type -/
def mapK (E : Env) (t : TypeId) (k : CV) (K : TI → Option R) : Option R := ob (T.get E.ty t) fun t => withMapT t.d fun kt e => ob (T.get E.ty kt) fun kt => bf (Nat.beq (keyT kt.d) (keyC k)) (ob (T.get E.ty e) K) none
/-- the element type of a slice type -/
def elemK (E : Env) (t : TypeId) (K : TI → Option R) : Option R := ty E t fun t => withSlice t.d fun e => ty E e K
def fillK (place : Nat → Option (Nat × Nat)) (ps : List (Nat × List CV)) : List CV → (List CV → Option R) → Option R :=
  (@List.rec (Nat × List CV) (fun _ => (Nat → Option (Nat × Nat)) → List CV → (List CV → Option R) → Option R) (fun _ l K => K l) (fun p r ih => fun place l K =>
    ob (place p.1) fun q => bf (Nat.beq (lenN p.2) q.2) (putK l q.1 p.2 fun l' => ih place l' K) none)) ps place
def partsK (tm : TM) (l : List (Nat × Operand)) : (List (Nat × List CV) → Option R) → Option R :=
  (@List.rec (Nat × Operand) (fun _ => TM → (List (Nat × List CV) → Option R) → Option R) (fun _ K => K []) (fun p r ih => fun tm K => evK tm p.2 fun v => withFlat v fun v => ih tm fun l => K ((p.1, v) :: l))) l tm
def bound (x : Option AV) (other : Nat) : (Nat → Option R) → Option R := (@Option.rec AV (fun _ => Nat → (Nat → Option R) → Option R) (fun o K => K o) (fun v => fun _ K => asN v K)) x other
/-- a slice's part -/
def sliceK (sz : Nat) (n off len cap : Nat) (ex : Bool) (lo hi mx : Option AV) (K : AV → Option R) : Option R :=
  bf (bf mx.isSome hi.isSome true) (bound mx cap fun m => bf (Nat.ble m cap) (bound hi len fun hh => bf (Nat.ble hh m) (bound lo 0 fun l => bf (Nat.ble l hh)
    (fB ((@Bool.rec (fun _ => Bool) (mx.isSome) (true)) ex) fun known => bf ((@Bool.rec (fun _ => Bool) (Nat.blt l m) (true)) known)
       (fN (bf (Nat.beq l m) off (Nat.add off (Nat.mul l sz))) fun o => fN (Nat.sub hh l) fun len' => fN (Nat.sub m l) fun cap' => K (.c (.sl n o len' cap' sz known)))
       (K (.c .emp))) none) none) none) none
def firstK (h : H) (sz : Nat) (x : CV) : (Nat → List CV → Option R) → Option R :=
  (@CV.rec (fun _ => H → Nat → (Nat → List CV → Option R) → Option R) (fun _ => fun _ _ _ => none) (fun _ _ => fun _ _ _ => none) (fun _ _ _ => fun _ _ _ => none) (fun _ => fun _ _ _ => none) (fun _ _ _ => none) (fun _ _ => fun _ _ _ => none) (fun _ _ K => K 0 []) (fun _ _ K => K 0 []) (fun n off len cap z ex => fun h sz K => hrd h n fun l => partK l off (Nat.mul len sz) fun m => K len m) (fun _ _ _ => none) (fun _ => fun _ _ _ => none) (fun _ _ _ => none) (fun _ _ => fun _ _ _ => none) (fun _ => fun _ _ _ => none)) x h sz
/-- is there room for so many, without doubt? (bytes) -/
def roomOk (need by_ : Nat) : Bool := bf (Nat.ble need 1048576) (Nat.ble by_ 1048576) false
/-- append onto the slice (n, off, len, cap, ex) of m elements, 'new' their cells -/
def growK (sz n off len cap : Nat) (ex : Bool) (m : Nat) (new : List CV) (h : H) (K : AV → H → Option R) : Option R :=
  fN (Nat.add len m) fun need =>
    bf (Nat.ble need cap) (hwrite h n (Nat.add off (Nat.mul len sz)) new fun h => K (.c (.sl n off need cap sz ex)) h)
      (ob (hget h n) fun o => withCells o fun l s => partK l off (Nat.mul len sz) fun old => appK old new fun all =>
        bf ex (hnew h (.cells all none) fun n' h => K (.c (.sl n' 0 need need sz false)) h)
          (hkill h s fun h => takeK l (Nat.add off (Nat.mul len sz)) fun keep => hset h n (some (.cells keep (some h.nx))) fun h =>
            hnew h (.cells all (some n)) fun n' h => K (.c (.sl n' 0 need need sz false)) h))
def appendK (sz by_ : Nat) (s x : CV) (h : H) (K : AV → H → Option R) : Option R :=
  firstK h sz x fun m new =>
    ((@CV.rec (fun _ => Nat → Nat → Nat → List CV → H → (AV → H → Option R) → Option R) (fun _ => fun _ _ _ _ _ _ => none) (fun _ _ => fun _ _ _ _ _ _ => none) (fun _ _ _ => fun _ _ _ _ _ _ => none) (fun _ => fun _ _ _ _ _ _ => none) (fun _ _ _ _ _ _ => none) (fun _ _ => fun _ _ _ _ _ _ => none) (fun sz by_ m new h K => bf (Nat.beq m 0) (K (.c .nils) h) (bf (roomOk m by_) (hnew h (.cells new none) fun n h => K (.c (.sl n 0 m m sz false)) h) none)) (fun _ _ m _ h K => bf (Nat.beq m 0) (K (.c .emp) h) none) (fun n off len cap z ex => fun sz by_ m new h K => bf (Nat.beq z sz) (bf (roomOk (Nat.add len m) by_) (growK sz n off len cap ex m new h K) none) none) (fun _ _ _ _ _ _ => none) (fun _ => fun _ _ _ _ _ _ => none) (fun _ _ _ _ _ _ => none) (fun _ _ => fun _ _ _ _ _ _ => none) (fun _ => fun _ _ _ _ _ _ => none)) s) sz by_ m new h K
/-- keys: numbers, texts -/
def sameKey (x : CV) : CV → Option Bool :=
  (@CV.rec (fun _ => CV → Option Bool) (fun _ => fun _ => none) (fun k a => fun y => withI y fun k' b => bf (sameI k k') (some (eqI a b)) none) (fun _ _ _ => fun _ => none) (fun a => fun y => withS y fun b => some (a == b)) (fun _ => none) (fun _ _ => fun _ => none) (fun _ => none) (fun _ => none) (fun _ _ _ _ _ _ => fun _ => none) (fun _ => none) (fun _ => fun _ => none) (fun _ => none) (fun _ _ => fun _ => none) (fun _ => fun _ => none)) x
def findK (l : List ME) : CV → (Option ME → Option R) → Option R :=
  (@List.rec ME (fun _ => CV → (Option ME → Option R) → Option R) (fun _ K => K none) (fun e r ih => fun k K => ob (sameKey k e.k) fun c => bf c (K (some e)) (ih k K))) l
/-- an entry put: at its key, or at the end -/
def mputK (l : List ME) : CV → AS → Nat → (List ME → Bool → Option R) → Option R :=
  (@List.rec ME (fun _ => CV → AS → Nat → (List ME → Bool → Option R) → Option R) (fun k v clk K => K [⟨k, v, clk⟩] true) (fun e r ih => fun k v clk K =>
    ob (sameKey k e.k) fun c => bf c (K (⟨k, v, e.c⟩ :: r) false) (ih k v clk fun l b => K (e :: l) b))) l
/-- the entry of a stamp gets a value -/
def mstoreK (l : List ME) : Nat → AS → (List ME → Option R) → Option R :=
  (@List.rec ME (fun _ => Nat → AS → (List ME → Option R) → Option R) (fun _ _ _ => none) (fun e r ih => fun st v K => bf (Nat.beq e.c st) (K (⟨e.k, v, e.c⟩ :: r)) (ih st v fun l => K (e :: l)))) l
def zeroK (t : TI) (K : AS → Option R) : Option R := bf (isAgg t.d) (K (.agg t.z)) (((@List.rec CV (fun _ => (AS → Option R) → Option R) (fun _ => none) (fun x r _ => fun K => (@List.rec CV (fun _ => Option R) (K (.c x)) (fun _ _ _ => none)) r)) t.z) K)
def maxK (m : Int → Int → Int) (l : List AV) : IntKind → Int → (AV → Option R) → Option R :=
  (@List.rec AV (fun _ => (Int → Int → Int) → IntKind → Int → (AV → Option R) → Option R) (fun _ k x K => K (.c (.i k x))) (fun v r ih => fun m k x K => withC v fun v => withI v fun _ y => fI (m x y) fun z => ih m k z K)) l m
def two {α : Type} (l : List α) (K : α → α → Option R) : Option R := ob (getL l 0) fun a => ob (getL l 1) fun b => K a b
def bAppend (E : Env) (ts : List TypeId) (args : List AV) (h : H) (K : AV → H → Option R) : Option R :=
  two args fun s x => withC s fun s => withC x fun x => ob (getL ts 0) fun t => ob (getL ts 1) fun t2 => elemK E t2 fun _ => elemK E t fun e => appendK e.sz e.by_ s x h K
/-- what has a length, by type and by value -/
def lenT (d : TD) : Nat := (@TD.rec (fun _ => Nat) (0) (fun _ => 0) (7) (0) (fun _ => 0) (fun _ => 2) (fun _ _ => 0) (fun _ => 0) (fun _ _ => 3) (0)) d
def lenC (x : CV) : Nat := (@CV.rec (fun _ => Nat) (fun _ => 8) (fun _ _ => 8) (fun _ _ _ => 8) (fun _ => 7) (8) (fun _ _ => 8) (2) (2) (fun _ _ _ _ _ _ => 2) (3) (fun _ => 3) (8) (fun _ _ => 8) (fun _ => 8)) x
def bLen (E : Env) (ts : List TypeId) (args : List AV) (h : H) (K : AV → H → Option R) : Option R :=
  ob (getL args 0) fun x => withC x fun x => ob (getL ts 0) fun t => ty E t fun t => bf (Nat.beq (lenT t.d) (lenC x)) (((@CV.rec (fun _ => H → (AV → H → Option R) → Option R) (fun _ => fun _ _ => none) (fun _ _ => fun _ _ => none) (fun _ _ _ => fun _ _ => none) (fun x => fun h K => fN x.size fun n => K (.c (.i .i64 (.ofNat n))) h) (fun _ _ => none) (fun _ _ => fun _ _ => none) (fun h K => K (.c (.i .i64 (.ofNat 0))) h) (fun h K => K (.c (.i .i64 (.ofNat 0))) h) (fun _ _ n _ _ _ => fun h K => K (.c (.i .i64 (.ofNat n))) h) (fun h K => K (.c (.i .i64 (.ofNat 0))) h) (fun n => fun h K => ob (hget h n) fun o => withMap o fun l _ => fN (lenN l) fun n => K (.c (.i .i64 (.ofNat n))) h) (fun _ _ => none) (fun _ _ => fun _ _ => none) (fun _ => fun _ _ => none)) x) h K) none
def bMax (m : Int → Int → Int) (mx : Bool) (args : List AV) (h : H) (K : AV → H → Option R) : Option R :=
  ((@List.rec AV (fun _ => (Int → Int → Int) → H → (AV → H → Option R) → Option R) (fun _ _ _ => none) (fun v r _ => fun m h K => bf (hasY (v :: r)) (withC v fun v => withY v fun k c l => maxYK mx r k c l fun v => K v h) (withC v fun v => withI v fun k x => maxK m r k x fun v => K v h))) args) m h K
def bClear (E : Env) (ts : List TypeId) (args : List AV) (h : H) (K : AV → H → Option R) : Option R :=
  ob (getL args 0) fun x => withC x fun x => ob (getL ts 0) fun t => elemK E t fun e => ((@CV.rec (fun _ => TI → H → (AV → H → Option R) → Option R) (fun _ => fun _ _ _ => none) (fun _ _ => fun _ _ _ => none) (fun _ _ _ => fun _ _ _ => none) (fun _ => fun _ _ _ => none) (fun _ _ _ => none) (fun _ _ => fun _ _ _ => none) (fun _ h K => K (.tup []) h) (fun _ h K => K (.tup []) h) (fun n off len _ z _ => fun e h K => repK len e.z fun z => hwrite h n off z fun h => K (.tup []) h) (fun _ _ _ => none) (fun _ => fun _ _ _ => none) (fun _ _ _ => none) (fun _ _ => fun _ _ _ => none) (fun _ => fun _ _ _ => none)) x) e h K
def bCopy (E : Env) (ts : List TypeId) (args : List AV) (h : H) (K : AV → H → Option R) : Option R :=
  two args fun d x => withC d fun d => withC x fun x => ob (getL ts 0) fun t => elemK E t fun e => firstK h e.sz x fun len' xs =>
    ((@CV.rec (fun _ => TI → Nat → List CV → H → (AV → H → Option R) → Option R) (fun _ => fun _ _ _ _ _ => none) (fun _ _ => fun _ _ _ _ _ => none) (fun _ _ _ => fun _ _ _ _ _ => none) (fun _ => fun _ _ _ _ _ => none) (fun _ _ _ _ _ => none) (fun _ _ => fun _ _ _ _ _ => none) (fun _ _ _ h K => K (.c (.i .i64 (.ofNat 0))) h) (fun _ _ _ h K => K (.c (.i .i64 (.ofNat 0))) h) (fun n off len _ _ _ => fun e len' xs h K => fN (bf (Nat.ble len' len) len' len) fun c => takeK xs (Nat.mul c e.sz) fun m => hwrite h n off m fun h => K (.c (.i .i64 (.ofNat c))) h) (fun _ _ _ _ _ => none) (fun _ => fun _ _ _ _ _ => none) (fun _ _ _ _ _ => none) (fun _ _ => fun _ _ _ _ _ => none) (fun _ => fun _ _ _ _ _ => none)) d) e len' xs h K
def builtinK (E : Env) (b : Builtin) (ts : List TypeId) (args : List AV) (h : H) (K : AV → H → Option R) : Option R :=
  ((@Builtin.rec (fun _ => Env → List TypeId → List AV → H → (AV → H → Option R) → Option R) (bAppend) (fun _ _ _ _ _ => none) (bClear) (fun _ _ _ _ _ => none) (fun _ _ _ _ _ => none) (bCopy) (fun _ _ _ _ _ => none) (fun _ _ _ _ _ => none) (bLen) (fun _ _ _ _ _ => none) (fun _ _ => bMax (fun x y => bf (ltI x y) y x) true) (fun _ _ => bMax (fun x y => bf (ltI y x) y x) false) (fun _ _ _ _ _ => none) (fun _ _ _ _ _ => none) (fun _ _ _ _ _ => none) (fun _ _ _ _ _ => none) (fun _ _ _ _ _ => none) (fun _ _ _ _ _ => none) (fun _ _ _ _ _ => none) (fun _ _ _ _ _ => none) (fun _ _ _ _ _ => none) (fun _ _ _ _ _ => none) (fun _ _ _ _ _ => none) (fun _ _ _ _ _ => none) (fun _ _ _ _ _ => none) (fun _ _ _ _ _ => none)) b) E ts args h K
/-- what an operation asks for: a call -/
inductive Ask where
  | enter (f : FuncId) (args : List AV)
  | round (l : Nat) (args : List AV)
abbrev Caller (R : Type) := Ask → H → (AV → H → Option R) → Option R
/-! the operations, one by one -/
def oMove (tm : TM) (x : Operand) (h : H) (K : AV → H → Option R) : Option R := evK tm x fun v => K v h
def oPick (tm : TM) (c a b : Operand) (h : H) (K : AV → H → Option R) : Option R := evC tm c fun c => withB c fun c => evK tm (bf c a b) fun v => K v h
def oAlloc (E : Env) (t : TypeId) (h : H) (K : AV → H → Option R) : Option R := ty E t fun t => hnew h (.cells t.z none) fun n h => K (.c (.ptr n 0)) h
def oBox (tm : TM) (x : Operand) (h : H) (K : AV → H → Option R) : Option R := evK tm x fun v => withFlat v fun l => hnew h (.cells l none) fun n h => K (.c (.ptr n 0)) h
def placeS (E : Env) (fs : List (Nat × TypeId)) (i : Nat) : Option (Nat × Nat) := ob (getL fs i) fun p => ob (T.get E.ty p.2) fun t => some (p.1, t.sz)
def oBuild (E : Env) (tm : TM) (t : TypeId) (parts : List (Nat × Operand)) (h : H) (K : AV → H → Option R) : Option R :=
  partsK tm parts fun ps => ty E t fun t => ((@TD.rec (fun _ => Env → TI → List (Nat × List CV) → (List CV → Option R) → Option R) (fun _ _ _ _ => none) (fun _ => fun _ _ _ _ => none) (fun _ _ _ _ => none) (fun _ _ _ _ => none) (fun _ => fun _ _ _ _ => none) (fun _ => fun _ _ _ _ => none) (fun _ e => fun E t ps K => ty E e fun e => fillK (fun i => some (Nat.mul i e.sz, e.sz)) ps t.z K) (fun fs => fun E t ps K => fillK (placeS E fs) ps t.z K) (fun _ _ => fun _ _ _ _ => none) (fun _ _ _ _ => none)) t.d) E t ps fun l => K (.agg l) h
def oBuildSlice (E : Env) (tm : TM) (t : TypeId) (len : Nat) (parts : List (Nat × Operand)) (h : H) (K : AV → H → Option R) : Option R :=
  partsK tm parts fun ps => elemK E t fun e => bf (Nat.ble (Nat.mul len e.sz) 16777216) (repK len e.z fun z => fillK (fun i => some (Nat.mul i e.sz, e.sz)) ps z fun l =>
    hnew h (.cells l none) fun n h => K (.c (.sl n 0 len len e.sz true)) h) none
def oLoad (E : Env) (tm : TM) (t : TypeId) (a : Operand) (h : H) (K : AV → H → Option R) : Option R := evC tm a fun a => withPtr a fun n off => ty E t fun t => hload h t n off fun v => K v h
def oStore (E : Env) (tm : TM) (t : TypeId) (a x : Operand) (h : H) (K : AV → H → Option R) : Option R :=
  evC tm a fun a => withPtr a fun n off => evK tm x fun v => withFlat v fun l => ty E t fun t => bf (Nat.beq (lenN l) t.sz) (hwrite h n off l fun h => K .u h) none
def oNil (tm : TM) (x : Operand) (h : H) (K : AV → H → Option R) : Option R :=
  evC tm x fun x => ((@CV.rec (fun _ => CV → H → (AV → H → Option R) → Option R) (fun _ => fun _ _ _ => none) (fun _ _ => fun _ _ _ => none) (fun _ _ _ => fun _ _ _ => none) (fun _ => fun _ _ _ => none) (fun _ _ _ => none) (fun _ _ => fun x h K => K (.c x) h) (fun _ _ _ => none) (fun _ _ _ => none) (fun _ _ _ _ _ _ => fun _ _ _ => none) (fun _ _ _ => none) (fun _ => fun _ _ _ => none) (fun _ _ _ => none) (fun _ _ => fun x h K => K (.c x) h) (fun _ => fun x h K => K (.c x) h)) x) x h K
def oBin (E : Env) (tm : TM) (op : BinOp) (t : TypeId) (x y : Operand) (h : H) (K : AV → H → Option R) : Option R := evC tm x fun x => evC tm y fun y => binop E t op x y fun v => K (.c v) h
def oUn (tm : TM) (op : UnOp) (x : Operand) (h : H) (K : AV → H → Option R) : Option R := evC tm x fun x =>
  ((@UnOp.rec (fun _ => CV → H → (AV → H → Option R) → Option R) (fun x h K => bf (isY x) (withY x fun k c l => mulL (-1) l fun l => fI (Int.sub 0 c) fun c => mkY k c l fun v => K (.c v) h) (withI x fun k n => fI (wrapI k (Int.sub 0 n)) fun n => K (.c (.i k n)) h)) (fun _ _ _ => none) (fun x h K => withB x fun c => fB (not c) fun c => K (.c (.b c)) h) (fun _ _ _ => none)) op) x h K
def oConvert (E : Env) (tm : TM) (src dst : TypeId) (x : Operand) (h : H) (K : AV → H → Option R) : Option R := evC tm x fun x => ty E src fun _ => ty E dst fun t =>
  ((@TD.rec (fun _ => CV → H → (AV → H → Option R) → Option R) (fun _ _ _ => none) (fun k => fun x h K => bf (isY x) (withY x fun _ c l => mkY k c l fun v => K (.c v) h) (withI x fun _ n => fI (wrapI k n) fun n => K (.c (.i k n)) h)) (fun x h K => withS x fun _ => K (.c x) h) (fun _ _ _ => none) (fun _ => fun _ _ _ => none) (fun _ => fun _ _ _ => none) (fun _ _ => fun _ _ _ => none) (fun _ => fun _ _ _ => none) (fun _ _ => fun _ _ _ => none) (fun _ _ _ => none)) t.d) x h K
def oFunc (tm : TM) (f : Fn) (first caps : List Operand) (h : H) (K : AV → H → Option R) : Option R :=
  ((@Fn.rec (fun _ => TM → List Operand → List Operand → H → (AV → H → Option R) → Option R) (fun f => fun tm first caps h K => (@List.rec Operand (fun _ => Option R) ((@List.rec Operand (fun _ => Option R) (K (.c (.fn f 0)) h) (fun _ _ _ => evsS tm caps fun l => hnew h (.caps l) fun n h => fN (Nat.succ n) fun n => K (.c (.fn f n)) h)) caps) (fun _ _ _ => none)) first) (fun _ => fun _ _ _ _ _ => none) (fun _ _ => fun _ _ _ _ _ => none) (fun _ _ _ _ => fun _ _ _ _ _ => none) (fun _ => fun _ _ _ _ _ => none)) f) tm first caps h K
def oMakeMap (q : Option Operand) (h : H) (K : AV → H → Option R) : Option R := ((@Option.rec Operand (fun _ => H → (AV → H → Option R) → Option R) (fun h K => hnew h (.map [] 0) fun n h => K (.c (.mp n)) h) (fun _ => fun _ _ => none)) q) h K
def nilSlice (lo hi mx : Option AV) (K : Option R) : Option R :=
  bf (bf mx.isSome hi.isSome true) (bound mx 0 fun m => bf (Nat.beq m 0) (bound hi 0 fun hh => bf (Nat.beq hh 0) (bound lo 0 fun l => bf (Nat.beq l 0) K none) none) none) none
def strSlice (x : ByteArray) (lo hi mx : Option AV) (K : AV → Option R) : Option R :=
  bf mx.isSome none (bound hi x.size fun hh => bf (Nat.ble hh x.size) (bound lo 0 fun l => bf (Nat.ble l hh) (K (.c (.s (x.extract l hh)))) none) none)
def oSlice (E : Env) (tm : TM) (t : TypeId) (x : Operand) (lo hi mx : Option Operand) (h : H) (K : AV → H → Option R) : Option R :=
  evC tm x fun x => oev tm lo fun lo => oev tm hi fun hi => oev tm mx fun mx => ty E t fun t =>
    ((@TD.rec (fun _ => Env → CV → Option AV → Option AV → Option AV → (AV → Option R) → Option R) (fun _ _ _ _ _ _ => none) (fun _ => fun _ _ _ _ _ _ => none) (fun E x lo hi mx K => withS x fun x => strSlice x lo hi mx K) (fun _ _ _ _ _ _ => none) (fun _ => fun _ _ _ _ _ _ => none) (fun e => fun E x lo hi mx K => (@CV.rec (fun _ => Option R) (fun _ => none) (fun _ _ => none) (fun _ _ _ => none) (fun _ => none) (none) (fun _ _ => none) (ty E e fun _ => nilSlice lo hi mx (K (.c .nils))) (none) (fun n off len cap z ex => ty E e fun e => bf (Nat.beq z e.sz) (sliceK e.sz n off len cap ex lo hi mx K) none) (none) (fun _ => none) (none) (fun _ _ => none) (fun _ => none)) x) (fun _ _ => fun _ _ _ _ _ _ => none) (fun _ => fun _ _ _ _ _ _ => none) (fun _ _ => fun _ _ _ _ _ _ => none) (fun _ _ _ _ _ _ => none)) t.d) E x lo hi mx fun v => K v h
def oFieldAddr (E : Env) (tm : TM) (t : TypeId) (x : Operand) (f : Nat) (h : H) (K : AV → H → Option R) : Option R :=
  evC tm x fun x => withPtr x fun n off => ty E t fun t => withStruct t.d fun fs => ob (getL fs f) fun p => ty E p.2 fun ft => bf (Nat.beq ft.sz 0) none (fN (Nat.add off p.1) fun o => K (.c (.ptr n o)) h)
/-- a part of an aggregate -/
def pickK (t : TI) (l : List CV) (off : Nat) (h : H) (K : AV → H → Option R) : Option R := partK l off t.sz fun m => shapeK t m fun v => K v h
def oField (E : Env) (tm : TM) (t : TypeId) (x : Operand) (f : Nat) (h : H) (K : AV → H → Option R) : Option R :=
  evK tm x fun x => withAgg x fun l => ty E t fun t => withStruct t.d fun fs => ob (getL fs f) fun p => ty E p.2 fun ft => pickK ft l p.1 h K
def atK (E : Env) (e : TypeId) (n off len i : Nat) (h : H) (K : AV → H → Option R) : Option R := ty E e fun e => bf (Nat.blt i len) (fN (Nat.add off (Nat.mul i e.sz)) fun o => K (.c (.ptr n o)) h) none
def oIndexAddr (E : Env) (tm : TM) (t : TypeId) (x ix : Operand) (h : H) (K : AV → H → Option R) : Option R :=
  evC tm x fun x => evK tm ix fun ix => asN ix fun i => ty E t fun t =>
    ((@TD.rec (fun _ => Env → CV → Nat → H → (AV → H → Option R) → Option R) (fun _ _ _ _ _ => none) (fun _ => fun _ _ _ _ _ => none) (fun _ _ _ _ _ => none) (fun _ _ _ _ _ => none) (fun _ => fun _ _ _ _ _ => none) (fun e => fun E x i h K => ((@CV.rec (fun _ => TypeId → Env → Nat → H → (AV → H → Option R) → Option R) (fun _ => fun _ _ _ _ _ => none) (fun _ _ => fun _ _ _ _ _ => none) (fun _ _ _ => fun _ _ _ _ _ => none) (fun _ => fun _ _ _ _ _ => none) (fun _ _ _ _ _ => none) (fun _ _ => fun _ _ _ _ _ => none) (fun _ _ _ _ _ => none) (fun _ _ _ _ _ => none) (fun n off len _ _ _ => fun e E i h K => atK E e n off len i h K) (fun _ _ _ _ _ => none) (fun _ => fun _ _ _ _ _ => none) (fun _ _ _ _ _ => none) (fun _ _ => fun _ _ _ _ _ => none) (fun _ => fun _ _ _ _ _ => none)) x) e E i h K) (fun len e => fun E x i h K => withPtr x fun n off => atK E e n off len i h K) (fun _ => fun _ _ _ _ _ => none) (fun _ _ => fun _ _ _ _ _ => none) (fun _ _ _ _ _ => none)) t.d) E x i h K
def oIndex (E : Env) (tm : TM) (t : TypeId) (x ix : Operand) (h : H) (K : AV → H → Option R) : Option R :=
  evK tm x fun x => evK tm ix fun ix => asN ix fun i => ty E t fun t =>
    ((@TD.rec (fun _ => Env → AV → Nat → H → (AV → H → Option R) → Option R) (fun _ _ _ _ _ => none) (fun _ => fun _ _ _ _ _ => none) (fun E x i h K => withC x fun x => withS x fun x => ob (x[i]?) fun c => fN c.toNat fun n => K (.c (.i .u8 (.ofNat n))) h) (fun _ _ _ _ _ => none) (fun _ => fun _ _ _ _ _ => none) (fun _ => fun _ _ _ _ _ => none) (fun len e => fun E x i h K => withAgg x fun l => ty E e fun e => bf (Nat.blt i len) (pickK e l (Nat.mul i e.sz) h K) none) (fun _ => fun _ _ _ _ _ => none) (fun _ _ => fun _ _ _ _ _ => none) (fun _ _ _ _ _ => none)) t.d) E x i h K
def okK (ok : Bool) (v : AS) (c : Bool) (h : H) (K : AV → H → Option R) : Option R := bf ok (K (.tup [v, .c (.b c)]) h) (ofS v fun v => K v h)
def oLookup (E : Env) (tm : TM) (t : TypeId) (x k : Operand) (ok : Bool) (h : H) (K : AV → H → Option R) : Option R :=
  evC tm x fun x => evC tm k fun k => mapK E t k fun e => zeroK e fun z =>
    ((@CV.rec (fun _ => CV → AS → Bool → H → (AV → H → Option R) → Option R) (fun _ => fun _ _ _ _ _ => none) (fun _ _ => fun _ _ _ _ _ => none) (fun _ _ _ => fun _ _ _ _ _ => none) (fun _ => fun _ _ _ _ _ => none) (fun _ _ _ _ _ => none) (fun _ _ => fun _ _ _ _ _ => none) (fun _ _ _ _ _ => none) (fun _ _ _ _ _ => none) (fun _ _ _ _ _ _ => fun _ _ _ _ _ => none) (fun _ z ok h K => okK ok z false h K) (fun n => fun k z ok h K => ob (hget h n) fun o => withMap o fun l _ => findK l k fun r => ((@Option.rec ME (fun _ => AS → Bool → H → (AV → H → Option R) → Option R) (fun z ok h K => okK ok z false h K) (fun e => fun _ ok h K => okK ok e.v true h K)) r) z ok h K) (fun _ _ _ _ _ => none) (fun _ _ => fun _ _ _ _ _ => none) (fun _ => fun _ _ _ _ _ => none)) x) k z ok h K
def oUpdate (E : Env) (tm : TM) (t : TypeId) (m k v : Operand) (h : H) (K : AV → H → Option R) : Option R :=
  evC tm m fun m => withMp m fun n => evC tm k fun k => mapK E t k fun _ => evK tm v fun v => toS v fun v => ob (hget h n) fun o => withMap o fun l clk =>
    mputK l k v clk fun l b => fN (bf b (Nat.succ clk) clk) fun clk => hset h n (some (.map l clk)) fun h => K .u h
def oEntry (E : Env) (tm : TM) (t : TypeId) (m k : Operand) (h : H) (K : AV → H → Option R) : Option R :=
  evC tm m fun m => withMp m fun n => evC tm k fun k => mapK E t k fun e => ob (hget h n) fun o => withMap o fun l clk => findK l k fun r =>
    ((@Option.rec ME (fun _ => Option R) (zeroK e fun z => mputK l k z clk fun l _ => fN (Nat.succ clk) fun clk' => hset h n (some (.map l clk')) fun h => K (.tup [z, .c (.i .i64 (.ofNat clk))]) h) (fun e => K (.tup [e.v, .c (.i .i64 (.ofNat e.c))]) h)) r)
def oEntryStore (tm : TM) (m s v : Operand) (h : H) (K : AV → H → Option R) : Option R :=
  evC tm m fun m => withMp m fun n => evK tm s fun s => asN s fun s => evK tm v fun v => toS v fun v => ob (hget h n) fun o => withMap o fun l clk =>
    mstoreK l s v fun l => hset h n (some (.map l clk)) fun h => K .u h
def oExtract (tm : TM) (x : Operand) (i : Nat) (h : H) (K : AV → H → Option R) : Option R := evK tm x fun x => withTup x fun l => ob (getL l i) fun v => ofS v fun v => K v h
def capsK (h : H) (c : Nat) (args : List AV) : (List AV → Option R) → Option R :=
  (@Nat.rec (fun _ => H → List AV → (List AV → Option R) → Option R) (fun _ args K => K args) (fun n _ => fun h args K => ob (hget h n) fun o => withCaps o fun l => ((@List.rec AS (fun _ => (List AV → Option R) → Option R) (fun K => K []) (fun s r ih => fun K => ofS s fun v => ih fun l => K (v :: l))) l) fun l => appK args l K)) c h args
def oCallV (f : CV) : List AV → H → Caller R → (AV → H → Option R) → Option R :=
  (@CV.rec (fun _ => List AV → H → Caller R → (AV → H → Option R) → Option R) (fun _ => fun _ _ _ _ => none) (fun _ _ => fun _ _ _ _ => none) (fun _ _ _ => fun _ _ _ _ => none) (fun _ => fun _ _ _ _ => none) (fun _ _ _ _ => none) (fun _ _ => fun _ _ _ _ => none) (fun _ _ _ _ => none) (fun _ _ _ _ => none) (fun _ _ _ _ _ _ => fun _ _ _ _ => none) (fun _ _ _ _ => none) (fun _ => fun _ _ _ _ => none) (fun _ _ _ _ => none) (fun f c => fun args h call K => capsK h c args fun l => call (.enter f l) h K) (fun n => fun args h call K => call (.round n args) h K)) f
def oCall (E : Env) (tm : TM) (c : Call) (h : H) (call : Caller R) (K : AV → H → Option R) : Option R :=
  evs tm c.args.toList fun args => ((@Callee.rec (fun _ => Env → TM → Call → List AV → H → Caller R → (AV → H → Option R) → Option R) (fun f => fun _ tm _ args h call K => evC tm f fun f => oCallV f args h call K) (fun _ _ => fun _ _ _ _ _ _ _ => none) (fun b => fun E _ c args h _ K => builtinK E b c.argTypes.toList args h K)) c.callee) E tm c args h call K
def opK (o : Op) : Env → TM → H → Caller R → (AV → H → Option R) → Option R :=
  (@Op.rec (fun _ => Env → TM → H → Caller R → (AV → H → Option R) → Option R) (fun x => fun _ tm h _ K => oMove tm x h K) (fun x => fun _ tm h _ K => oMove tm x h K) (fun c a b => fun _ tm h _ K => oPick tm c a b h K) (fun t => fun E _ h _ K => oAlloc E t h K) (fun _ x => fun _ tm h _ K => oBox tm x h K) (fun t parts => fun E tm h _ K => oBuild E tm t parts.toList h K) (fun t len parts => fun E tm h _ K => oBuildSlice E tm t len parts.toList h K) (fun t m k v => fun E tm h _ K => oUpdate E tm t m k v h K) (fun t a => fun E tm h _ K => oLoad E tm t a h K) (fun t a x => fun E tm h _ K => oStore E tm t a x h K) (fun _ => fun _ _ _ _ _ => none) (fun _ => fun _ _ _ _ _ => none) (fun x => fun _ tm h _ K => oNil tm x h K) (fun op t x y _ => fun E tm h _ K => oBin E tm op t x y h K) (fun op _ x => fun _ tm h _ K => oUn tm op x h K) (fun s d x => fun E tm h _ K => oConvert E tm s d x h K) (fun _ _ => fun _ _ _ _ _ => none) (fun _ _ => fun _ _ _ _ _ => none) (fun f first caps => fun _ tm h _ K => oFunc tm f first.toList caps.toList h K) (fun _ q => fun _ _ h _ K => oMakeMap q h K) (fun _ _ => fun _ _ _ _ _ => none) (fun _ _ _ => fun _ _ _ _ _ => none) (fun t x lo hi mx => fun E tm h _ K => oSlice E tm t x lo hi mx h K) (fun t x f => fun E tm h _ K => oFieldAddr E tm t x f h K) (fun t x f => fun E tm h _ K => oField E tm t x f h K) (fun t x i => fun E tm h _ K => oIndexAddr E tm t x i h K) (fun t x i => fun E tm h _ K => oIndex E tm t x i h K) (fun t x k ok => fun E tm h _ K => oLookup E tm t x k ok h K) (fun t m k v => fun E tm h _ K => oUpdate E tm t m k v h K) (fun t m k => fun E tm h _ K => oEntry E tm t m k h K) (fun _ m s v => fun _ tm h _ K => oEntryStore tm m s v h K) (fun _ _ => fun _ _ _ _ _ => none) (fun _ _ => fun _ _ _ _ _ => none) (fun _ => fun _ _ _ _ _ => none) (fun _ _ _ _ => fun _ _ _ _ _ => none) (fun x i => fun _ tm h _ K => oExtract tm x i h K) (fun c => fun E tm h call K => oCall E tm c h call K) (fun _ => fun _ _ _ _ _ => none) (fun _ => fun _ _ _ _ _ => none) (fun _ => fun _ _ _ _ _ => none) (fun _ _ => fun _ _ _ _ _ => none) (fun _ _ _ => fun _ _ _ _ _ => none) (fun _ _ => fun _ _ _ _ _ => none)) o
def setT (tm : TM) (d : Option Tmp) (v : AV) (K : TM → Option R) : Option R := ((@Option.rec Tmp (fun _ => TM → AV → (TM → Option R) → Option R) (fun tm _ K => K tm) (fun d => fun tm v K => K (.cons d v tm))) d) tm v K
def wantK (ops : List Oper) (tm : TM) (g : Option (Nat × Bool)) : (Bool → Option R) → Option R :=
  (@Option.rec (Nat × Bool) (fun _ => List Oper → TM → (Bool → Option R) → Option R) (fun _ _ K => K true) (fun p => fun ops tm K => ob (getL ops p.1) fun o => ob o.dst fun d => ob (TM.get tm d) fun v =>
    ((@AV.rec (fun _ => Bool → (Bool → Option R) → Option R) (fun _ K => K false) (fun x => fun w K => withB x fun c => fB ((@Bool.rec (fun _ => Bool) (not w) (w)) c) K) (fun _ => fun _ _ => none) (fun _ => fun _ _ => none)) v) p.2 K)) g ops tm
/-- runes, of no text; a text, of no runes -/
def isRune (d : TD) : Bool := (@TD.rec (fun _ => Bool) (false) (fun k => Nat.beq (kindN k) 2) (false) (false) (fun _ => false) (fun _ => false) (fun _ _ => false) (fun _ => false) (fun _ _ => false) (false)) d
def isEmp (x : CV) : Bool := (@CV.rec (fun _ => Bool) (fun _ => false) (fun _ _ => false) (fun _ _ _ => false) (fun _ => false) (false) (fun _ _ => false) (true) (true) (fun _ _ n _ _ _ => Nat.beq n 0) (false) (fun _ => false) (false) (fun _ _ => false) (fun _ => false)) x
def oToRunes (E : Env) (e : TypeId) (c : CV) (h : H) (K : AV → H → Option R) : Option R := ty E e fun te => bf (isRune te.d) (withS c fun b => bf (Nat.beq b.size 0) (hnew h (.cells [] none) fun n h => K (.c (.sl n 0 0 0 1 false)) h) none) none
def oOfRunes (E : Env) (e : TypeId) (c : CV) (h : H) (K : AV → H → Option R) : Option R := ty E e fun te => bf (isRune te.d) (bf (isEmp c) (K (.c (.s .empty)) h) none) none
def oConvX (E : Env) (tm : TM) (s d : TypeId) (x : Operand) (h : H) (K : AV → H → Option R) : Option R :=
  ty E s fun ts => ty E d fun td => ((@TD.rec (fun _ => TI → Env → TM → TypeId → TypeId → Operand → H → (AV → H → Option R) → Option R) (fun _ E tm s d x h K => oConvert E tm s d x h K) (fun _ => fun _ E tm s d x h K => oConvert E tm s d x h K) (fun ts E tm s d x h K => ((@TD.rec (fun _ => Env → TM → TypeId → TypeId → Operand → H → (AV → H → Option R) → Option R) (fun E tm s d x h K => oConvert E tm s d x h K) (fun _ => fun E tm s d x h K => oConvert E tm s d x h K) (fun E tm s d x h K => oConvert E tm s d x h K) (fun E tm s d x h K => oConvert E tm s d x h K) (fun _ => fun E tm s d x h K => oConvert E tm s d x h K) (fun e => fun E tm _ _ x h K => evC tm x fun c => oOfRunes E e c h K) (fun _ _ => fun E tm s d x h K => oConvert E tm s d x h K) (fun _ => fun E tm s d x h K => oConvert E tm s d x h K) (fun _ _ => fun E tm s d x h K => oConvert E tm s d x h K) (fun E tm s d x h K => oConvert E tm s d x h K)) ts.d) E tm s d x h K) (fun _ E tm s d x h K => oConvert E tm s d x h K) (fun _ => fun _ E tm s d x h K => oConvert E tm s d x h K) (fun e => fun _ E tm _ _ x h K => evC tm x fun c => oToRunes E e c h K) (fun _ _ => fun _ E tm s d x h K => oConvert E tm s d x h K) (fun _ => fun _ E tm s d x h K => oConvert E tm s d x h K) (fun _ _ => fun _ E tm s d x h K => oConvert E tm s d x h K) (fun _ E tm s d x h K => oConvert E tm s d x h K)) td.d) ts E tm s d x h K
/-- an operation of a region whose order stands -/
def opXK (o : Op) (E : Env) (tm : TM) (h : H) (call : Caller R) (K : AV → H → Option R) : Option R :=
  ((@Op.rec (fun _ => Op → Env → TM → H → Caller R → (AV → H → Option R) → Option R) (fun _ => fun o E tm h call K => opK o E tm h call K) (fun _ => fun o E tm h call K => opK o E tm h call K) (fun _ _ _ => fun o E tm h call K => opK o E tm h call K) (fun _ => fun o E tm h call K => opK o E tm h call K) (fun _ _ => fun o E tm h call K => opK o E tm h call K) (fun _ _ => fun o E tm h call K => opK o E tm h call K) (fun _ _ _ => fun o E tm h call K => opK o E tm h call K) (fun _ _ _ _ => fun o E tm h call K => opK o E tm h call K) (fun _ _ => fun o E tm h call K => opK o E tm h call K) (fun _ _ _ => fun o E tm h call K => opK o E tm h call K) (fun _ => fun o E tm h call K => opK o E tm h call K) (fun _ => fun o E tm h call K => opK o E tm h call K) (fun _ => fun o E tm h call K => opK o E tm h call K) (fun _ _ _ _ _ => fun o E tm h call K => opK o E tm h call K) (fun _ _ _ => fun o E tm h call K => opK o E tm h call K) (fun s d x => fun _ E tm h _ K => oConvX E tm s d x h K) (fun _ _ => fun o E tm h call K => opK o E tm h call K) (fun _ _ => fun o E tm h call K => opK o E tm h call K) (fun _ _ _ => fun o E tm h call K => opK o E tm h call K) (fun _ _ => fun o E tm h call K => opK o E tm h call K) (fun _ _ => fun o E tm h call K => opK o E tm h call K) (fun _ _ _ => fun o E tm h call K => opK o E tm h call K) (fun _ _ _ _ _ => fun o E tm h call K => opK o E tm h call K) (fun _ _ _ => fun o E tm h call K => opK o E tm h call K) (fun _ _ _ => fun o E tm h call K => opK o E tm h call K) (fun _ _ _ => fun o E tm h call K => opK o E tm h call K) (fun _ _ _ => fun o E tm h call K => opK o E tm h call K) (fun _ _ _ _ => fun o E tm h call K => opK o E tm h call K) (fun _ _ _ _ => fun o E tm h call K => opK o E tm h call K) (fun _ _ _ => fun o E tm h call K => opK o E tm h call K) (fun _ _ _ _ => fun o E tm h call K => opK o E tm h call K) (fun _ _ => fun o E tm h call K => opK o E tm h call K) (fun _ _ => fun o E tm h call K => opK o E tm h call K) (fun _ => fun o E tm h call K => opK o E tm h call K) (fun _ _ _ _ => fun o E tm h call K => opK o E tm h call K) (fun _ _ => fun o E tm h call K => opK o E tm h call K) (fun _ => fun o E tm h call K => opK o E tm h call K) (fun _ => fun o E tm h call K => opK o E tm h call K) (fun _ => fun o E tm h call K => opK o E tm h call K) (fun _ => fun o E tm h call K => opK o E tm h call K) (fun _ _ => fun o E tm h call K => opK o E tm h call K) (fun _ _ _ => fun o E tm h call K => opK o E tm h call K) (fun _ _ => fun o E tm h call K => opK o E tm h call K)) o) o E tm h call K
def oneK (E : Env) (call : Caller R) (all : List Oper) (o : Oper) (tm : TM) (h : H) (K : TM → H → Option R) : Option R :=
  wantK all tm o.guard fun w => bf w (opXK o.op E tm h call fun v h => setT tm o.dst v fun tm => K tm h) (setT tm o.dst .u fun tm => K tm h)
def regK (E : Env) (call : Caller R) (all : List Oper) (l : List Oper) : TM → H → (TM → H → Option R) → Option R :=
  (@List.rec Oper (fun _ => Env → Caller R → List Oper → TM → H → (TM → H → Option R) → Option R) (fun _ _ _ tm h K => K tm h) (fun o r ih => fun E call all tm h K => oneK E call all o tm h fun tm h => ih E call all tm h K)) l E call all
/-! ### regions that draw their order -/
/-- 0: looks at temporaries alone; 1: reads memory; 2: lays a new block; 3: anything -/
def opKind (o : Op) : Nat := (@Op.rec (fun _ => Nat) (fun _ => 0) (fun _ => 0) (fun _ _ _ => 0) (fun _ => 2) (fun _ _ => 2) (fun _ _ => 0) (fun _ _ _ => 2) (fun _ _ _ _ => 3) (fun _ _ => 1) (fun _ _ _ => 3) (fun _ => 3) (fun _ => 3) (fun _ => 0) (fun _ _ _ _ _ => 0) (fun _ _ _ => 0) (fun _ _ _ => 0) (fun _ _ => 3) (fun _ _ => 3) (fun _ _ _ => 3) (fun _ _ => 2) (fun _ _ => 3) (fun _ _ _ => 3) (fun _ _ _ _ _ => 0) (fun _ _ _ => 0) (fun _ _ _ => 0) (fun _ _ _ => 0) (fun _ _ _ => 0) (fun _ _ _ _ => 1) (fun _ _ _ _ => 3) (fun _ _ _ => 3) (fun _ _ _ _ => 3) (fun _ _ => 3) (fun _ _ => 3) (fun _ => 3) (fun _ _ _ _ => 3) (fun _ _ => 0) (fun c => ((@Callee.rec (fun _ => Nat) (fun _ => 3) (fun _ _ => 3) (fun b => (@Builtin.rec (fun _ => Nat) (3) (3) (3) (3) (3) (3) (3) (3) (1) (3) (0) (0) (3) (3) (3) (3) (3) (3) (3) (3) (3) (3) (3) (3) (3) (3)) b)) c.callee)) (fun _ => 3) (fun _ => 3) (fun _ => 3) (fun _ _ => 3) (fun _ _ _ => 3) (fun _ _ => 3)) o
def memN (l : List Nat) : Nat → Bool := (@List.rec Nat (fun _ => Nat → Bool) (fun _ => false) (fun a l ih => fun k => bf (Nat.beq a k) true (ih k))) l
def allN (l : List Nat) : (Nat → Bool) → Bool := (@List.rec Nat (fun _ => (Nat → Bool) → Bool) (fun _ => true) (fun a l ih => fun p => bf (p a) (ih p) false)) l
def deps (o : Oper) : List Nat := o.after.toList.filterMap fun e => if Region.binds .any e then some e.on else none
def addN (l : List Nat) : List Nat → List Nat := (@List.rec Nat (fun _ => List Nat → List Nat) (fun m => m) (fun a l ih => fun m => bf (memN m a) (ih m) (ih (a :: m)))) l
def ancOf (ds : List Nat) : List (List Nat) → List Nat → List Nat := (@List.rec Nat (fun _ => List (List Nat) → List Nat → List Nat) (fun _ m => m) (fun a l ih => fun T m => ih T (addN (T.getD a []) (addN [a] m)))) ds
def mkT (os : List Oper) : List (List Nat) → List (List Nat) := (@List.rec Oper (fun _ => List (List Nat) → List (List Nat)) (fun T => T) (fun o r ih => fun T => ih (T ++ [ancOf (deps o) T []]))) os
def looks (ops : List Oper) (o : Oper) : List Nat := (o.op.operands.toList.filterMap fun | .tmp t => some t | _ => none) ++ (match o.guard with | none => [] | some p => ((getL ops p.1).bind (·.dst)).toList)
def wrOk (ops : List Oper) (j k : Nat) : Bool :=
  match getL ops j, getL ops k with
  | some o, some q => match q.dst with | none => true | some d => !(memN (looks ops o) d) && (match o.dst with | none => true | some e => !(Nat.beq e d))
  | _, _ => false
/-- may j, which comes first, be turned about with k? (k.2: what is read again behind k) -/
def turnOk (ops : List Oper) (j : Nat) (k : Nat × List Nat) : Bool :=
  match getL ops j, getL ops k.1 with
  | some o, some q => (match o.dst with | none => true | some d => !(memN (looks ops q) d)) && (Nat.beq (opKind o.op) 0 || Nat.beq (opKind q.op) 0 || (Nat.beq (opKind o.op) 1 && Nat.ble (opKind q.op) 2) || (Nat.beq (opKind q.op) 2 && Nat.ble 2 (opKind o.op)) || (Nat.beq (opKind o.op) 1 && memN k.2 j && (match o.dst with | none => true | some d => !(memN (looks ops o) d))))
  | _, _ => false
/-- behind all others -/
def finOk (ops : List Oper) (T : List (List Nat)) (k : Nat) : Bool := (List.range ops.length).all fun j => Nat.beq j k || memN (T.getD k []) j
def pairOk (ops : List Oper) (T : List (List Nat)) (p q : Nat × List Nat) : Bool := !(memN (T.getD p.1 []) q.1) && !(Nat.beq p.1 q.1) && (wrOk ops p.1 q.1 || finOk ops T q.1) && (memN (T.getD q.1 []) p.1 || turnOk ops p.1 q)
def pairsOk (ops : List Oper) (T : List (List Nat)) : List (Nat × List Nat) → Bool
  | [] => true
  | p :: r => r.all (pairOk ops T p) && pairsOk ops T r
def tabOk (ops : List Oper) (T : List (List Nat)) : Bool :=
  (List.range ops.length).all fun j => match getL ops j with
    | some o => ((T.getD j []).all fun i => memN (deps o) i || (deps o).any fun k => memN (T.getD k []) i) && ((deps o).all fun k => Nat.blt k j && memN (T.getD j []) k)
    | none => false
def regOk (ops : List Oper) (pi : List (Nat × List Nat)) : Bool :=
  (fun T => tabOk ops T && (Nat.beq (lenN pi) (lenN ops) && ((List.range ops.length).all fun j => pi.any fun p => Nat.beq p.1 j)) && pairsOk ops T pi) (mkT ops [])
def codeI (n : Int) (r : List Nat) : List Nat := (@Int.rec (fun _ => List Nat) (fun m => 0 :: m :: r) (fun m => 1 :: m :: r)) n
def codeL (l : List (Int × Int × Int)) : List Nat := (@List.rec (Int × Int × Int) (fun _ => List Nat) ([]) (fun t _ ih => codeI t.1 (codeI t.2.1 (codeI t.2.2 ih)))) l
def codeC (x : CV) : List Nat := (@CV.rec (fun _ => List Nat) (fun x => [1, (@Bool.rec (fun _ => Nat) (0) (1)) x]) (fun k n => (@Int.rec (fun _ => List Nat) (fun m => [2, kindN k, m]) (fun m => [3, kindN k, m])) n) (fun k c l => 14 :: kindN k :: codeI c (codeL l)) (fun x => 13 :: x.data.toList.map UInt8.toNat) ([4]) (fun n o => [5, n, o]) ([6]) ([]) (fun n o l c z e => [7, n, o, l, c, z, (@Bool.rec (fun _ => Nat) (0) (1)) e]) ([8]) (fun n => [9, n]) ([10]) (fun f c => [11, f, c]) (fun n => [12, n])) x
def eqN (l : List Nat) : List Nat → Bool := (@List.rec Nat (fun _ => List Nat → Bool) (fun m => (@List.rec Nat (fun _ => Bool) (true) (fun _ _ _ => false)) m) (fun a l ih => fun m => (@List.rec Nat (fun _ => Bool) (false) (fun b m _ => bf (Nat.beq a b) (ih m) false)) m)) l
/-- alike, for sure -/
def eqC (x y : CV) : Bool := ((@List.rec Nat (fun _ => List Nat → Bool) (fun _ => false) (fun a l _ => fun m => eqN (a :: l) m)) (codeC x)) (codeC y)
def eqCs (l : List CV) : List CV → Bool := (@List.rec CV (fun _ => List CV → Bool) (fun m => (@List.rec CV (fun _ => Bool) (true) (fun _ _ _ => false)) m) (fun a l ih => fun m => (@List.rec CV (fun _ => Bool) (false) (fun b m _ => bf (eqC a b) (ih m) false)) m)) l
def eqS (x y : AS) : Bool := ((@AS.rec (fun _ => AS → Bool) (fun x => fun y => (@AS.rec (fun _ => Bool) (fun y => eqC x y) (fun _ => false)) y) (fun l => fun y => (@AS.rec (fun _ => Bool) (fun _ => false) (fun m => eqCs l m)) y)) x) y
def eqSs (l : List AS) : List AS → Bool := (@List.rec AS (fun _ => List AS → Bool) (fun m => (@List.rec AS (fun _ => Bool) (true) (fun _ _ _ => false)) m) (fun a l ih => fun m => (@List.rec AS (fun _ => Bool) (false) (fun b m _ => bf (eqS a b) (ih m) false)) m)) l
def eqV (x y : AV) : Bool := ((@AV.rec (fun _ => AV → Bool) (fun _ => false) (fun x => fun y => (@AV.rec (fun _ => Bool) (false) (fun y => eqC x y) (fun _ => false) (fun _ => false)) y) (fun l => fun y => (@AV.rec (fun _ => Bool) (false) (fun _ => false) (fun m => eqCs l m) (fun _ => false)) y) (fun l => fun y => (@AV.rec (fun _ => Bool) (false) (fun _ => false) (fun _ => false) (fun m => eqSs l m)) y)) x) y
def lookV (vs : List (Nat × Option AV)) : Nat → Option (Option AV) := (@List.rec (Nat × Option AV) (fun _ => Nat → Option (Option AV)) (fun _ => none) (fun p _ ih => fun k => bf (Nat.beq p.1 k) (some p.2) (ih k))) vs
def freshK (hs : List (T AO)) : Nat → Option R → Option R :=
  (@List.rec (T AO) (fun _ => Nat → Option R → Option R) (fun _ X => X) (fun t _ ih => fun n X => ((@Option.rec AO (fun _ => Option R → Option R) (fun X => X) (fun _ => fun _ => none)) (T.get t n)) (ih n X))) hs
/-- the heaps ahead of every operation that turns one; a new block's name was free in all of them -/
def chgK (k : Nat) : H → List (T AO) → (List (T AO) → Option R) → Option R :=
  (@Nat.rec (fun _ => H → List (T AO) → (List (T AO) → Option R) → Option R) (fun _ hs K => K hs) (fun k _ => (@Nat.rec (fun _ => H → List (T AO) → (List (T AO) → Option R) → Option R) (fun _ hs K => K hs) (fun k _ => (@Nat.rec (fun _ => H → List (T AO) → (List (T AO) → Option R) → Option R) (fun h hs K => (@H.rec (fun _ => Option R) (fun nx t => freshK (t :: hs) nx (K (t :: hs)))) h) (fun _ _ => fun h hs K => (@H.rec (fun _ => Option R) (fun nx t => K (t :: hs))) h)) k)) k)) k
/-- what was read is read again: the same -/
def againK (E : Env) (ops : List Oper) (cs : List Nat) : List (Nat × Option AV) → TM → H → Option R → Option R :=
  (@List.rec Nat (fun _ => Env → List Oper → List (Nat × Option AV) → TM → H → Option R → Option R) (fun _ _ _ _ _ X => X) (fun i _ ih => fun E ops vs tm h X => ob (lookV vs i) fun ov =>
    ((@Option.rec AV (fun _ => Option R → (AV → Option R) → Option R) (fun A _ => A) (fun v => fun _ B => B v)) ov) (ih E ops vs tm h X) fun v => ob (getL ops i) fun o => wantK ops tm o.guard fun w => bf w
      (opK o.op E tm h (fun _ _ _ => none) fun v' _ => bf (eqV v' v) (ih E ops vs tm h X) none) none)) cs E ops
def drawK (E : Env) (call : Caller R) (all : List Oper) (l : List (Nat × List Nat)) : TM → H → List (Nat × Option AV) → List (T AO) → (TM → H → Option R) → Option R :=
  (@List.rec (Nat × List Nat) (fun _ => Env → Caller R → List Oper → TM → H → List (Nat × Option AV) → List (T AO) → (TM → H → Option R) → Option R) (fun _ _ _ tm h _ _ K => K tm h) (fun p _ ih => fun E call all tm h vs hs K =>
    ob (getL all p.1) fun o => wantK all tm o.guard fun w => bf w
      (chgK (opKind o.op) h hs fun hs => opK o.op E tm h call fun v h => setT tm o.dst v fun tm => againK E all p.2 vs tm h (ih E call all tm h ((p.1, some v) :: vs) hs K))
      (setT tm o.dst .u fun tm => ih E call all tm h ((p.1, none) :: vs) hs K))) l E call all
def regDK (E : Env) (call : Caller R) (f id : Nat) (ops : List Oper) (tm : TM) (h : H) (K : TM → H → Option R) : Option R :=
  ob (T.get E.rg f) fun t => ob (T.get t id) fun pi => bf (regOk ops pi) (drawK E call ops pi tm h [] [] K) none
def argsT (l : List AV) : Nat → TM → (TM → Option R) → Option R :=
  (@List.rec AV (fun _ => Nat → TM → (TM → Option R) → Option R) (fun _ t K => K t) (fun a l ih => fun i t K => fN (Nat.succ i) fun i' => ih i' (.cons i a t) K)) l
def paramsT (ps : List Tmp) : List AV → TM → (TM → Option R) → Option R :=
  (@List.rec Tmp (fun _ => List AV → TM → (TM → Option R) → Option R) (fun l t K => (@List.rec AV (fun _ => Option R) (K t) (fun _ _ _ => none)) l) (fun p ps ih => fun l t K => (@List.rec AV (fun _ => Option R) (none) (fun a l _ => ih l (.cons p a t) K)) l)) ps
def dstsOk (n : Nat) (ops : List Oper) : Bool := (@List.rec Oper (fun _ => Bool) (true) (fun o r ih => bf ((@Option.rec Tmp (fun _ => Bool) (true) (fun d => Nat.blt d n)) o.dst) ih false)) ops
/-- behind a region: what is not wanted any more is forgotten -/
def pruneK (E : Env) (f id : Nat) (tm : TM) (K : TM → Option R) : Option R :=
  ((@Option.rec (T Nat) (fun _ => Nat → TM → (TM → Option R) → Option R) (fun _ tm K => K tm) (fun l => fun id tm K => ((@Option.rec Nat (fun _ => TM → (TM → Option R) → Option R) (fun tm K => K tm) (fun m => fun tm K => TM.keepK tm m K)) (T.get l id)) tm K)) (T.get E.lv f)) id tm K
def takeDs (ds : List Nat) : H → (H → Option R) → Option R :=
  (@List.rec Nat (fun _ => H → (H → Option R) → Option R) (fun h K => K h) (fun d ds ih => fun h K => ob (hget h d) fun o => withDfr o (hset h d (some (.dfr false)) fun h => ih h K))) ds
def resK (E : Env) (tm : TM) (h : H) (l : List ResultVar) : (List AV → Option R) → Option R :=
  (@List.rec ResultVar (fun _ => Env → TM → H → (List AV → Option R) → Option R) (fun _ _ _ K => K []) (fun r _ ih => fun E tm h K =>
    ((@ResultVar.rec (fun _ => Env → TM → H → (AV → Option R) → Option R) (fun t => fun _ tm _ K => ob (TM.get tm t) K) (fun a t => fun E tm h K => ob (TM.get tm a) fun a => withC a fun a => withPtr a fun n off => ty E t fun t => hload h t n off K)) r) E tm h fun v => ih E tm h fun l => K (v :: l))) l E tm h
def toSs (l : List AV) : (List AS → Option R) → Option R := (@List.rec AV (fun _ => (List AS → Option R) → Option R) (fun K => K []) (fun v r ih => fun K => toS v fun v => ih fun l => K (v :: l))) l
/-- the results, as one value -/
def joinK (l : List AV) (K : AV → Option R) : Option R :=
  ((@List.rec AV (fun _ => List AV → (AV → Option R) → Option R) (fun l K => K (.tup [])) (fun v r _ => fun l K => (@List.rec AV (fun _ => Option R) (K v) (fun _ _ _ => toSs l fun l => K (.tup l))) r)) l) l K
def doneK (E : Env) (f : FuncId) (tm : TM) (ds : List Nat) (h : H) (K : AV → H → Option R) : Option R :=
  ob (T.get E.fs f) fun fn => takeDs ds h fun h => resK E tm h fn.results.toList fun l => joinK l fun v => K v h
/-- the frame of a round ends by 'jump' -/
def roundK (l : Nat) (h : H) (jump : Option Code) (K : AV → H → Option R) : Option R :=
  ob (hget h l) fun o => withLoop o fun r => ((@LoopR.rec (fun _ => H → Nat → Option Code → (AV → H → Option R) → Option R) (fun _ _ f tm ps a b d nt => fun h l jump K =>
    ((@Option.rec Code (fun _ => (LoopState → Bool → Option R) → Option R) (fun G => G .ready true) (fun _ => fun G => G .done false)) jump) fun st c => hset h l (some (.loop (LoopR.mk st jump f tm ps a b d nt))) fun h => K (.c (.b c)) h)) r) h l jump K
abbrev Rec (R : Type) := FuncId → TM → List Item → List Nat → Option Nat → H → (AV → H → Option R) → Option R
def eqVs (l : List AV) : List AV → Bool := (@List.rec AV (fun _ => List AV → Bool) (fun m => (@List.rec AV (fun _ => Bool) (true) (fun _ _ _ => false)) m) (fun a l ih => fun m => (@List.rec AV (fun _ => Bool) (false) (fun b m _ => bf (eqV a b) (ih m) false)) m)) l
def rdOk (o : Option AO) : List CV → Bool := (@Option.rec AO (fun _ => List CV → Bool) (fun _ => false) (fun o => (@AO.rec (fun _ => List CV → Bool) (fun m s => fun l => eqCs m l) (fun m => fun l => eqCs m l) (fun _ _ => fun _ => false) (fun _ => fun _ => false) (fun _ => fun _ => false) (fun _ => fun _ => false)) o)) o
def footOk (l : List (Nat × List CV)) : H → Bool := (@List.rec (Nat × List CV) (fun _ => H → Bool) (fun _ => true) (fun p _ ih => fun h => bf (rdOk (hget h p.1) p.2) (ih h) false)) l
def resS (s : SmR) : H → (AV → H → Option R) → Option R := (@SmR.rec (fun _ => H → (AV → H → Option R) → Option R) (fun v => fun h K => K (.c v) h) (fun l len cap sz => fun h K => hnew h (.cells l none) fun n h => K (.c (.sl n 0 len cap sz false)) h)) s
/-- what is known of wider bounds serves -/
def fitL (l : List (Int × Int × Int)) : List (Int × Int × Int) → Bool := (@List.rec (Int × Int × Int) (fun _ => List (Int × Int × Int) → Bool) (fun m => no0 m) (fun t _ ih => fun m => (@List.rec (Int × Int × Int) (fun _ => Bool) (false) (fun u m _ => bf (bf (eqI t.1 u.1) (bf (ltI u.2.1 t.2.1) false (bf (ltI t.2.2 u.2.2) false true)) false) (ih m) false)) m)) l
def fitC (x y : CV) : Bool := ((@CV.rec (fun _ => CV → CV → Bool) (fun _ => fun x y => eqC x y) (fun _ _ => fun x y => eqC x y) (fun k c l => fun _ y => (@CV.rec (fun _ => Bool) (fun _ => false) (fun _ _ => false) (fun k' d m => bf (bf (sameI k k') (eqI c d) false) (fitL l m) false) (fun _ => false) (false) (fun _ _ => false) (false) (false) (fun _ _ _ _ _ _ => false) (false) (fun _ => false) (false) (fun _ _ => false) (fun _ => false)) y) (fun _ => fun x y => eqC x y) (fun x y => eqC x y) (fun _ _ => fun x y => eqC x y) (fun x y => eqC x y) (fun x y => eqC x y) (fun _ _ _ _ _ _ => fun x y => eqC x y) (fun x y => eqC x y) (fun _ => fun x y => eqC x y) (fun x y => eqC x y) (fun _ _ => fun x y => eqC x y) (fun _ => fun x y => eqC x y)) x) x y
def fitCs (l : List CV) : List CV → Bool := (@List.rec CV (fun _ => List CV → Bool) (fun m => (@List.rec CV (fun _ => Bool) (true) (fun _ _ _ => false)) m) (fun a l ih => fun m => (@List.rec CV (fun _ => Bool) (false) (fun b m _ => bf (fitC a b) (ih m) false)) m)) l
def fitV (x y : AV) : Bool := ((@AV.rec (fun _ => AV → AV → Bool) (fun x y => eqV x y) (fun x => fun _ y => (@AV.rec (fun _ => Bool) (false) (fun y => fitC x y) (fun _ => false) (fun _ => false)) y) (fun l => fun _ y => (@AV.rec (fun _ => Bool) (false) (fun _ => false) (fun m => fitCs l m) (fun _ => false)) y) (fun _ => fun x y => eqV x y)) x) x y
def fitVs (l : List AV) : List AV → Bool := (@List.rec AV (fun _ => List AV → Bool) (fun m => (@List.rec AV (fun _ => Bool) (true) (fun _ _ _ => false)) m) (fun a l ih => fun m => (@List.rec AV (fun _ => Bool) (false) (fun b m _ => bf (fitV a b) (ih m) false)) m)) l
/-- a call that is known -/
def sumK (l : List Sm) : List AV → H → (AV → H → Option R) → Option R → Option R :=
  (@List.rec Sm (fun _ => List AV → H → (AV → H → Option R) → Option R → Option R) (fun _ _ _ X => X) (fun s _ ih => fun args h K X => bf (bf (fitVs s.args args) (footOk s.foot h) false) (resS s.res h K) (ih args h K X))) l
def sumsK (E : Env) (f : FuncId) : List AV → H → (AV → H → Option R) → Option R → Option R := (@Option.rec (List Sm) (fun _ => List AV → H → (AV → H → Option R) → Option R → Option R) (fun _ _ _ X => X) (fun l => sumK l)) (T.get E.sm f)
def callA (E : Env) (rec : Rec R) (a : Ask) (h : H) (K : AV → H → Option R) : Option R :=
  ((@Ask.rec (fun _ => Env → Rec R → H → (AV → H → Option R) → Option R) (fun f args => fun E rec h K => sumsK E f args h K (ob (T.get E.fs f) fun fn => ob fn.body fun c => bf (Nat.ble (lenN args) fn.ntmps) (argsT args 0 .nil fun t => rec f t [.code c] [] none h K) none)) (fun l args => fun E rec h K => ob (hget h l) fun o => withLoop o fun r => ((@LoopR.rec (fun _ => Env → Nat → List AV → Rec R → H → (AV → H → Option R) → Option R) (fun _ _ f tm ps a b _ nt => fun E l args rec h K => ob (T.get E.fs f) fun fn => bf (Nat.ble fn.ntmps nt) (paramsT ps args tm fun t => rec f t [.code a, .beginRound, .code b] [] (some l) h K) none)) r) E l args rec h K)) a) E rec h K
/-- what a frame is: function, temporaries, what is left to do, marks, the round's loop -/
abbrev Fr (R : Type) := Env → Rec R → FuncId → TM → List Item → List Nat → Option Nat → H → (AV → H → Option R) → Option R
def leaveRet : Fr R := fun E _ f tm _ ds ro h K => ((@Option.rec Nat (fun _ => Env → FuncId → TM → List Nat → H → (AV → H → Option R) → Option R) (doneK) (fun l => fun _ _ _ _ h K => roundK l h (some .ret) K)) ro) E f tm ds h K
def leaveEnd : Fr R := fun E _ f tm _ ds ro h K => ((@Option.rec Nat (fun _ => Env → FuncId → TM → List Nat → H → (AV → H → Option R) → Option R) (doneK) (fun l => fun _ _ _ _ h K => roundK l h none K)) ro) E f tm ds h K
def leaveExit (id : Nat) : Fr R := fun E _ f tm _ ds ro h K => ob ro fun l => roundK l h (some (.exit id)) K
/-- behind a range over a function -/
def endLoopK (l : Nat) : Fr R := fun _ rec f tm k ds ro h K => ob (hget h l) fun o => withLoop o fun r =>
  ((@LoopR.rec (fun _ => Nat → Rec R → FuncId → TM → List Item → List Nat → Option Nat → H → (AV → H → Option R) → Option R) (fun st pend f' tm' ps a b d nt => fun l rec f tm k ds ro h K =>
    ((@LoopState.rec (fun _ => Option R → Option R) (fun x => x) (fun _ => none) (fun x => x) (fun x => x)) st) (hset h l (some (.loop (LoopR.mk .exhausted pend f' tm' ps a b d nt))) fun h =>
      ((@Option.rec Code (fun _ => Option R) (rec f tm k ds ro h K) (fun c => rec f tm (.code c :: k) ds ro h K)) pend)))) r) l rec f tm k ds ro h K
def rangeK (g : FuncId) (c : Nat) (ps : List Tmp) (assign body : Code) (nt d : Nat) : Fr R := fun E rec f tm k ds ro h K =>
  hnew h (.loop (LoopR.mk .ready none f tm ps assign body d nt)) fun l h => capsK h c [.c (.yl l)] fun args => callA E rec (.enter g args) h fun _ h => endLoopK l E rec f tm k ds ro h K
def withFn (x : CV) : (FuncId → Nat → Option R) → Option R := (@CV.rec (fun _ => (FuncId → Nat → Option R) → Option R) (fun _ => fun _ => none) (fun _ _ => fun _ => none) (fun _ _ _ => fun _ => none) (fun _ => fun _ => none) (fun _ => none) (fun _ _ => fun _ => none) (fun _ => none) (fun _ => none) (fun _ _ _ _ _ _ => fun _ => none) (fun _ => none) (fun _ => fun _ => none) (fun _ => none) (fun f c => fun K => K f c) (fun _ => fun _ => none)) x
def rangeFK (g : Operand) (ps : List Tmp) (assign body : Code) : Fr R := fun E rec f tm k ds ro h K =>
  ob (T.get E.fs f) fun fn => bf (allN ps fun p => Nat.blt p fn.ntmps) (evC tm g fun g => withFn g fun g c => ((@Option.rec Nat (fun _ => Option R) (hnew h (.dfr true) fun d h => rangeK g c ps assign body fn.ntmps d E rec f tm k (d :: ds) none h K) (fun l => ob (hget h l) fun o => withLoop o fun r => rangeK g c ps assign body fn.ntmps r.dfr E rec f tm k ds (some l) h K)) ro)) none
def exitK (id : Nat) : Fr R := fun E rec f tm k ds ro h K => ((@Option.rec (List Item) (fun _ => Fr R) (leaveExit id) (fun k' => fun E rec f tm _ ds ro h K => rec f tm k' ds ro h K)) (exitTo id k)) E rec f tm k ds ro h K
def codeK (c : Code) : Fr R :=
  (@Code.rec (fun _ => Fr R) (fun _ rec f tm k ds ro h K => rec f tm k ds ro h K) (fun id ops dr => fun E rec f tm k ds ro h K => ob (T.get E.fs f) fun fn => bf (dstsOk fn.ntmps ops.toList) (((@Bool.rec (fun _ => Env → Caller R → Nat → Nat → List Oper → TM → H → (TM → H → Option R) → Option R) (fun E call _ _ ops tm h K => regK E call ops ops tm h K) (regDK)) dr) E (callA E rec) f id ops.toList tm h fun tm h => pruneK E f id tm fun tm => rec f tm k ds ro h K) none) (fun a b _ _ => fun _ rec f tm k ds ro h K => rec f tm (.code a :: .code b :: k) ds ro h K) (fun c t e _ _ => fun _ rec f tm k ds ro h K => evC tm c fun c => withB c fun c => rec f tm (.code (bf c t e) :: k) ds ro h K) (fun id c _ => fun _ rec f tm k ds ro h K => rec f tm (.code c :: .inBlock id :: k) ds ro h K) (fun c _ => fun _ rec f tm k ds ro h K => rec f tm (.code c :: .inLoop c :: k) ds ro h K) (fun g ps assign body _ _ => rangeFK g ps.toList assign body) (fun id => exitK id) (fun _ _ => fun _ _ _ _ _ _ _ _ _ => none) (fun _ => fun _ _ _ _ _ _ _ _ _ => none) (fun _ => fun _ _ _ _ _ _ _ _ _ => none) (leaveRet) (fun _ => fun _ _ _ _ _ _ _ _ _ => none)) c
def beginK : Fr R := fun _ rec f tm k ds ro h K => ob ro fun l => ob (hget h l) fun o => withLoop o fun r =>
  ((@LoopR.rec (fun _ => Nat → Rec R → FuncId → TM → List Item → List Nat → Option Nat → H → (AV → H → Option R) → Option R) (fun st pend f' tm' ps a b d nt => fun l rec f tm k ds ro h K =>
    ((@LoopState.rec (fun _ => Option R → Option R) (fun x => x) (fun _ => none) (fun _ => none) (fun _ => none)) st) (hset h l (some (.loop (LoopR.mk .busy pend f' tm' ps a b d nt))) fun h => rec f tm k ds ro h K))) r) l rec f tm k ds ro h K
def itemK (i : Item) : Fr R :=
  (@Item.rec (fun _ => Fr R) (fun c => codeK c) (fun _ => fun _ rec f tm k ds ro h K => rec f tm k ds ro h K) (fun c => fun _ rec f tm k ds ro h K => rec f tm (.code c :: .inLoop c :: k) ds ro h K) (fun _ => fun _ _ _ _ _ _ _ _ _ => none) (fun _ _ => fun _ _ _ _ _ _ _ _ _ => none) (fun _ => fun _ _ _ _ _ _ _ _ _ => none) (fun _ => fun _ _ _ _ _ _ _ _ _ => none) (beginK) (fun _ _ _ _ => fun _ _ _ _ _ _ _ _ _ => none) (fun _ _ => fun _ _ _ _ _ _ _ _ _ => none)) i
def stepK (E : Env) (rec : Rec R) (f : FuncId) (tm : TM) (todo : List Item) (ds : List Nat) (ro : Option Nat) (h : H) (K : AV → H → Option R) : Option R :=
  ((@List.rec Item (fun _ => Fr R) (leaveEnd) (fun i k _ => fun E rec f tm _ ds ro h K => itemK i E rec f tm k ds ro h K)) todo) E rec f tm todo ds ro h K
def run (E : Env) (n : Nat) : Rec R := (@Nat.rec (fun _ => Rec R) (fun _ _ _ _ _ _ _ => none) (fun _ ih => stepK E ih)) n
/-- a call of f -/
def callK (E : Env) (n : Nat) (f : FuncId) (args : List AV) (h : H) (K : AV → H → Option R) : Option R := callA E (run E n) (.enter f args) h K
end
end
end Go.Ev
