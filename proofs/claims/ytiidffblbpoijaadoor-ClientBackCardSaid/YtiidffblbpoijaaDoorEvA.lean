/-
  The evaluator: a program that runs the program's own code on values, and the proof that where it says yes the call goes as it says; part A of 5.
-/
import Derived.Calls
import Derived.KernelRfl
import Derived.Below
import Derived.Laws.Cells
import Derived.Laws.Rows
namespace Go.Ek
set_option linter.unusedVariables false
set_option linter.unusedSimpArgs false
abbrev R := Bool
/-- A closure in a box: the kernel keeps what a closed box comes to. -/
structure Bx (α : Type) where
  run : α

/-! ### Frames: trees by the slot's digits -/
inductive Fr where
  | lf
  | nd (v : Value) (l r : Fr)
def Fr.get : List Bool → Bx (Fr → (Value → R) → R)
  | [] => ⟨fun fr k => Fr.casesOn fr (k undef) fun v _ _ => k v⟩
  | true :: p => ⟨fun fr k => Fr.casesOn fr (k undef) fun _ l _ => (Fr.get p).run l k⟩
  | false :: p => ⟨fun fr k => Fr.casesOn fr (k undef) fun _ _ r => (Fr.get p).run r k⟩
def Fr.set : List Bool → Bx (Value → Fr → (Fr → R) → R)
  | [] => ⟨fun v fr k => Fr.casesOn fr (k (.nd v .lf .lf)) fun _ l r => k (.nd v l r)⟩
  | true :: p => ⟨fun v fr k => Fr.casesOn fr ((Fr.set p).run v .lf fun l => k (.nd undef l .lf)) fun x l r => (Fr.set p).run v l fun l => k (.nd x l r)⟩
  | false :: p => ⟨fun v fr k => Fr.casesOn fr ((Fr.set p).run v .lf fun r => k (.nd undef .lf r)) fun x l r => (Fr.set p).run v r fun r => k (.nd x l r)⟩
def pathGo : Nat → Nat → List Bool
  | 0, _ => []
  | f + 1, n => cond (Nat.beq n 1) [] (Nat.beq (Nat.mod n 2) 0 :: pathGo f (Nat.div n 2))
def path (t : Nat) : List Bool := pathGo 14 (Nat.succ t)

/-! ### Lists -/
noncomputable def nthK {α : Type} (l : List α) (n : Nat) (k : α → R) : R :=
  List.rec (motive := fun _ => Nat → R) (fun _ => false) (fun x _ ih n => Nat.rec (motive := fun _ => R) (k x) (fun m _ => ih m) n) l n
noncomputable def dropK {α : Type} (l : List α) (n : Nat) (k : List α → R) : R :=
  List.rec (motive := fun _ => Nat → R) (fun n => Nat.rec (motive := fun _ => R) (k []) (fun _ _ => false) n) (fun x t ih n => Nat.rec (motive := fun _ => R) (k (x :: t)) (fun m _ => ih m) n) l n
noncomputable def takeK {α : Type} (l : List α) (n : Nat) (k : List α → R) : R :=
  List.rec (motive := fun _ => Nat → (List α → R) → R) (fun n k => Nat.rec (motive := fun _ => R) (k []) (fun _ _ => false) n) (fun x _ ih n k => Nat.rec (motive := fun _ => R) (k []) (fun m _ => ih m fun r => k (x :: r)) n) l n k
noncomputable def appK {α : Type} (a b : List α) (k : List α → R) : R :=
  List.rec (motive := fun _ => (List α → R) → R) (fun k => k b) (fun x _ ih k => ih fun r => k (x :: r)) a k
noncomputable def setK {α : Type} (l : List α) (n : Nat) (vs : List α) (k : List α → R) : R :=
  List.rec (motive := fun _ => Nat → List α → (List α → R) → R) (fun _ vs k => List.casesOn vs (k []) fun _ _ => false)
    (fun x t ih n vs k => Nat.rec (motive := fun _ => R) (List.casesOn vs (k (x :: t)) fun v vs => ih 0 vs fun r => k (v :: r)) (fun m _ => ih m vs fun r => k (x :: r)) n) l n vs k
noncomputable def lenK {α : Type} (l : List α) (k : Nat → R) : R :=
  List.rec (motive := fun _ => Nat → R) (fun n => k n) (fun _ _ ih n => ih (Nat.succ n)) l 0
noncomputable def natK (n : Nat) (k : Nat → R) : R := Nat.rec (motive := fun _ => R) (k 0) (fun m _ => k (Nat.succ m)) n
noncomputable def mapK {α β : Type} (f : α → β) (l : List α) (k : List β → R) : R :=
  List.rec (motive := fun _ => (List β → R) → R) (fun k => k []) (fun x _ ih k => ih fun r => k (f x :: r)) l k
noncomputable def repK {α : Type} (l : List α) (n : Nat) (k : List α → R) : R :=
  Nat.rec (motive := fun _ => (List α → R) → R) (fun k => k []) (fun _ ih k => ih fun r => appK l r k) n k

/-! ### The heap -/
inductive AO where
  | cells (vs : List Value) (elem : TypeId) (lo hi : Nat)
  | map (es : List MapEntry) (clock : Nat)
  | iter (m : Option Nat) (since : Nat) (seen : List Nat) (stepped : Nat)
  | siter (s : ByteArray) (pos : Nat)
  | ro (vs : List Value)
  | dead
inductive Tr where
  | lf
  | nd (v : Option AO) (l r : Tr)
noncomputable def Tr.getK (t : Tr) (n : Nat) (k : AO → R) : R :=
  Tr.rec (motive := fun _ => Nat → R) (fun _ => false) (fun v _ _ ihl ihr n => cond (Nat.beq n 1) (Option.casesOn v false k) (cond (Nat.beq (Nat.mod n 2) 1) (ihr (Nat.div n 2)) (ihl (Nat.div n 2)))) t n
noncomputable def Tr.setK (f n : Nat) (x : AO) (t : Tr) (k : Tr → R) : R :=
  Nat.rec (motive := fun _ => Nat → Tr → (Tr → R) → R) (fun _ _ _ => false) (fun _ ih n t k => Tr.casesOn t
    (cond (Nat.beq n 1) (k (.nd (some x) .lf .lf)) (cond (Nat.beq (Nat.mod n 2) 1) (ih (Nat.div n 2) .lf fun r => k (.nd none .lf r)) (ih (Nat.div n 2) .lf fun l => k (.nd none l .lf))))
    (fun v l r => cond (Nat.beq n 1) (k (.nd (some x) l r)) (cond (Nat.beq (Nat.mod n 2) 1) (ih (Nat.div n 2) r fun r => k (.nd v l r)) (ih (Nat.div n 2) l fun l => k (.nd v l r))))) f n t k
structure AW where
  h : Tr
  nx : Nat
noncomputable def AW.get (w : AW) (n : Nat) (k : AO → R) : R := w.h.getK (Nat.succ n) k
noncomputable def AW.put (w : AW) (n : Nat) (o : AO) (k : AW → R) : R := Tr.setK 48 (Nat.succ n) o w.h fun h => k ⟨h, w.nx⟩
noncomputable def AW.new (w : AW) (o : AO) (k : Nat → AW → R) : R := natK w.nx fun n => Tr.setK 48 (Nat.succ n) o w.h fun h => k n ⟨h, Nat.succ n⟩
noncomputable def getCells (w : AW) (b : Nat) (k : List Value → R) : R :=
  w.get b fun o => match o with | .cells vs _ _ _ => k vs | .ro vs => k vs | _ => false
noncomputable def loadN (w : AW) (a : Addr) (n : Nat) (k : List Value → R) : R :=
  getCells w a.block fun vs => dropK vs a.off fun l => takeK l n k
noncomputable def load1 (w : AW) (a : Addr) (k : Value → R) : R :=
  getCells w a.block fun vs => nthK vs a.off k
/-- values of one cell each -/
noncomputable def flatK (l : List Value) (k : R) : R :=
  List.rec (motive := fun _ => R) k (fun v _ ih => match v with | .agg _ => false | .tuple _ => false | _ => ih) l
noncomputable def storeN (w : AW) (a : Addr) (vs : List Value) (k : AW → R) : R :=
  List.casesOn vs (k w) fun v r => w.get a.block fun o => match o with
    | .cells cs t lo hi => cond (Nat.ble hi lo || (Nat.ble hi a.off || Nat.ble (Nat.add a.off (List.length (v :: r))) lo)) (flatK (v :: r) (setK cs a.off (v :: r) fun cs => w.put a.block (.cells cs t lo hi) k)) false
    | _ => false

/-! ### Values -/
def big : Nat := 4611686018427387904
def capLow (c : Nat) : Nat := cond (Nat.ble big c) (Nat.sub c big) c
def inexact (c : Nat) : Bool := Nat.ble big c
def cellsL : Value → List Value
  | .agg cs => cs.toList
  | v => [v]
def boolK (v : Value) (k : Bool → R) : R := match v with | .bool b => k b | .float .f32 0 => k true && k false | _ => false
def intK (v : Value) (k : Int → R) : R := match v with | .int _ n => k n | _ => false
noncomputable def idxK (v : Value) (k : Nat → R) : R := match v with | .int _ n => (match n with | .ofNat m => natK m k | .negSucc _ => false) | _ => false
def ptrK (v : Value) (k : Addr → R) : R := match v with | .pointer a => (match a with | some a => k a | none => false) | _ => false
def lim : IntKind → Nat
  | .i64 => 9223372036854775808 | .u64 => 18446744073709551616 | .u8 => 256 | .u32 => 4294967296 | .i32 => 2147483648 | .u16 => 65536 | .i16 => 32768 | .i8 => 128
noncomputable def wrapK (k : IntKind) (n : Int) (c : Value → R) : R :=
  match n with
  | .ofNat m => natK m fun m => cond (Nat.blt m (lim k)) (c (.int k (.ofNat m))) (c (.int k (k.wrap (.ofNat m))))
  | .negSucc m => natK m fun m => cond (k.signed && Nat.blt m (lim k)) (c (.int k (.negSucc m))) (c (.int k (k.wrap (.negSucc m))))
def ltI : Int → Int → Bool
  | .ofNat a, .ofNat b => Nat.blt a b
  | .ofNat _, .negSucc _ => false
  | .negSucc _, .ofNat _ => true
  | .negSucc a, .negSucc b => Nat.blt b a
def eqI : Int → Int → Bool
  | .ofNat a, .ofNat b => Nat.beq a b
  | .negSucc a, .negSucc b => Nat.beq a b
  | _, _ => false
def kidx : IntKind → Nat
  | .i8 => 0 | .i16 => 1 | .i32 => 2 | .i64 => 3 | .u8 => 4 | .u16 => 5 | .u32 => 6 | .u64 => 7
/-- some number of a kind, some bool, some text -/
def anyI (k : IntKind) : Value := .float .f64 (kidx k)
def anyB : Value := .float .f32 0
def anyS : Value := .float .f32 1
def kOf : Nat → Option IntKind
  | 0 => some .i8 | 1 => some .i16 | 2 => some .i32 | 3 => some .i64 | 4 => some .u8 | 5 => some .u16 | 6 => some .u32 | 7 => some .u64 | _ => none
/-- an operation on numbers that are not known -/
def anyOp (op : BinOp) (j : IntKind) (k : Value → R) : R := match op with
  | .add => k (anyI j) | .sub => k (anyI j) | .mul => k (anyI j)
  | .lss => k anyB | .leq => k anyB | .gtr => k anyB | .geq => k anyB
  | _ => false
def bothK (k : Bool → R) : R := k true && k false
/-- numbers of the kind int of which a bound is known: .complex .f32 0 m: below m; .complex .f32 1 m: m or more; .complex .f32 (lo + 2) hi: within lo..hi -/
def leI (a b : Int) : Bool := not (ltI b a)
def flipB : BinOp → BinOp
  | .lss => .gtr | .gtr => .lss | .leq => .geq | .geq => .leq | op => op
def ltOp (op : BinOp) (m : Nat) (c : Int) (k : Value → R) : R := match op with
  | .lss => cond (leI (.ofNat m) c) (k (.bool true)) (k anyB)
  | .leq => cond (leI (.ofNat m) (Int.add c 1)) (k (.bool true)) (k anyB)
  | .gtr => cond (leI (.ofNat m) (Int.add c 1)) (k (.bool false)) (k anyB)
  | .geq => cond (leI (.ofNat m) c) (k (.bool false)) (k anyB)
  | _ => false
def geOp (op : BinOp) (m : Nat) (c : Int) (k : Value → R) : R := match op with
  | .lss => cond (leI c (.ofNat m)) (k (.bool false)) (k anyB)
  | .leq => cond (ltI c (.ofNat m)) (k (.bool false)) (k anyB)
  | .gtr => cond (ltI c (.ofNat m)) (k (.bool true)) (k anyB)
  | .geq => cond (leI c (.ofNat m)) (k (.bool true)) (k anyB)
  | _ => false
def inOp (op : BinOp) (lo hi : Nat) (c : Int) (k : Value → R) : R := match op with
  | .lss => cond (ltI (.ofNat hi) c) (k (.bool true)) (cond (leI c (.ofNat lo)) (k (.bool false)) (k anyB))
  | .leq => cond (leI (.ofNat hi) c) (k (.bool true)) (cond (ltI c (.ofNat lo)) (k (.bool false)) (k anyB))
  | .gtr => cond (ltI c (.ofNat lo)) (k (.bool true)) (cond (leI (.ofNat hi) c) (k (.bool false)) (k anyB))
  | .geq => cond (leI c (.ofNat lo)) (k (.bool true)) (cond (ltI (.ofNat hi) c) (k (.bool false)) (k anyB))
  | _ => false
def bndOp (op : BinOp) (b m : Nat) (c : Int) (k : Value → R) : R := cond (Nat.beq b 0) (ltOp op m c k) (cond (Nat.beq b 1) (geOp op m c k) (inOp op (Nat.sub b 2) m c k))
def bndEq (b m : Nat) (c : Int) (k : Bool → R) : R := cond (Nat.beq b 0) (cond (leI (.ofNat m) c) (k false) (bothK k)) (cond (Nat.beq b 1) (cond (ltI c (.ofNat m)) (k false) (bothK k)) (cond (ltI c (.ofNat (Nat.sub b 2)) || ltI (.ofNat m) c) (k false) (bothK k)))
def notM (op : UnOp) (v : Value) (k : Value → R) : R := match op, v with
  | .not, .float .f32 0 => k anyB
  | _, _ => false
/-- a constant without an address -/
def plain1 : Value → Bool
  | .bool _ | .int _ _ | .string _ | .pointer none | .slice none 0 0 | .map none | .nilFunc | .nilIface => true
  | _ => false
def plain : Value → Bool
  | .agg cs => cs.toList.all plain1
  | .tuple cs => cs.toList.all plain1
  | v => plain1 v
def runPure (P : Program) {α : Type} : Sem α → (α → R) → R
  | .pure a, k => k a
  | .program f, k => runPure P (f P) k
  | _, _ => false
noncomputable def pureK (P : Program) (s : Sem Value) (k : Value → R) : R := runPure P s fun v => cond (plain1 v) (k v) false
noncomputable def bitsFast (f : Nat → Nat → Nat) (k : IntKind) (x y : Int) (slow : Unit → R) (c : Value → R) : R :=
  match x, y with
  | .ofNat a, .ofNat b => cond (Nat.blt a (lim k) && Nat.blt b (lim k)) (natK (f a b) fun m => c (.int k (.ofNat m))) (slow ())
  | _, _ => slow ()
noncomputable def intBin (P : Program) (op : BinOp) : Bx (IntKind → Int → Int → (Value → R) → R) :=
  match op with
  | .add => ⟨fun k x y c => wrapK k (Int.add x y) c⟩
  | .sub => ⟨fun k x y c => wrapK k (Int.sub x y) c⟩
  | .mul => ⟨fun k x y c => wrapK k (Int.mul x y) c⟩
  | .eql => ⟨fun _ x y c => c (.bool (eqI x y))⟩
  | .neq => ⟨fun _ x y c => c (.bool (not (eqI x y)))⟩
  | .lss => ⟨fun _ x y c => c (.bool (ltI x y))⟩
  | .leq => ⟨fun _ x y c => c (.bool (not (ltI y x)))⟩
  | .gtr => ⟨fun _ x y c => c (.bool (ltI y x))⟩
  | .geq => ⟨fun _ x y c => c (.bool (not (ltI x y)))⟩
  | .and => ⟨fun k x y c => bitsFast Nat.land k x y (fun _ => pureK P (Op.intBits .and k x y) c) c⟩
  | .or => ⟨fun k x y c => bitsFast Nat.lor k x y (fun _ => pureK P (Op.intBits .or k x y) c) c⟩
  | .xor => ⟨fun k x y c => bitsFast Nat.xor k x y (fun _ => pureK P (Op.intBits .xor k x y) c) c⟩
  | .quo => ⟨fun k x y c => match x, y with
    | .ofNat a, .ofNat (.succ b) => cond (Nat.blt a (lim k)) (natK (Nat.div a (Nat.succ b)) fun m => c (.int k (.ofNat m))) (pureK P (Op.intDiv .quo k (.ofNat a) (.ofNat (.succ b))) c)
    | x, y => pureK P (Op.intDiv .quo k x y) c⟩
  | .rem => ⟨fun k x y c => match x, y with
    | .ofNat a, .ofNat (.succ b) => natK (Nat.mod a (Nat.succ b)) fun m => c (.int k (.ofNat m))
    | _, _ => pureK P (Op.intDiv .rem k x y) c⟩
  | op => ⟨fun k x y c => pureK P (Op.intBits op k x y) c⟩
noncomputable def shiftK (P : Program) (op : BinOp) : Bx (IntKind → IntKind → Int → Int → (Value → R) → R) :=
  match op with
  | .shl => ⟨fun k yk x y c => match x, y with
    | .ofNat a, .ofNat n => cond (Nat.ble n k.bits) (wrapK k (.ofNat (Nat.shiftLeft a n)) c) (pureK P (Op.shift .shl k x yk y) c)
    | _, _ => pureK P (Op.shift .shl k x yk y) c⟩
  | op => ⟨fun k yk x y c => match x, y with
    | .ofNat a, .ofNat n => cond (Nat.ble n k.bits) (natK (Nat.shiftRight a n) fun m => c (.int k (.ofNat m))) (pureK P (Op.shift .shr k x yk y) c)
    | _, _ => pureK P (Op.shift .shr k x yk y) c⟩
noncomputable def beqL (a b : List UInt8) (k : Bool → R) : R :=
  List.rec (motive := fun _ => List UInt8 → R) (fun b => List.casesOn b (k true) fun _ _ => k false)
    (fun x _ ih b => List.casesOn b (k false) fun y t => cond (Nat.beq x.toNat y.toNat) (ih t) (k false)) a b
/-- the zero value of a type, a plain one -/
def zeroB (P : Program) (t : TypeId) : Option Value := match (P.info? t).bind (·.zero) with | some z => cond (plain z) (some z) none | none => none
def szB (P : Program) (e : TypeId) : Option Nat := match P.underlying e with | some _ => some (P.cellsOf e) | none => none
/-- a block of variables, none of them shared with a string -/
noncomputable def live (w : AW) (b : Nat) (k : R) : R := w.get b fun o => match o with | .cells _ _ lo hi => cond (Nat.ble hi lo) k false | _ => false
noncomputable def ptrEq (w : AW) (x y : Value) (k : Bool → R) : R :=
  match x with
  | .pointer none => (match y with | .pointer none => k true | .pointer (some _) => k false | _ => false)
  | .pointer (some a) => (match y with
    | .pointer none => k false
    | .pointer (some b) => live w a.block (live w b.block (k (Nat.beq a.block b.block && Nat.beq a.off b.off)))
    | _ => false)
  | _ => false
def sliceEq (x y : Value) (k : Bool → R) : R :=
  match x with
  | .slice none _ _ => (match y with | .slice none _ _ => k true | .slice (some _) _ _ => k false | _ => false)
  | .slice (some _) _ _ => (match y with | .slice none _ _ => k false | _ => false)
  | _ => false
def mapEq (x y : Value) (k : Bool → R) : R :=
  match x with
  | .map none => (match y with | .map none => k true | .map (some _) => k false | _ => false)
  | .map (some _) => (match y with | .map none => k false | _ => false)
  | _ => false
def funcEq (x y : Value) (k : Bool → R) : R :=
  match x with
  | .nilFunc => (match y with | .nilFunc => k true | .func _ _ _ => k false | _ => false)
  | .func _ _ _ => (match y with | .nilFunc => k false | _ => false)
  | _ => false
def isConst : Operand → Bool
  | .const _ => true
  | _ => false
noncomputable def intEq (x y : Value) (k : Bool → R) : R :=
  match x with
  | .int i a => (match y with | .int j b => cond (Nat.beq (kidx i) (kidx j)) (k (eqI a b)) false | _ => false)
  | _ => false
noncomputable def strEq (x y : Value) (k : Bool → R) : R :=
  match x with
  | .string a => (match y with | .string b => beqL a.data.toList b.data.toList k | _ => false)
  | _ => false
noncomputable def ifaceEq (P : Program) (cst : Bool) (x y : Value) (k : Bool → R) : R :=
  match x with
  | .nilIface => (match y with | .nilIface => cond cst (k true) false | .iface _ _ => k false | _ => false)
  | .iface t u => (match y with
    | .nilIface => k false
    | .iface s v => cond (Nat.beq t s) (match P.info? t with
      | some i => cond i.comparable (match P.underlying t with | some (.int _) => intEq u v k | some .string => strEq u v k | _ => false) false
      | none => false) (k false)
    | _ => false)
  | _ => false
def boolEq (x y : Value) (k : Bool → R) : R :=
  match x with
  | .bool a => (match y with | .bool b => k (cond a b (not b)) | _ => false)
  | _ => false
/-- .. of values that may not be known -/
noncomputable def intEqM (x y : Value) (k : Bool → R) : R :=
  match x with
  | .int i a => (match y with
    | .int j b => cond (Nat.beq (kidx i) (kidx j)) (k (eqI a b)) false
    | .float .f64 j => cond (Nat.beq (kidx i) j) (bothK k) false
    | .complex .f32 b m => cond (Nat.beq (kidx i) 3) (bndEq b m a k) false
    | _ => false)
  | .complex .f32 b m => (match y with
    | .int j c => cond (Nat.beq (kidx j) 3) (bndEq b m c k) false
    | _ => false)
  | .float .f64 i => (match y with
    | .int j _ => cond (Nat.beq i (kidx j)) (bothK k) false
    | .float .f64 j => cond (Nat.beq i j) (bothK k) false
    | _ => false)
  | _ => false
noncomputable def strEqM (x y : Value) (k : Bool → R) : R :=
  match x with
  | .string a => (match y with
    | .string b => beqL a.data.toList b.data.toList k
    | .float .f32 1 => bothK k
    | _ => false)
  | .float .f32 1 => (match y with
    | .string _ => bothK k
    | .float .f32 1 => bothK k
    | _ => false)
  | _ => false
noncomputable def boolEqM (x y : Value) (k : Bool → R) : R :=
  match x with
  | .bool a => (match y with
    | .bool b => k (cond a b (not b))
    | .float .f32 0 => bothK k
    | _ => false)
  | .float .f32 0 => (match y with
    | .bool _ => bothK k
    | .float .f32 0 => bothK k
    | _ => false)
  | _ => false
def aggB (P : Program) (e : TypeId) : Option (Bool × Nat) := match P.underlying e with
  | some (.struct _) => some (true, P.cellsOf e)
  | some (.array _ _) => some (true, P.cellsOf e)
  | some _ => some (false, P.cellsOf e)
  | none => none
abbrev EqL := Bx (List Value → List Value → (Bool → R) → R)
def noEq : EqL := ⟨fun _ _ _ => false⟩
/-- structs, field by field -/
noncomputable def fldEq (P : Program) (sub : TypeId → EqL) : List Field → EqL
  | [] => ⟨fun _ _ k => k true⟩
  | x :: r => cond (x.name == "_") noEq (match aggB P x.type with
    | some (true, n) => ⟨fun xs ys k => dropK xs x.offset fun a => takeK a n fun a => dropK ys x.offset fun b => takeK b n fun b => (sub x.type).run a b fun e => cond e ((fldEq P sub r).run xs ys k) (k false)⟩
    | some (false, _) => (match P.underlying x.type with
      | some (.int _) => ⟨fun xs ys k => nthK xs x.offset fun a => nthK ys x.offset fun b => intEqM a b fun e => cond e ((fldEq P sub r).run xs ys k) (k false)⟩
      | some .string => ⟨fun xs ys k => nthK xs x.offset fun a => nthK ys x.offset fun b => strEqM a b fun e => cond e ((fldEq P sub r).run xs ys k) (k false)⟩
      | some .bool => ⟨fun xs ys k => nthK xs x.offset fun a => nthK ys x.offset fun b => boolEqM a b fun e => cond e ((fldEq P sub r).run xs ys k) (k false)⟩
      | _ => noEq)
    | none => noEq)
noncomputable def stEq (P : Program) : Nat → TypeId → EqL
  | 0, _ => noEq
  | f + 1, t => match P.underlying t with
    | some (.struct fs) => cond (P.stoodInHeld t) noEq (fldEq P (stEq P f) fs.toList)
    | _ => noEq
noncomputable def aggEq (eq : EqL) (x y : Value) (k : Bool → R) : R :=
  match x with
  | .agg a => (match y with | .agg b => eq.run a.toList b.toList k | _ => false)
  | _ => false
noncomputable def eqB (P : Program) (t : TypeId) (cst : Bool) : Bx (AW → Value → Value → (Bool → R) → R) :=
  match P.underlying t with
  | some (.int _) => ⟨fun _ x y k => intEqM x y k⟩
  | some .string => ⟨fun _ x y k => strEqM x y k⟩
  | some .bool => ⟨fun _ x y k => boolEqM x y k⟩
  | some (.pointer e) => (match szB P e with | some i => cond (Nat.beq i 0) ⟨fun _ _ _ _ => false⟩ ⟨fun w x y k => ptrEq w x y k⟩ | none => ⟨fun _ _ _ _ => false⟩)
  | some (.slice _) => ⟨fun _ x y k => sliceEq x y k⟩
  | some (.map _ _) => ⟨fun _ x y k => mapEq x y k⟩
  | some (.func _ _ _) => ⟨fun _ x y k => funcEq x y k⟩
  | some (.interface _) => ⟨fun _ x y k => ifaceEq P cst x y k⟩
  | some (.struct _) => cond (P.eqGuardType P.depth t) ⟨fun _ _ _ _ => false⟩ ⟨fun _ x y k => aggEq (stEq P 8 t) x y k⟩
  | _ => ⟨fun _ _ _ _ => false⟩
noncomputable def strBin (op : BinOp) : Bx (ByteArray → ByteArray → (Value → R) → R) :=
  match op with
  | .add => ⟨fun a b k => appK a.data.toList b.data.toList fun l => lenK l fun n => cond (Nat.ble n 1000000000) (k (.string ⟨⟨l⟩⟩)) false⟩
  | .lss => ⟨fun a b k => k (.bool (Op.bytesLess a.data.toList b.data.toList))⟩
  | .gtr => ⟨fun a b k => beqL a.data.toList b.data.toList fun e => k (.bool (not (Op.bytesLess a.data.toList b.data.toList || e)))⟩
  | .leq => ⟨fun a b k => beqL a.data.toList b.data.toList fun e => k (.bool (Op.bytesLess a.data.toList b.data.toList || e))⟩
  | .geq => ⟨fun a b k => k (.bool (not (Op.bytesLess a.data.toList b.data.toList)))⟩
  | _ => ⟨fun _ _ _ => false⟩
noncomputable def shiftV (P : Program) (op : BinOp) (x y : Value) (k : Value → R) : R :=
  match x with
  | .int j a => (match y with | .int i b => (shiftK P op).run j i a b k | _ => false)
  | _ => false
noncomputable def arithV (P : Program) (op : BinOp) (x y : Value) (k : Value → R) : R :=
  match x with
  | .int j a => (match y with
    | .int i b => cond (Nat.beq (kidx j) (kidx i)) ((intBin P op).run j a b k) false
    | .float .f64 i => cond (Nat.beq (kidx j) i) (anyOp op j k) false
    | .complex .f32 b m => cond (Nat.beq (kidx j) 3) (bndOp (flipB op) b m a k) false
    | _ => false)
  | .complex .f32 b m => (match y with
    | .int j c => cond (Nat.beq (kidx j) 3) (bndOp op b m c k) false
    | _ => false)
  | .float .f64 j => (match y with
    | .int i _ => cond (Nat.beq j (kidx i)) (anyOp op i k) false
    | .float .f64 i => cond (Nat.beq j i) (match kOf j with | some q => anyOp op q k | none => false) false
    | _ => false)
  | .string a => (match y with | .string b => (strBin op).run a b k | _ => false)
  | .complex .f64 m r => (match op with
    | .rem => (match y with | .int .u8 (.ofNat n) => cond (Nat.beq m n && Nat.blt 0 n) (k (.int .u8 (.ofNat r))) false | _ => false)
    | _ => false)
  | _ => false
noncomputable def binK (P : Program) (op : BinOp) (t : TypeId) (cst : Bool) : Bx (AW → Value → Value → (Value → R) → R) :=
  match op with
  | .shl => ⟨fun _ x y k => shiftV P .shl x y k⟩
  | .shr => ⟨fun _ x y k => shiftV P .shr x y k⟩
  | .eql => ⟨fun w x y k => (eqB P t cst).run w x y fun e => k (.bool e)⟩
  | .neq => ⟨fun w x y k => (eqB P t cst).run w x y fun e => k (.bool (not e))⟩
  | op => ⟨fun _ x y k => arithV P op x y k⟩

/-! ### Operations -/
abbrev CallT := FuncId → List Value → AW → (Value → AW → R) → R
abbrev Opc := Bx (CallT → Fr → AW → (Value → AW → R) → R)
abbrev Get := Bx (Fr → (Value → R) → R)
def opd : Operand → Get
  | .tmp t => Fr.get (path t)
  | .const v => cond (plain v) ⟨fun _ k => k v⟩ ⟨fun _ _ => false⟩
  | .global g => cond (Nat.blt g 64) ⟨fun _ k => k (.pointer (some ⟨g, 0, none⟩))⟩ ⟨fun _ _ => false⟩
  | .func f => ⟨fun _ k => k (.func (.func f) #[] #[])⟩
def opds : List Operand → Bx (Fr → (List Value → R) → R)
  | [] => ⟨fun _ k => k []⟩
  | x :: r => ⟨fun fr k => (opd x).run fr fun v => (opds r).run fr fun vs => k (v :: vs)⟩
def opdO : Option Operand → Bx (Fr → (Option Value → R) → R)
  | none => ⟨fun _ k => k none⟩
  | some x => ⟨fun fr k => (opd x).run fr fun v => k (some v)⟩
def no : Opc := ⟨fun _ _ _ _ => false⟩
noncomputable def newVal (w : AW) (t : TypeId) (vs : List Value) (k : Value → AW → R) : R := w.new (.cells vs t 0 0) fun n w => k (.pointer (some ⟨n, 0, none⟩)) w
noncomputable def loadAgg (n : Nat) (x : Value) (w : AW) (k : Value → AW → R) : R := ptrK x fun a => loadN w a n fun l => k (.agg ⟨l⟩) w
noncomputable def loadOne (x : Value) (w : AW) (k : Value → AW → R) : R := ptrK x fun a => load1 w a fun v => k v w
noncomputable def storeC (n : Nat) (x v : Value) (w : AW) (k : Value → AW → R) : R :=
  ptrK x fun a => lenK (cellsL v) fun m => cond (Nat.beq m n) (storeN w a (cellsL v) fun w => k undef w) false
/-- parts into cells: (offset, size, value) -/
noncomputable def fillK : List (Nat × Nat × Operand) → Bx (Fr → List Value → (List Value → R) → R)
  | [] => ⟨fun _ cs k => k cs⟩
  | p :: r => ⟨fun fr cs k => (opd p.2.2).run fr fun v => lenK (cellsL v) fun m => cond (Nat.beq m p.2.1) (setK cs p.1 (cellsL v) fun cs => (fillK r).run fr cs k) false⟩
def placed (place : Nat → Option (Nat × Nat)) : List (Nat × Operand) → Option (List (Nat × Nat × Operand))
  | [] => some []
  | (i, x) :: r => match place i, placed place r with
    | some (o, n), some l => cond (Nat.beq n 0) none (some ((o, n, x) :: l))
    | _, _ => none
/-- where a struct's fields lie -/
def placesB (P : Program) : List Field → Option (List (Nat × Nat))
  | [] => some []
  | f :: r => match szB P f.type, placesB P r with
    | some n, some l => some ((f.offset, n) :: l)
    | _, _ => none
def nth' {α : Type} : List α → Nat → Option α
  | [], _ => none
  | x :: _, 0 => some x
  | _ :: l, n + 1 => nth' l n
def addOff (a : Addr) (n : Nat) : Addr := ⟨a.block, Nat.add a.off n, none⟩
noncomputable def boundK (x : Option Value) (d hi : Nat) (k : Nat → R) : R :=
  match x with
  | none => k d
  | some v => idxK v fun i => cond (Nat.ble i hi && Nat.blt i big) (k i) false
noncomputable def sliceStr (x : Value) (lo hi : Option Value) (k : Value → R) : R :=
  match x with
  | .string s => lenK s.data.toList fun n => boundK hi n n fun h => boundK lo 0 h fun l => dropK s.data.toList l fun r => takeK r (Nat.sub h l) fun r => k (.string ⟨⟨r⟩⟩)
  | _ => false
noncomputable def slFin (size : Nat) (a : Option Addr) (k : Value → R) (m h l : Nat) : R :=
  cond (Nat.ble h (capLow m)) (natK (Nat.sub h l) fun n => natK (Nat.sub m l) fun c => match a with
    | none => k (.slice none n c)
    | some a => cond (inexact m && Nat.beq (capLow m) l) (k (.chan none)) (k (.slice (some (cond (Nat.beq m l) a (addOff a (Nat.mul l size)))) n c))) false
noncomputable def sl3 (size : Nat) (a : Option Addr) (len cap : Nat) (lo hi mx : Option Value) (k : Value → R) : R :=
  boundK mx cap (capLow cap) fun m => boundK hi len (capLow m) fun h => boundK lo 0 h fun l => slFin size a k m h l
noncomputable def sliceSl (size : Nat) (x : Value) (lo hi mx : Option Value) (k : Value → R) : R :=
  match x with
  | .slice a len cap => sl3 size a len cap lo hi mx k
  | _ => false
noncomputable def sliceArr (len size : Nat) (x : Value) (lo hi mx : Option Value) (k : Value → R) : R :=
  ptrK x fun a => cond (Nat.blt len big) (sl3 size (some a) len len lo hi mx k) false
noncomputable def idxSl (size : Nat) (x i : Value) (k : Value → R) : R :=
  match x with
  | .slice (some a) len _ => idxK i fun i => cond (Nat.blt i len) (k (.pointer (some (addOff a (Nat.mul i size))))) false
  | _ => false
noncomputable def idxArr (len size : Nat) (x i : Value) (k : Value → R) : R :=
  ptrK x fun a => idxK i fun i => cond (Nat.blt i len) (k (.pointer (some (addOff a (Nat.mul i size))))) false
noncomputable def idxStr (x i : Value) (k : Value → R) : R :=
  match x with
  | .string s => idxK i fun i => nthK s.data.toList i fun b => natK b.toNat fun n => k (.int .u8 (.ofNat n))
  | _ => false
def aggK (x : Value) (k : List Value → R) : R := match x with | .agg cs => k cs.toList | _ => false
/-- keys: a look at one (a struct's parts are there), and one held against another -/
structure KeyQ where
  chk : Value → R → R
  eq : Value → Value → (Bool → R) → R
noncomputable def chkF (P : Program) : List Field → Bx (List Value → R → R)
  | [] => ⟨fun _ k => k⟩
  | x :: r => cond (x.name == "_") ⟨fun _ _ => false⟩ (match aggB P x.type with
    | some (false, _) => (match P.underlying x.type with
      | some (.int _) => ⟨fun xs k => nthK xs x.offset fun _ => (chkF P r).run xs k⟩
      | some .string => ⟨fun xs k => nthK xs x.offset fun _ => (chkF P r).run xs k⟩
      | some .bool => ⟨fun xs k => nthK xs x.offset fun _ => (chkF P r).run xs k⟩
      | _ => ⟨fun _ _ => false⟩)
    | _ => ⟨fun _ _ => false⟩)
noncomputable def sameCell (x y : Value) (k : R) : R :=
  match x with
  | .int i a => (match y with | .int j b => cond (Nat.beq (kidx i) (kidx j)) (cond (eqI a b) k false) false | _ => false)
  | .string a => (match y with | .string b => beqL a.data.toList b.data.toList fun e => cond e k false | _ => false)
  | .bool a => (match y with | .bool b => cond (cond a b (not b)) k false | _ => false)
  | _ => false
noncomputable def sameCs (xs ys : List Value) (k : R) : R :=
  List.rec (motive := fun _ => List Value → R) (fun ys => match ys with | [] => k | _ :: _ => false) (fun x _ ih ys => match ys with | y :: r => sameCell x y (ih r) | [] => false) xs ys
noncomputable def keyAgg (eq : EqL) (x y : Value) (k : Bool → R) : R :=
  match x with
  | .agg a => (match y with | .agg b => eq.run a.toList b.toList fun e => cond e (sameCs a.toList b.toList (k true)) (k false) | _ => false)
  | _ => false
noncomputable def chkAgg (c : Bx (List Value → R → R)) (x : Value) (k : R) : R :=
  match x with
  | .agg a => c.run a.toList k
  | _ => false
/-- how keys of a type are held against one another: those of numbers, texts, bools, structs of these -/
noncomputable def keyB (P : Program) (t : TypeId) : Option KeyQ :=
  match P.underlying t with
  | some (.int _) => some ⟨fun _ k => k, fun x y k => intEq x y k⟩
  | some .string => some ⟨fun _ k => k, fun x y k => strEq x y k⟩
  | some .bool => some ⟨fun _ k => k, fun x y k => boolEq x y k⟩
  | some (.struct fs) => some ⟨fun x k => chkAgg (chkF P fs.toList) x k, fun x y k => keyAgg (stEq P 8 t) x y k⟩
  | _ => none
noncomputable def findK (eq : Value → Value → (Bool → R) → R) (key : Value) (es : List MapEntry) (k : Option (Nat × MapEntry) → R) : R :=
  List.rec (motive := fun _ => Nat → R) (fun _ => k none) (fun e _ ih i => eq key e.key fun b => cond b (k (some (i, e))) (ih (Nat.succ i))) es 0
noncomputable def lookK (eq : Value → Value → (Bool → R) → R) (zero : Value) (ok : Bool) (w : AW) (x key : Value) (k : Value → R) : R :=
  let fin := fun (r : Option (Nat × MapEntry)) => match r with
    | some (_, e) => k (cond ok (.tuple #[e.val, .bool true]) e.val)
    | none => k (cond ok (.tuple #[zero, .bool false]) zero)
  match x with
  | .map none => fin none
  | .map (some r) => w.get r fun o => (match o with | .map es _ => findK eq key es fin | _ => false)
  | _ => false
noncomputable def updK (eq : Value → Value → (Bool → R) → R) (w : AW) (x key v : Value) (k : Value → AW → R) : R :=
  match x with
  | .map (some r) => w.get r fun o => (match o with
    | .map es c => findK eq key es fun f => (match f with
      | some (i, e) => setK es i [{ key := key, val := v, born := e.born }] fun es => w.put r (.map es c) fun w => k undef w
      | none => appK es [{ key := key, val := v, born := c }] fun es => w.put r (.map es (Nat.succ c)) fun w => k undef w)
    | _ => false)
  | _ => false
noncomputable def entK (eq : Value → Value → (Bool → R) → R) (zero : Value) (w : AW) (x key : Value) (k : Value → AW → R) : R :=
  match x with
  | .map (some r) => w.get r fun o => (match o with
    | .map es c => findK eq key es fun f => (match f with
      | some (i, e) => setK es i [{ key := key, val := e.val, born := e.born }] fun es => w.put r (.map es c) fun w => k (.tuple #[e.val, .int .i64 (.ofNat e.born)]) w
      | none => appK es [{ key := key, val := zero, born := c }] fun es => w.put r (.map es (Nat.succ c)) fun w => k (.tuple #[zero, .int .i64 (.ofNat c)]) w)
    | _ => false)
  | _ => false
noncomputable def bornK (b : Nat) (es : List MapEntry) (k : Nat → MapEntry → R) : R :=
  List.rec (motive := fun _ => Nat → R) (fun _ => false) (fun e _ ih i => cond (Nat.beq e.born b) (k i e) (ih (Nat.succ i))) es 0
noncomputable def entSt (w : AW) (x s v : Value) (k : Value → AW → R) : R :=
  match x with
  | .map (some r) => idxK s fun b => w.get r fun o => (match o with
    | .map es c => bornK b es fun i e => setK es i [{ key := e.key, val := v, born := e.born }] fun es => w.put r (.map es c) fun w => k undef w
    | _ => false)
  | _ => false
noncomputable def hasN (l : List Nat) (n : Nat) (k : Bool → R) : R :=
  List.rec (motive := fun _ => R) (k false) (fun x _ ih => cond (Nat.beq x n) (k true) ih) l
/-- the entries that were not seen -/
noncomputable def leftK (es : List MapEntry) (seen : List Nat) (k : List MapEntry → R) : R :=
  List.rec (motive := fun _ => (List MapEntry → R) → R) (fun k => k []) (fun e _ ih k => hasN seen e.born fun b => cond b (ih k) (ih fun r => k (e :: r))) es k
noncomputable def rangeStr (w : AW) (x : Value) (k : Value → AW → R) : R :=
  match x with
  | .string s => w.new (.siter s 0) fun n w => k (.pointer (some ⟨n, 0, none⟩)) w
  | _ => false
noncomputable def rangeMap (w : AW) (x : Value) (k : Value → AW → R) : R :=
  match x with
  | .map none => w.new (.iter none 0 [] 0) fun n w => k (.pointer (some ⟨n, 0, none⟩)) w
  | .map (some m) => w.get m fun o => (match o with | .map _ c => w.new (.iter (some m) c [] c) fun n w => k (.pointer (some ⟨n, 0, none⟩)) w | _ => false)
  | _ => false
noncomputable def nextS (w : AW) (x : Value) (k : Value → AW → R) : R :=
  ptrK x fun a => cond (Nat.beq a.off 0) (w.get a.block fun o => match o with
    | .siter s pos => cond (Nat.blt pos s.size) (match Utf8.decode s pos with | (c, n) => w.put a.block (.siter s (Nat.add pos n)) fun w => k (.tuple #[.bool true, .int .i64 (.ofNat pos), .int .i32 c]) w) (k (.tuple #[.bool false]) w)
    | _ => false) false
noncomputable def anyBefore (es : List MapEntry) (last : Nat) (k : R) : R :=
  List.rec (motive := fun _ => R) false (fun e _ ih => cond (Nat.ble last e.born) ih k) es
/-- are there entries from before the last step? -/
noncomputable def fresh1 (es : List MapEntry) (seen : List Nat) (last : Nat) (k : R) : R := List.casesOn seen k fun _ _ => List.casesOn es k fun _ _ => anyBefore es last k
/-- whichever of them comes -/
noncomputable def allE (f : MapEntry → R) (l : List MapEntry) : R :=
  List.rec (motive := fun _ => R) true (fun e r ih => List.casesOn r (f e) (fun _ _ => cond (f e) ih false)) l
noncomputable def nextM (w : AW) (x : Value) (k : Value → AW → R) : R :=
  ptrK x fun a => cond (Nat.beq a.off 0) (w.get a.block fun o => match o with
    | .iter none _ _ _ => k (.tuple #[.bool false]) w
    | .iter (some m) since seen last => w.get m fun o => (match o with
      | .map es c => fresh1 es seen last (leftK es seen fun l => List.casesOn l (k (.tuple #[.bool false]) w) fun e r => allE (fun e => cond (Nat.blt e.born since) (appK seen [e.born] fun seen => w.put a.block (.iter (some m) since seen c) fun w => k (.tuple #[.bool true, e.key, e.val]) w) false) (e :: r))
      | _ => false)
    | _ => false) false
noncomputable def lastK (l : List Nat) (k : Nat → R) : R := List.rec (motive := fun _ => Option Nat → R) (fun o => Option.casesOn o false k) (fun x _ ih _ => ih (some x)) l none
noncomputable def entryK (w : AW) (x : Value) (k : Value → R) : R :=
  ptrK x fun a => cond (Nat.beq a.off 0) (w.get a.block fun o => match o with
    | .iter none _ _ _ => false
    | .iter (some m) _ seen st => w.get m fun o => (match o with
      | .map es c => cond (Nat.beq c st) (lastK seen fun b => bornK b es fun _ e => k (.tuple #[e.key, e.val])) false
      | _ => false)
    | _ => false) false
noncomputable def byteL (s : List UInt8) (k : List Value → R) : R := mapK (fun b => Value.int .u8 (.ofNat b.toNat)) s k
noncomputable def firstK (size n : Nat) (w : AW) (x : Value) (k : List Value → R) : R :=
  match x with
  | .slice (some a) _ _ => loadN w a (Nat.mul n size) k
  | .slice none _ _ => k []
  | .chan none => cond (Nat.beq n 0) (k []) false
  | .string s => takeK s.data.toList n fun l => byteL l k
  | _ => false
noncomputable def lenV (x : Value) (k : Nat → R) : R :=
  match x with
  | .slice _ n _ => k n
  | .chan none => k 0
  | .string s => lenK s.data.toList k
  | _ => false
noncomputable def growIn (size e : Nat) (base : Option Addr) (len need : Nat) (cs news : List Value) (w : AW) (k : Value → AW → R) : R :=
  match base with
  | some a => w.get a.block fun o => match o with
    | .cells _ e' lo hi => cond (Nat.beq a.off 0 && (Nat.beq e' e && (Nat.ble hi lo || (Nat.ble hi (Nat.mul len size) || Nat.ble (Nat.mul need size) lo)))) (flatK news (w.put a.block .dead fun w => w.new (.cells cs e lo hi) fun b w => k (.slice (some ⟨b, 0, none⟩) need (Nat.add need big)) w)) false
    | _ => false
  | none => false
noncomputable def growNews (size e bytes : Nat) (base : Option Addr) (len cap need : Nat) (news : List Value) (w : AW) (k : Value → AW → R) : R :=
  cond (Nat.ble (Nat.mul need bytes) 1000000000000 && Nat.ble need 1000000000000) (firstK size len w (.slice base len cap) fun old => appK old news fun cs => lenK cs fun m => cond (Nat.beq m (Nat.mul need size))
    (cond (inexact cap) (growIn size e base len need cs news w k) (w.new (.cells cs e 0 0) fun b w => k (.slice (some ⟨b, 0, none⟩) need (Nat.add need big)) w)) false) false
noncomputable def putNews (size e bytes : Nat) (base : Option Addr) (len cap n : Nat) (news : List Value) (w : AW) (k : Value → AW → R) : R :=
  natK (Nat.add len n) fun need => cond (Nat.ble need (capLow cap))
    (match base with
     | some a => storeN w (addOff a (Nat.mul len size)) news fun w => k (.slice base need cap) w
     | none => k (.slice base need cap) w)
    (growNews size e bytes base len cap need news w k)
noncomputable def appendK (size e bytes : Nat) (s x : Value) (w : AW) (k : Value → AW → R) : R :=
  match s with
  | .slice base len cap => lenV x fun n => firstK size n w x fun news => putNews size e bytes base len cap n news w k
  | _ => false
noncomputable def appendZ (size e bytes : Nat) (zero : List Value) (s x : Value) (w : AW) (k : Value → AW → R) : R :=
  match s with
  | .slice base len cap => idxK x fun n => cond (Nat.ble n 1000000 && Nat.ble (Nat.mul n bytes) 1000000000000) (repK zero n fun news => putNews size e bytes base len cap n news w k) false
  | _ => false
noncomputable def copyK (size : Nat) (d x : Value) (w : AW) (k : Value → AW → R) : R :=
  match d with
  | .slice base n _ => lenV x fun m => natK (Nat.min m n) fun n => firstK size n w x fun cs => (match base with
    | some a => storeN w a cs fun w => k (.int .i64 (.ofNat n)) w
    | none => k (.int .i64 (.ofNat n)) w)
  | _ => false
noncomputable def clearSl (zero : List Value) (x : Value) (w : AW) (k : Value → AW → R) : R :=
  match x with
  | .slice base n _ => repK zero n fun cs => (match base with
    | some a => storeN w a cs fun w => k undef w
    | none => k undef w)
  | _ => false
noncomputable def clearMap (x : Value) (w : AW) (k : Value → AW → R) : R :=
  match x with
  | .map none => k undef w
  | .map (some r) => w.get r fun o => (match o with | .map _ c => w.put r (.map [] c) fun w => k undef w | _ => false)
  | _ => false
noncomputable def dropAt {α : Type} (l : List α) (i : Nat) (k : List α → R) : R :=
  List.rec (motive := fun _ => Nat → (List α → R) → R) (fun _ k => k []) (fun x t ih i k => Nat.rec (motive := fun _ => R) (k t) (fun m _ => ih m fun r => k (x :: r)) i) l i k
noncomputable def deleteK (eq : Value → Value → (Bool → R) → R) (x key : Value) (w : AW) (k : Value → AW → R) : R :=
  match x with
  | .map none => k undef w
  | .map (some r) => w.get r fun o => (match o with
    | .map es c => findK eq key es fun f => (match f with
      | some (i, _) => dropAt es i fun es => w.put r (.map es c) fun w => k undef w
      | none => k undef w)
    | _ => false)
  | _ => false
noncomputable def lenStr (x : Value) (k : Value → R) : R :=
  match x with
  | .string s => lenK s.data.toList fun n => k (.int .i64 (.ofNat n))
  | .float .f32 1 => k (anyI .i64)
  | _ => false
def lenSl (x : Value) (k : Value → R) : R :=
  match x with
  | .slice _ n _ => k (.int .i64 (.ofNat n))
  | .chan none => k (.int .i64 0)
  | _ => false
def capSl (x : Value) (k : Value → R) : R :=
  match x with
  | .slice _ _ c => cond (inexact c) false (k (.int .i64 (.ofNat c)))
  | _ => false
noncomputable def lenMap (x : Value) (w : AW) (k : Value → R) : R :=
  match x with
  | .map none => k (.int .i64 (.ofNat 0))
  | .map (some r) => w.get r fun o => (match o with | .map es _ => lenK es fun n => k (.int .i64 (.ofNat n)) | _ => false)
  | _ => false
def dataSl (x : Value) (k : Value → R) : R :=
  match x with
  | .slice none _ _ => k (.pointer none)
  | .slice (some a) _ c => cond (Nat.beq (capLow c) 0) false (k (.pointer (some a)))
  | _ => false
noncomputable def unbyte (l : List Value) (k : List UInt8 → R) : R :=
  List.rec (motive := fun _ => (List UInt8 → R) → R) (fun k => k []) (fun v _ ih k => match v with | .int .u8 (.ofNat n) => cond (Nat.blt n 256) (ih fun r => k (UInt8.ofNat n :: r)) false | _ => false) l k
noncomputable def frzStr (e n : Nat) (a : Addr) (bs : List UInt8) (w : AW) (k : Value → AW → R) : R :=
  w.get a.block fun o => match o with
    | .cells vs t lo hi => cond (Nat.beq a.off 0 && Nat.beq t e) (w.put a.block (.cells vs t (cond (Nat.ble hi lo) 0 0) (cond (Nat.ble hi lo) n (Nat.max hi n))) fun w => k (.string ⟨⟨bs⟩⟩) w) false
    | _ => false
noncomputable def unsafeStr (e : Nat) (x n : Value) (w : AW) (k : Value → AW → R) : R :=
  match n with
  | .int .i64 (.ofNat n) => natK n fun n => Nat.rec (motive := fun _ => R) (match x with | .pointer _ => k (.string ⟨#[]⟩) w | _ => false) (fun m _ => ptrK x fun a => loadN w a (Nat.succ m) fun l => unbyte l fun bs => cond (Nat.blt m 1000000000) (frzStr e (Nat.succ m) a bs w k) false) n
  | _ => false
noncomputable def maxmin (mx : Bool) (l : List Value) (v : Value) (k : Value → R) : R :=
  List.rec (motive := fun _ => Value → R) (fun v => k v) (fun x _ ih v => match v with
    | .int j a => (match x with
      | .int _ b => cond (cond mx (ltI a b) (ltI b a)) (ih (.int j b)) (ih (.int j a))
      | .float .f64 _ => ih (anyI j)
      | _ => false)
    | .float .f64 i => (match x with
      | .int _ _ => ih (.float .f64 i)
      | .float .f64 _ => ih (.float .f64 i)
      | _ => false)
    | .complex .f32 b m => (match x with
      | .int _ c => cond (mx && Nat.beq b 1 && leI c (.ofNat m)) (ih (.complex .f32 b m)) (cond (mx && Nat.beq b 0 && leI (.ofNat m) c) (ih (.int .i64 c)) (ih (anyI .i64)))
      | _ => false)
    | _ => false) l v
/-- is the second argument of an append a number (of a make)? -/
def intT (P : Program) : List TypeId → Option Bool
  | [] => some false
  | t :: _ => match P.underlying t with
    | some (.int _) => some true
    | some _ => some false
    | none => none
noncomputable def bi (P : Program) (b : Builtin) (ats : List TypeId) (args : List Operand) : Opc :=
  match b, ats, args with
  | .append, st :: xt, [s, x] => (match P.underlying st with
    | some (.slice e) => match P.info? e, zeroB P e, intT P xt with
      | some i, some z, some b => cond (Nat.beq (cellsL z).length i.size && Nat.beq (P.cellsOf e) i.size) (cond b
        ⟨fun _ fr w k => (opd s).run fr fun s => (opd x).run fr fun x => appendZ i.size e i.bytes (cellsL z) s x w k⟩
        ⟨fun _ fr w k => (opd s).run fr fun s => (opd x).run fr fun x => appendK i.size e i.bytes s x w k⟩) no
      | _, _, _ => no
    | _ => no)
  | .len, st :: _, [x] => (match P.underlying st with
    | some .string => ⟨fun _ fr w k => (opd x).run fr fun x => lenStr x fun v => k v w⟩
    | some (.slice _) => ⟨fun _ fr w k => (opd x).run fr fun x => lenSl x fun v => k v w⟩
    | some (.map _ _) => ⟨fun _ fr w k => (opd x).run fr fun x => lenMap x w fun v => k v w⟩
    | some (.array n _) => ⟨fun _ fr w k => k (.int .i64 (.ofNat n)) w⟩
    | some (.pointer t) => (match P.underlying t with | some (.array n _) => ⟨fun _ fr w k => k (.int .i64 (.ofNat n)) w⟩ | _ => no)
    | _ => no)
  | .cap, st :: _, [x] => (match P.underlying st with
    | some (.slice _) => ⟨fun _ fr w k => (opd x).run fr fun x => capSl x fun v => k v w⟩
    | some (.array n _) => ⟨fun _ fr w k => k (.int .i64 (.ofNat n)) w⟩
    | _ => no)
  | .copy, st :: _, [d, x] => (match P.underlying st with
    | some (.slice e) => (match szB P e with | some n => ⟨fun _ fr w k => (opd d).run fr fun d => (opd x).run fr fun x => copyK n d x w k⟩ | none => no)
    | _ => no)
  | .clear, st :: _, [x] => (match P.underlying st with
    | some (.slice e) => match zeroB P e with | some z => ⟨fun _ fr w k => (opd x).run fr fun x => clearSl (cellsL z) x w k⟩ | none => no
    | some (.map _ _) => ⟨fun _ fr w k => (opd x).run fr fun x => clearMap x w k⟩
    | _ => no)
  | .delete, st :: _, [x, key] => (match P.underlying st with
    | some (.map kt _) => (match keyB P kt with | some q => ⟨fun _ fr w k => (opd x).run fr fun x => (opd key).run fr fun key => q.chk key (deleteK q.eq x key w k)⟩ | none => no)
    | _ => no)
  | .unsafeSliceData, _, [x] => ⟨fun _ fr w k => (opd x).run fr fun x => dataSl x fun v => k v w⟩
  | .unsafeString, [pt, _], [x, n] => (match P.underlying pt with
    | some (.pointer e) => cond (Nat.beq (P.cellsOf e) 1) ⟨fun _ fr w k => (opd x).run fr fun x => (opd n).run fr fun n => unsafeStr e x n w k⟩ no
    | _ => no)
  | .max, _, x :: l => ⟨fun _ fr w k => (opd x).run fr fun v => (opds l).run fr fun l => maxmin true l v fun v => k v w⟩
  | .min, _, x :: l => ⟨fun _ fr w k => (opd x).run fr fun v => (opds l).run fr fun l => maxmin false l v fun v => k v w⟩
  | _, _, _ => no
noncomputable def callV (call : CallT) (f : Value) (args : List Value) (w : AW) (k : Value → AW → R) : R :=
  match f with
  | .func (.func f) first cap => appK first.toList args fun l => appK l cap.toList fun l => call f l w k
  | _ => false
noncomputable def invokeK (P : Program) (call : CallT) (m : String) (r : Value) (args : List Value) (w : AW) (k : Value → AW → R) : R :=
  match r with
  | .iface t v => runPure P (method (Nat.add P.types.size Made.depth) t v m) fun p => call p.1 (p.2 :: args) w k
  | _ => false
noncomputable def nilK (v : Value) (k : Value → R) : R := match v with | .pointer none => false | .nilIface => false | .nilFunc => false | v => k v
noncomputable def asrtK (t : TypeId) (zero : Value) (ok : Bool) (x : Value) (k : Value → R) : R :=
  match x with
  | .iface u v => cond (Nat.beq u t) (k (cond ok (.tuple #[v, .bool true]) v)) (cond ok (k (.tuple #[zero, .bool false])) false)
  | .nilIface => cond ok (k (.tuple #[zero, .bool false])) false
  | _ => false
noncomputable def toBytes (e : TypeId) (x : Value) (w : AW) (k : Value → AW → R) : R :=
  match x with
  | .string s => byteL s.data.toList fun l => lenK l fun n => cond (Nat.ble n 1000000000) (w.new (.cells l e n (Nat.add n 36893488147419103232)) fun b w => k (.slice (some ⟨b, 0, none⟩) n (Nat.add n big)) w) false
  | _ => false
noncomputable def ofBytes (x : Value) (w : AW) (k : Value → AW → R) : R :=
  match x with
  | .slice none _ _ => k (.string ⟨#[]⟩) w
  | .slice (some a) n _ => loadN w a n fun l => unbyte l fun bs => k (.string ⟨⟨bs⟩⟩) w
  | _ => false
noncomputable def convM (j : IntKind) (x : Value) (k : Value → R) : R := match x with
  | .int _ n => wrapK j n k
  | .float .f64 _ => k (anyI j)
  | _ => false
/-- to an unsafe.Pointer, and from one to where a variable of the type lies -/
noncomputable def toUns (x : Value) (w : AW) (k : Value → R) : R := ptrK x fun a => getCells w a.block fun vs => nthK vs a.off fun _ => k (.pointer (some a))
noncomputable def ofUns (u n : Nat) (x : Value) (w : AW) (k : Value → R) : R :=
  ptrK x fun a => cond (Nat.beq a.off 0) (w.get a.block fun o => match o with
    | .cells vs e _ _ => lenK vs fun m => cond (Nat.beq e u && (Nat.ble n m && not (Nat.beq n 0))) (k (.pointer (some a))) false
    | _ => false) false
noncomputable def compOp (P : Program) (o : Oper) : Opc :=
  match o.op with
  | .move x => ⟨fun _ fr w k => (opd x).run fr fun v => k v w⟩
  | .assign x => ⟨fun _ fr w k => (opd x).run fr fun v => k v w⟩
  | .pick c a b => ⟨fun _ fr w k => (opd c).run fr fun vc => (opd a).run fr fun va => (opd b).run fr fun vb => boolK vc fun c => cond c (k va w) (k vb w)⟩
  | .alloc t => (match zeroB P t with | some z => ⟨fun _ fr w k => newVal w t (cellsL z) k⟩ | none => no)
  | .box t x => ⟨fun _ fr w k => (opd x).run fr fun vx => newVal w t (cellsL vx) k⟩
  | .build t ps => (match zeroB P t, P.underlying t with
    | some z, some (.struct fs) => (match placesB P fs.toList with
      | some pl => (match placed (fun i => nth' pl i) ps.toList with
        | some l => ⟨fun _ fr w k => (fillK l).run fr (cellsL z) fun cs => k (.agg ⟨cs⟩) w⟩
        | none => no)
      | none => no)
    | some z, some (.array _ e) => (match szB P e with
      | some n => (match placed (fun i => some (Nat.mul i n, n)) ps.toList with
        | some l => ⟨fun _ fr w k => (fillK l).run fr (cellsL z) fun cs => k (.agg ⟨cs⟩) w⟩
        | none => no)
      | none => no)
    | _, _ => no)
  | .buildSlice t n ps => (match P.underlying t with
    | some (.slice e) => (match zeroB P e, szB P e with
      | some z, some sz => cond (Nat.beq n 0) (match ps.toList with
          | [] => ⟨fun _ _ w k => w.new (.cells [] e 0 0) fun b w => k (.slice (some ⟨b, 0, none⟩) 0 0) w⟩
          | _ => no) <| cond (Nat.beq (cellsL z).length sz && (Nat.ble (Nat.mul n sz) 16777216 && not (Nat.beq sz 0)))
        (match placed (fun i => some (Nat.mul i sz, sz)) ps.toList with
          | some l => ⟨fun _ fr w k => repK (cellsL z) n fun cs => (fillK l).run fr cs fun cs => w.new (.cells cs e 0 0) fun b w => k (.slice (some ⟨b, 0, none⟩) n n) w⟩
          | none => no) no
      | _, _ => no)
    | _ => no)
  | .load t a => (match aggB P t with
    | some (true, n) => ⟨fun _ fr w k => (opd a).run fr fun va => loadAgg n va w k⟩
    | some (false, _) => ⟨fun _ fr w k => (opd a).run fr fun va => loadOne va w k⟩
    | none => no)
  | .store t a x => (match P.underlying t with
    | some _ => ⟨fun _ fr w k => (opd a).run fr fun va => (opd x).run fr fun vx => storeC (P.cellsOf t) va vx w k⟩
    | none => no)
  | .nilCheck x => ⟨fun _ fr w k => (opd x).run fr fun vx => nilK vx fun v => k v w⟩
  | .binOp op t x y _ => ⟨fun _ fr w k => (opd x).run fr fun vx => (opd y).run fr fun vy => (binK P op t (isConst x || isConst y)).run w vx vy fun v => k v w⟩
  | .unOp op _ x => ⟨fun _ fr w k => (opd x).run fr fun vx => cond (plain1 vx) (pureK P (Op.unary op vx) fun v => k v w) (notM op vx fun v => k v w)⟩
  | .convert s d x => (match P.underlying s, P.underlying d with
    | some .string, some (.slice e) => (match P.underlying e with | some (.int .u8) => cond (Nat.beq (P.cellsOf e) 1) ⟨fun _ fr w k => (opd x).run fr fun vx => toBytes e vx w k⟩ no | _ => no)
    | some (.slice e), some .string => (match P.underlying e with | some (.int .u8) => ⟨fun _ fr w k => (opd x).run fr fun vx => ofBytes vx w k⟩ | _ => no)
    | some (.int _), some (.int j) => ⟨fun _ fr w k => (opd x).run fr fun vx => convM j vx fun v => k v w⟩
    | some (.pointer e), some .unsafePointer => (match P.info? e with
      | some j => cond (Nat.beq j.size 0) no ⟨fun _ fr w k => (opd x).run fr fun vx => toUns vx w fun v => k v w⟩
      | none => no)
    | some .unsafePointer, some (.pointer u) => (match P.info? u with
      | some _ => ⟨fun _ fr w k => (opd x).run fr fun vx => ofUns u (P.cellsOf u) vx w fun v => k v w⟩
      | none => no)
    | _, _ => ⟨fun _ fr w k => (opd x).run fr fun vx => cond (plain1 vx) (pureK P (convert s d vx) fun v => k v w) false⟩)
  | .makeInterface t x => (match P.underlying t with
    | some (.interface _) => no
    | some _ => ⟨fun _ fr w k => (opd x).run fr fun vx => k (.iface t vx) w⟩
    | none => no)
  | .makeFunc fn first cap => (match fn with
    | .func _ => ⟨fun _ fr w k => (opds first.toList).run fr fun fs => (opds cap.toList).run fr fun cs => k (.func fn ⟨fs⟩ ⟨cs⟩) w⟩
    | _ => no)
  | .makeMap t r => (match r with
    | none => ⟨fun _ fr w k => w.new (.map [] 0) fun b w => k (.map (some b)) w⟩
    | some x => (match P.underlying t with
      | some (.map _ _) => ⟨fun _ fr w k => (opd x).run fr fun vx => intK vx fun _ => w.new (.map [] 0) fun b w => k (.map (some b)) w⟩
      | _ => no))
  | .makeSlice t l c => (match P.underlying t with
    | some (.slice e) => (match zeroB P e, P.info? e with
      | some z, some i => cond (Nat.beq (cellsL z).length i.size && Nat.ble i.bytes 1000000)
        ⟨fun _ fr w k => (opd l).run fr fun vl => (opd c).run fr fun vc => idxK vl fun l => idxK vc fun c => cond (Nat.ble l c && Nat.ble c 100000) (repK (cellsL z) c fun cs => w.new (.cells cs e 0 0) fun b w => k (.slice (some ⟨b, 0, none⟩) l c) w) false⟩ no
      | _, _ => no)
    | _ => no)
  | .slice t x lo hi mx => (match P.underlying t with
    | some .string => (match mx with
      | none => ⟨fun _ fr w k => (opd x).run fr fun vx => (opdO lo).run fr fun olo => (opdO hi).run fr fun ohi => sliceStr vx olo ohi fun v => k v w⟩
      | some _ => no)
    | some (.slice e) => (match szB P e, hi.isSome || mx.isNone with | some n, true => ⟨fun _ fr w k => (opd x).run fr fun vx => (opdO lo).run fr fun olo => (opdO hi).run fr fun ohi => (opdO mx).run fr fun omx => sliceSl n vx olo ohi omx fun v => k v w⟩ | _, _ => no)
    | some (.array n e) => (match szB P e, hi.isSome || mx.isNone with | some s, true => ⟨fun _ fr w k => (opd x).run fr fun vx => (opdO lo).run fr fun olo => (opdO hi).run fr fun ohi => (opdO mx).run fr fun omx => sliceArr n s vx olo ohi omx fun v => k v w⟩ | _, _ => no)
    | some (.pointer t) => (match P.underlying t with
      | some (.array n e) => (match szB P e, hi.isSome || mx.isNone with | some s, true => ⟨fun _ fr w k => (opd x).run fr fun vx => (opdO lo).run fr fun olo => (opdO hi).run fr fun ohi => (opdO mx).run fr fun omx => sliceArr n s vx olo ohi omx fun v => k v w⟩ | _, _ => no)
      | _ => no)
    | _ => no)
  | .fieldAddr s x f => (match P.underlying s with
    | some (.struct fs) => (match nth' fs.toList f with
      | some f => (match P.underlying f.type, Nat.beq (P.cellsOf f.type) 0 with
        | some _, false => ⟨fun _ fr w k => (opd x).run fr fun vx => ptrK vx fun a => k (.pointer (some (addOff a f.offset))) w⟩
        | _, _ => no)
      | none => no)
    | _ => no)
  | .field t x f => (match P.underlying t with
    | some (.struct fs) => (match nth' fs.toList f with
      | some f => (match aggB P f.type with
        | some (true, n) => ⟨fun _ fr w k => (opd x).run fr fun vx => aggK vx fun cs => dropK cs f.offset fun l => takeK l n fun l => k (.agg ⟨l⟩) w⟩
        | some (false, _) => ⟨fun _ fr w k => (opd x).run fr fun vx => aggK vx fun cs => nthK cs f.offset fun v => k v w⟩
        | none => no)
      | none => no)
    | _ => no)
  | .indexAddr t x i => (match P.underlying t with
    | some (.slice e) => (match szB P e with | some n => ⟨fun _ fr w k => (opd x).run fr fun vx => (opd i).run fr fun vi => idxSl n vx vi fun v => k v w⟩ | none => no)
    | some (.array len e) => (match szB P e with | some n => ⟨fun _ fr w k => (opd x).run fr fun vx => (opd i).run fr fun vi => idxArr len n vx vi fun v => k v w⟩ | none => no)
    | _ => no)
  | .index t x i => (match P.underlying t with
    | some .string => ⟨fun _ fr w k => (opd x).run fr fun vx => (opd i).run fr fun vi => idxStr vx vi fun v => k v w⟩
    | some (.array len e) => (match aggB P e with
      | some (true, n) => ⟨fun _ fr w k => (opd x).run fr fun vx => (opd i).run fr fun vi => aggK vx fun cs => idxK vi fun i => cond (Nat.blt i len) (dropK cs (Nat.mul i n) fun l => takeK l n fun l => k (.agg ⟨l⟩) w) false⟩
      | some (false, n) => ⟨fun _ fr w k => (opd x).run fr fun vx => (opd i).run fr fun vi => aggK vx fun cs => idxK vi fun i => cond (Nat.blt i len) (nthK cs (Nat.mul i n) fun v => k v w) false⟩
      | none => no)
    | _ => no)
  | .lookup t x i ok => (match P.underlying t with
    | some (.map kt e) => (match zeroB P e, keyB P kt with | some z, some q => ⟨fun _ fr w k => (opd x).run fr fun vx => (opd i).run fr fun vi => q.chk vi (lookK q.eq z ok w vx vi fun v => k v w)⟩ | _, _ => no)
    | _ => no)
  | .mapUpdate t m i x => (match P.underlying t with
    | some (.map kt _) => (match keyB P kt with | some q => ⟨fun _ fr w k => (opd m).run fr fun vm => (opd i).run fr fun vi => (opd x).run fr fun vx => q.chk vi (updK q.eq w vm vi vx k)⟩ | none => no)
    | _ => no)
  | .insert t m i x => (match P.underlying t with
    | some (.map kt _) => (match keyB P kt with | some q => ⟨fun _ fr w k => (opd m).run fr fun vm => (opd i).run fr fun vi => (opd x).run fr fun vx => q.chk vi (updK q.eq w vm vi vx k)⟩ | none => no)
    | _ => no)
  | .mapEntry t m i => (match P.underlying t with
    | some (.map kt e) => (match zeroB P e, keyB P kt with | some z, some q => ⟨fun _ fr w k => (opd m).run fr fun vm => (opd i).run fr fun vi => q.chk vi (entK q.eq z w vm vi k)⟩ | _, _ => no)
    | _ => no)
  | .entry x => ⟨fun _ fr w k => (opd x).run fr fun vx => entryK w vx fun v => k v w⟩
  | .entryStore _ m s x => ⟨fun _ fr w k => (opd m).run fr fun vm => (opd s).run fr fun vs_ => (opd x).run fr fun vx => entSt w vm vs_ vx k⟩
  | .range t x => (match P.underlying t with
    | some .string => ⟨fun _ fr w k => (opd x).run fr fun vx => rangeStr w vx k⟩
    | some (.map _ _) => ⟨fun _ fr w k => (opd x).run fr fun vx => rangeMap w vx k⟩
    | _ => no)
  | .next x b => cond b ⟨fun _ fr w k => (opd x).run fr fun vx => nextS w vx k⟩ ⟨fun _ fr w k => (opd x).run fr fun vx => nextM w vx k⟩
  | .typeAssert x _ t ok => (match P.underlying t, zeroB P t with
    | some (.interface _), _ => no
    | some _, some z => ⟨fun _ fr w k => (opd x).run fr fun vx => asrtK t z ok vx fun v => k v w⟩
    | _, _ => no)
  | .extract t i => ⟨fun _ fr w k => (opd t).run fr fun vt => (match vt with | .tuple vs => nthK vs.toList i fun v => k v w | _ => false)⟩
  | .call c => (match c.callee with
    | .builtin b => bi P b c.argTypes.toList c.args.toList
    | .value (.func f) => (match c.args.toList with | as => ⟨fun call fr w k => (opds as).run fr fun as_ => call f as_ w k⟩)
    | .value f => (match c.args.toList with | as => ⟨fun call fr w k => (opd f).run fr fun vf => (opds as).run fr fun as_ => callV call vf as_ w k⟩)
    | .invoke _ _ => no)
  | _ => no
def put (d : Option Tmp) : Bx (Value → Fr → (Fr → R) → R) := match d with | some d => Fr.set (path d) | none => ⟨fun _ fr k => k fr⟩
/-- the operations of a region, in the order of the text -/
noncomputable def compOps (P : Program) (ops : List Oper) : List Oper → Bx (CallT → Fr → AW → (Fr → AW → R) → R)
  | [] => ⟨fun _ fr w k => k fr w⟩
  | o :: r => match o.guard with
    | none => ⟨fun call fr w k => (compOp P o).run call fr w fun v w => (put o.dst).run v fr fun fr => (compOps P ops r).run call fr w k⟩
    | some (j, want) => match (nth' ops j).bind (·.dst) with
      | some t => ⟨fun call fr w k => (Fr.get (path t)).run fr fun g => match g with
        | .bool b => cond (cond want b (not b)) ((compOp P o).run call fr w fun v w => (put o.dst).run v fr fun fr => (compOps P ops r).run call fr w k) ((put o.dst).run undef fr fun fr => (compOps P ops r).run call fr w k)
        | .float .f32 0 => (Fr.set (path t)).run (.bool true) fr (fun fr => cond want ((compOp P o).run call fr w fun v w => (put o.dst).run v fr fun fr => (compOps P ops r).run call fr w k) ((put o.dst).run undef fr fun fr => (compOps P ops r).run call fr w k)) &&
          (Fr.set (path t)).run (.bool false) fr (fun fr => cond want ((put o.dst).run undef fr fun fr => (compOps P ops r).run call fr w k) ((compOp P o).run call fr w fun v w => (put o.dst).run v fr fun fr => (compOps P ops r).run call fr w k))
        | _ => (put o.dst).run undef fr fun fr => (compOps P ops r).run call fr w k⟩
      | none => ⟨fun call fr w k => (put o.dst).run undef fr fun fr => (compOps P ops r).run call fr w k⟩
/-- the operands of an operation -/
def opL : Op → List Operand
  | .move x | .assign x | .box _ x | .load _ x | .nilCheck x | .unOp _ _ x | .convert _ _ x | .makeInterface _ x | .fieldAddr _ x _ | .field _ x _ | .range _ x | .next x _ | .entry x | .typeAssert x _ _ _ | .extract x _ => [x]
  | .pick c a b => [c, a, b]
  | .build _ ps => ps.toList.map (·.2)
  | .buildSlice _ _ ps => ps.toList.map (·.2)
  | .store _ a v | .binOp _ _ a v _ | .makeSlice _ a v | .indexAddr _ a v | .index _ a v | .lookup _ a v _ | .mapEntry _ a v => [a, v]
  | .makeFunc _ first captured => first.toList ++ captured.toList
  | .makeMap _ r => r.toList
  | .slice _ x l h m => [x] ++ l.toList ++ h.toList ++ m.toList
  | .mapUpdate _ m k v | .entryStore _ m k v | .insert _ m k v => [m, k, v]
  | .call c => (match c.callee with | .value f => [f] | .invoke r _ => [r] | .builtin _ => []) ++ c.args.toList
  | _ => []
/-! ### Are two of the evaluator's values the same? -/
def sameL (eq : Value → Value → Bool) : List Value → List Value → Bool
  | [], [] => true
  | x :: l, y :: m => eq x y && sameL eq l m
  | _, _ => false
def sameBytes : List UInt8 → List UInt8 → Bool
  | [], [] => true
  | x :: l, y :: m => Nat.beq x.toNat y.toNat && sameBytes l m
  | _, _ => false
def sameA (a b : Addr) : Bool := Nat.beq a.block b.block && Nat.beq a.off b.off && a.spot.isNone && b.spot.isNone
def same1 : Nat → Value → Value → Bool
  | 0, _, _ => false
  | f + 1, x, y => match x with
    | .bool a => (match y with | .bool b => cond a b (not b) | _ => false)
    | .int i a => (match y with | .int j b => Nat.beq (kidx i) (kidx j) && eqI a b | _ => false)
    | .string a => (match y with | .string b => sameBytes a.data.toList b.data.toList | _ => false)
    | .float .f64 a => (match y with | .float .f64 b => Nat.beq a b | _ => false)
    | .float .f32 a => (match y with | .float .f32 b => Nat.beq a b | _ => false)
    | .complex .f64 a b => (match y with | .complex .f64 c d => Nat.beq a c && Nat.beq b d | _ => false)
    | .complex .f32 a b => (match y with | .complex .f32 c d => Nat.beq a c && Nat.beq b d | _ => false)
    | .chan none => (match y with | .chan none => true | _ => false)
    | .pointer none => (match y with | .pointer none => true | _ => false)
    | .pointer (some a) => (match y with | .pointer (some b) => sameA a b | _ => false)
    | .slice none n m => (match y with | .slice none n' m' => Nat.beq n n' && Nat.beq m m' | _ => false)
    | .slice (some a) n m => (match y with | .slice (some b) n' m' => sameA a b && (Nat.beq n n' && Nat.beq m m') | _ => false)
    | .map none => (match y with | .map none => true | _ => false)
    | .map (some a) => (match y with | .map (some b) => Nat.beq a b | _ => false)
    | .func (.func g) a b => (match y with | .func (.func g') a' b' => Nat.beq g g' && (sameL (same1 f) a.toList a'.toList && sameL (same1 f) b.toList b'.toList) | _ => false)
    | .nilFunc => (match y with | .nilFunc => true | _ => false)
    | .nilIface => (match y with | .nilIface => true | _ => false)
    | .iface t u => (match y with | .iface s v => Nat.beq t s && same1 f u v | _ => false)
    | .agg a => (match y with | .agg b => sameL (same1 f) a.toList b.toList | _ => false)
    | .tuple a => (match y with | .tuple b => sameL (same1 f) a.toList b.toList | _ => false)
    | _ => false
def convF (P : Program) (s d : TypeId) : Bool := match P.underlying s, P.underlying d with
  | some .string, some (.slice _) => false
  | _, _ => true
def fltBi : Builtin → Bool
  | .len | .cap | .max | .min | .unsafeSliceData => true
  | _ => false
/-- The operations that change no world. -/
def flt (P : Program) : Op → Bool
  | .move _ | .assign _ | .pick _ _ _ | .load _ _ | .nilCheck _ | .binOp _ _ _ _ _ | .unOp _ _ _ | .makeInterface _ _ | .slice _ _ _ _ _ | .fieldAddr _ _ _ | .field _ _ _ | .indexAddr _ _ _ | .index _ _ _ | .extract _ _ | .build _ _ | .typeAssert _ _ _ _ | .lookup _ _ _ _ => true
  | .makeFunc _ _ _ => true
  | .convert s d _ => convF P s d
  | .call c => (match c.callee with | .builtin b => fltBi b | _ => false)
  | _ => false
/-- The allocs that may wait. -/
def isAl : Op → Bool
  | .alloc _ | .box _ _ | .buildSlice _ _ _ => true
  | _ => false

/-! ### Regions that draw their order -/
def bit (i : Nat) : Nat := Nat.shiftLeft 1 i
def hasB (m i : Nat) : Bool := Nat.beq (Nat.land 1 (Nat.shiftRight m i)) 1
def subB (a b : Nat) : Bool := Nat.beq (Nat.land a b) a
def dstM (o : Oper) : Nat := match o.dst with | some d => bit d | none => 0
def emk : List Edge → Nat
  | [] => 0
  | e :: r => cond (Region.binds .any e) (Nat.lor (bit e.on) (emk r)) (emk r)
def lkL : List Operand → Nat
  | [] => 0
  | x :: r => match x with | .tmp t => Nat.lor (bit t) (lkL r) | _ => lkL r
def gTmp (ops : List Oper) (o : Oper) : Option Nat := match o.guard with | none => none | some (j, _) => (nth' ops j).bind (·.dst)
def mkS1 : Op → Bool
  | .buildSlice _ _ _ => true
  | _ => false
/-- a conversion of bytes that the same region builds: it is to find them laid -/
def waits (ops : List Oper) : Op → Bool
  | .convert _ _ (.tmp t) => ops.any fun q => mkS1 q.op && (match q.dst with | some d => Nat.beq d t | none => false)
  | _ => false
structure Pt where
  o : Oper
  em : Nat
  lk : Nat
  kd : Nat
def mkPt (P : Program) (ops : List Oper) (o : Oper) : Pt :=
  ⟨o, emk o.after.toList, Nat.lor (lkL (opL o.op)) (match gTmp ops o with | some t => bit t | none => 0), cond (waits ops o.op) 2 (cond (flt P o.op) 0 (cond (isAl o.op) 1 2))⟩
def allI (f : Nat → Pt → Bool) : List Pt → Nat → Bool
  | [], _ => true
  | p :: r, i => f i p && allI f r (Nat.succ i)
/-- what the operations of a set write -/
def wm : List Pt → Nat → Nat → Nat
  | [], _, _ => 0
  | p :: r, i, D => cond (hasB D i) (Nat.lor (dstM p.o) (wm r (Nat.succ i) D)) (wm r (Nat.succ i) D)
/-- all that an operation waits for (the points from the last one on) -/
def closeM : List (Nat × Nat) → Nat → Nat
  | [], U => U
  | (c, m) :: r, U => closeM r (cond (hasB U c) (Nat.lor U m) U)
def revI : List Pt → Nat → List (Nat × Nat) → List (Nat × Nat)
  | [], _, acc => acc
  | p :: r, i, acc => revI r (Nat.succ i) ((i, p.em) :: acc)
/-- the floats of a set that may not be listed -/
def openF (D X : Nat) : List Pt → Nat → List Pt
  | [], _ => []
  | p :: r, i => cond (hasB D i && (Nat.beq p.kd 0 && not (hasB X i))) (p :: openF D X r (Nat.succ i)) (openF D X r (Nat.succ i))
/-- edges lead back; what is written is written once; who reads waits for who writes, or is waited for -/
def dstNe (o : Oper) (d : Nat) : Bool := match o.dst with | some e => not (Nat.beq e d) | none => true
def okW (ls : List Pt) (j : Nat) (p : Pt) : Bool := match p.o.dst with
  | none => true
  | some d => Nat.blt d 16000 && allI (fun i q => Nat.beq i j || (dstNe q.o d && (not (hasB q.lk d) || (hasB q.em j || hasB p.em i)))) ls 0
def okG (ls : List Pt) : Bool := allI (fun j p => Nat.blt p.em (bit j) && okW ls j p) ls 0
/-- what may be run ahead -/
def passS : List Pt → Nat → Nat → List Nat → List Nat × Nat
  | [], _, D, acc => (acc, D)
  | p :: r, i, D, acc => cond (not (hasB D i) && (not (Nat.beq p.kd 2) && subB p.em D)) (passS r (Nat.succ i) (Nat.lor D (bit i)) (i :: acc)) (passS r (Nat.succ i) D acc)
def nextE : List Pt → Nat → Nat → Option Nat
  | [], _, _ => none
  | p :: r, i, D => cond (not (hasB D i) && Nat.beq p.kd 2) (some i) (nextE r (Nat.succ i) D)
def revN : List Nat → List Nat → List Nat
  | [], b => b
  | x :: r, b => revN r (x :: b)
def mkS (ls : List Pt) : Nat → Nat → List Nat
  | 0, _ => []
  | f + 1, D => match passS ls 0 D [] with
    | (acc, D) => revN acc (match nextE ls 0 D with | none => [] | some e => e :: mkS ls f (Nat.lor D (bit e)))
/-- by the guard -/
noncomputable def gdK (ops : List Oper) (o : Oper) : Bx (Fr → (Unit → R) → (Unit → R) → R) :=
  match o.guard with
  | none => ⟨fun _ y _ => y ()⟩
  | some (j, want) => match (nth' ops j).bind (·.dst) with
    | some t => ⟨fun fr y n => (Fr.get (path t)).run fr fun g => match g with
      | .bool b => cond (cond want b (not b)) (y ()) (n ())
      | .float _ _ => false
      | _ => n ()⟩
    | none => ⟨fun _ _ n => n ()⟩
def sameW (d : Option Tmp) (v u : Value) : Bool := match d with
  | none => true
  | some _ => same1 8 v u
def sameD (d : Option Tmp) : Bx (Value → Fr → R) := match d with
  | none => ⟨fun _ _ => true⟩
  | some d => ⟨fun v fr => (Fr.get (path d)).run fr fun u => same1 8 v u⟩
/-- the floats that may come behind an effect, once more -/
noncomputable def chkC (P : Program) (ops : List Oper) : List Pt → Bx (CallT → Fr → AW → R → R)
  | [] => ⟨fun _ _ _ k => k⟩
  | p :: r => ⟨fun call fr w k => cond ((gdK ops p.o).run fr (fun _ => (compOp P p.o).run call fr w fun v _ => (sameD p.o.dst).run v fr) (fun _ => (sameD p.o.dst).run undef fr)) ((chkC P ops r).run call fr w k) false⟩
abbrev Pd := List (Nat × AO)
noncomputable def layK (m b : Nat) (pd : Pd) (w : AW) (k : Pd → AW → R) : R :=
  List.rec (motive := fun _ => Pd → AW → R) (fun acc w => k acc w) (fun x _ ih acc w => cond (hasB m x.1) (w.put (Nat.add b x.1) x.2 fun w => ih acc w) (ih (x :: acc) w)) pd [] w
def sameAO (x y : AO) : Bool := match x with
  | .cells vs e lo hi => (match y with | .cells us f l h => Nat.beq e f && (Nat.beq lo l && (Nat.beq hi h && sameL (same1 8) vs us)) | _ => false)
  | _ => false
def badR : Bx (CallT → Nat → Fr → Pd → AW → (Fr → AW → R) → R) := ⟨fun _ _ _ _ _ _ => false⟩
noncomputable def compP (P : Program) (ops : List Oper) (ls : List Pt) : List Nat → Nat → Nat → Bx (CallT → Nat → Fr → Pd → AW → (Fr → AW → R) → R)
  | [], D, X => cond (allI (fun i _ => hasB D i) ls 0) ⟨fun _ b fr pd w k => layK D b pd w fun _ w => k fr w⟩ badR
  | i :: S, D, X => match nth' ls i with
    | none => badR
    | some p => cond (not (hasB D i) && (subB p.em D && subB (Nat.land p.lk (wm ls 0 D)) (wm ls 0 p.em)))
      (cond (Nat.beq p.kd 0) ⟨fun call b fr pd w k => (gdK ops p.o).run fr
          (fun _ => (compOp P p.o).run call fr w fun v _ => cond ((compOp P p.o).run call fr w fun v' _ => sameW p.o.dst v' v) ((put p.o.dst).run v fr fun fr => (compP P ops ls S (Nat.lor D (bit i)) X).run call b fr pd w k) false)
          (fun _ => (put p.o.dst).run undef fr fun fr => (compP P ops ls S (Nat.lor D (bit i)) X).run call b fr pd w k)⟩
        (cond (Nat.beq p.kd 1) ⟨fun call b fr pd w k => (gdK ops p.o).run fr
            (fun _ => (compOp P p.o).run call fr ⟨.lf, Nat.add b i⟩ fun v w1 => w1.get (Nat.add b i) fun ao => cond ((compOp P p.o).run call fr ⟨.lf, Nat.add b i⟩ fun v' w1' => w1'.get (Nat.add b i) fun ao' => same1 8 v' v && sameAO ao' ao)
              ((put p.o.dst).run v fr fun fr => (compP P ops ls S (Nat.lor D (bit i)) X).run call b fr ((i, ao) :: pd) w k) false)
            (fun _ => (put p.o.dst).run undef fr fun fr => (compP P ops ls S (Nat.lor D (bit i)) X).run call b fr pd w k)⟩
          (compE P ops ls p i (compP P ops ls S (Nat.lor D (bit i)) (Nat.lor X (closeM (revI ls 0 []) (Nat.lor p.em (bit i))))) D (Nat.lor X (closeM (revI ls 0 []) (Nat.lor p.em (bit i)))))))
      badR
where
  compE (P : Program) (ops : List Oper) (ls : List Pt) (p : Pt) (i : Nat) (rest : Bx (CallT → Nat → Fr → Pd → AW → (Fr → AW → R) → R)) (D X' : Nat) : Bx (CallT → Nat → Fr → Pd → AW → (Fr → AW → R) → R) :=
    cond (allI (fun j q => Nat.beq j i || (hasB D j || not (subB q.em D))) ls 0 && allI (fun j q => not (hasB D j && (Nat.beq q.kd 0 && not (hasB X' j))) || subB (Nat.land q.lk (wm ls 0 (Nat.lor D (bit i)))) (wm ls 0 q.em)) ls 0)
      ⟨fun call b fr pd w k => layK X' b pd w fun pd w => (gdK ops p.o).run fr
        (fun _ => (compOp P p.o).run call fr w fun v w => (put p.o.dst).run v fr fun fr => (chkC P ops (openF D X' ls 0)).run call fr w (rest.run call b fr pd w k))
        (fun _ => (put p.o.dst).run undef fr fun fr => (chkC P ops (openF D X' ls 0)).run call fr w (rest.run call b fr pd w k))⟩ badR
def cntA (ls : List Pt) : Nat := cond (allI (fun _ p => not (Nat.beq p.kd 1)) ls 0) 0 ls.length
noncomputable def compR (P : Program) (ops : List Oper) (ls : List Pt) : Bx (CallT → Fr → AW → (Fr → AW → R) → R) :=
  cond (okG ls) ⟨fun call fr w k => natK w.nx fun b => natK (Nat.add b (cntA ls)) fun b' => (compP P ops ls (mkS ls (Nat.succ ls.length) 0) 0 0).run call b fr [] ⟨w.h, b'⟩ k⟩ ⟨fun _ _ _ _ => false⟩
abbrev KN := Fr → AW → R
abbrev KX := Nat → Fr → AW → R
abbrev Cc := Bx (CallT → Fr → AW → KN → KX → KN → R)
noncomputable def loopK (body : Fr → AW → KN → R) (n : Nat) : Fr → AW → R :=
  Nat.rec (motive := fun _ => Fr → AW → R) (fun _ _ => false) (fun _ ih fr w => body fr w ih) n
noncomputable def comp (P : Program) : Code → Cc
  | .skip => ⟨fun _ fr w kn _ _ => kn fr w⟩
  | .region _ ops d => cond d ⟨fun call fr w kn _ _ => (compR P ops.toList (ops.toList.map (mkPt P ops.toList))).run call fr w kn⟩ ⟨fun call fr w kn _ _ => (compOps P ops.toList ops.toList).run call fr w kn⟩
  | .seq a b => ⟨fun call fr w kn kx kr => (comp P a).run call fr w (fun fr w => (comp P b).run call fr w kn kx kr) kx kr⟩
  | .cond c x y => ⟨fun call fr w kn kx kr => (opd c).run fr fun v => boolK v fun b => cond b ((comp P x).run call fr w kn kx kr) ((comp P y).run call fr w kn kx kr)⟩
  | .block id b => ⟨fun call fr w kn kx kr => (comp P b).run call fr w kn (fun i fr w => cond (Nat.beq i id) (kn fr w) (kx i fr w)) kr⟩
  | .loop b => ⟨fun call fr w kn kx kr => loopK (fun fr w k => (comp P b).run call fr w k kx kr) 3000 fr w⟩
  | .exit id => ⟨fun _ fr w _ kx _ => kx id fr w⟩
  | .scope b => comp P b
  | .label _ => ⟨fun _ fr w kn _ _ => kn fr w⟩
  | .ret => ⟨fun _ fr w _ _ kr => kr fr w⟩
  | _ => ⟨fun _ _ _ _ _ _ => false⟩
noncomputable def res1 (P : Program) (r : ResultVar) : Bx (Fr → AW → (Value → R) → R) :=
  match r with
  | .tmp t => ⟨fun fr _ k => (Fr.get (path t)).run fr k⟩
  | .cell a t => (match aggB P t with
    | some (true, n) => ⟨fun fr w k => (Fr.get (path a)).run fr fun x => loadAgg n x w fun v _ => k v⟩
    | some (false, _) => ⟨fun fr w k => (Fr.get (path a)).run fr fun x => loadOne x w fun v _ => k v⟩
    | none => ⟨fun _ _ _ => false⟩)
noncomputable def resK (P : Program) : List ResultVar → Bx (Fr → AW → (List Value → R) → R)
  | [] => ⟨fun _ _ k => k []⟩
  | r :: l => ⟨fun fr w k => (res1 P r).run fr w fun v => (resK P l).run fr w fun vs => k (v :: vs)⟩
def tupK (l : List Value) (k : Value → R) : R := match l with | [v] => k v | l => k (.tuple ⟨l⟩)
noncomputable def initGo (args : List Value) (k : Fr → R) : R :=
  List.rec (motive := fun _ => Nat → Fr → R) (fun _ fr => k fr) (fun v _ ih i fr => (Fr.set (path i)).run v fr fun fr => ih (Nat.succ i) fr) args 0 .lf
def okT (N : Nat) : Operand → Bool
  | .tmp t => Nat.blt t N
  | _ => true
def okOp (N : Nat) (o : Oper) : Bool := (match o.dst with | some d => Nat.blt d N | none => true) && (opL o.op).all (okT N)
def okC (N : Nat) : Code → Bool
  | .region _ ops _ => ops.toList.all (okOp N)
  | .seq a b => okC N a && okC N b
  | .cond c x y => okT N c && (okC N x && okC N y)
  | .block _ b => okC N b
  | .loop b => okC N b
  | .scope b => okC N b
  | _ => true
def okR (N : Nat) : ResultVar → Bool
  | .tmp t => Nat.blt t N
  | .cell t _ => Nat.blt t N
noncomputable def compFn (P : Program) (f : FuncId) : Bx (CallT → List Value → AW → (Value → AW → R) → R) :=
  match nth' P.funcs.toList f with
  | none => ⟨fun _ _ _ _ => false⟩
  | some fn => match fn.body with
    | some c => cond (Nat.ble fn.ntmps 16000 && (okC fn.ntmps c && (fn.results.toList.all (okR fn.ntmps) && not (fn.name == "runtime.NumGoroutine"))))
      ⟨fun call args w k => lenK args fun n => cond (Nat.ble n fn.ntmps) (initGo args fun fr => (comp P c).run call fr w (fun fr w => (resK P fn.results.toList).run fr w fun l => tupK l fun v => k v w) (fun _ _ _ => false) (fun fr w => (resK P fn.results.toList).run fr w fun l => tupK l fun v => k v w)) false⟩
      ⟨fun _ _ _ _ => false⟩
    | none => ⟨fun _ _ _ _ => false⟩
abbrev Hooks := FuncId → Option (List Value → AW → (Value → AW → R) → R)
noncomputable def evF (P : Program) (H : Hooks) (n : Nat) : CallT :=
  Nat.rec (motive := fun _ => CallT) (fun _ _ _ _ => false) (fun _ ih f args w k => match H f with | some h => h args w k | none => (compFn P f).run ih args w k) n
/-! ### Hooks -/
/-- internal/abi.NoEscape -/
def hSame (args : List Value) (w : AW) (k : Value → AW → R) : R := match args with | [x] => k x w | _ => false
noncomputable def hMakeNoZero (e : TypeId) (args : List Value) (w : AW) (k : Value → AW → R) : R :=
  match args with
  | [.int .i64 n] => idxK (.int .i64 n) fun n => cond (Nat.ble n 1000000) (repK [anyI .u8] n fun cs => w.new (.cells cs e 0 0) fun b w => k (.slice (some ⟨b, 0, none⟩) n (Nat.add n big)) w) false
  | _ => false
def isTrue (v : Value) : R := match v with | .bool b => b | _ => false
end Go.Ek
namespace Go.Ek
set_option linter.unusedVariables false
set_option linter.unusedSimpArgs false

/-! ### Frames -/
def getF : List Bool → Fr → Value
  | _, .lf => undef
  | [], .nd v _ _ => v
  | true :: p, .nd _ l _ => getF p l
  | false :: p, .nd _ _ r => getF p r
def setF : List Bool → Value → Fr → Fr
  | [], v, .lf => .nd v .lf .lf
  | [], v, .nd _ l r => .nd v l r
  | true :: p, v, .lf => .nd undef (setF p v .lf) .lf
  | false :: p, v, .lf => .nd undef .lf (setF p v .lf)
  | true :: p, v, .nd x l r => .nd x (setF p v l) r
  | false :: p, v, .nd x l r => .nd x l (setF p v r)
theorem get_run : ∀ (p : List Bool) (fr : Fr) (k : Value → R), (Fr.get p).run fr k = k (getF p fr)
  | [], .lf, k => rfl
  | [], .nd v l r, k => rfl
  | true :: p, .lf, k => rfl
  | true :: p, .nd v l r, k => get_run p l k
  | false :: p, .lf, k => rfl
  | false :: p, .nd v l r, k => get_run p r k
theorem set_run : ∀ (p : List Bool) (v : Value) (fr : Fr) (k : Fr → R), (Fr.set p).run v fr k = k (setF p v fr)
  | [], v, .lf, k => rfl
  | [], v, .nd _ l r, k => rfl
  | true :: p, v, .lf, k => set_run p v .lf _
  | true :: p, v, .nd x l r, k => set_run p v l _
  | false :: p, v, .lf, k => set_run p v .lf _
  | false :: p, v, .nd x l r, k => set_run p v r _
theorem getF_lf (p : List Bool) : getF p .lf = undef := by cases p <;> rfl
theorem getF_setF : ∀ (p q : List Bool) (v : Value) (fr : Fr), getF q (setF p v fr) = if q = p then v else getF q fr
  | [], [], v, .lf => rfl
  | [], [], v, .nd _ l r => rfl
  | [], true :: q, v, .lf => by simp [setF, getF, getF_lf]
  | [], false :: q, v, .lf => by simp [setF, getF, getF_lf]
  | [], true :: q, v, .nd _ l r => by simp [setF, getF]
  | [], false :: q, v, .nd _ l r => by simp [setF, getF]
  | true :: p, [], v, .lf => by simp [setF, getF]
  | true :: p, [], v, .nd _ l r => by simp [setF, getF]
  | false :: p, [], v, .lf => by simp [setF, getF]
  | false :: p, [], v, .nd _ l r => by simp [setF, getF]
  | true :: p, true :: q, v, .lf => by simp [setF, getF, getF_setF p q, getF_lf]
  | true :: p, false :: q, v, .lf => by simp [setF, getF, getF_lf]
  | false :: p, true :: q, v, .lf => by simp [setF, getF, getF_lf]
  | false :: p, false :: q, v, .lf => by simp [setF, getF, getF_setF p q, getF_lf]
  | true :: p, true :: q, v, .nd x l r => by simp [setF, getF, getF_setF p q]
  | true :: p, false :: q, v, .nd x l r => by simp [setF, getF]
  | false :: p, true :: q, v, .nd x l r => by simp [setF, getF]
  | false :: p, false :: q, v, .nd x l r => by simp [setF, getF, getF_setF p q]
theorem beq_n (a b : Nat) : Nat.beq a b = decide (a = b) := by
  rw [Bool.eq_iff_iff, decide_eq_true_eq]
  exact Nat.beq_eq ▸ Iff.rfl
theorem ble_n (a b : Nat) : Nat.ble a b = decide (a ≤ b) := by
  rw [Bool.eq_iff_iff, decide_eq_true_eq, Nat.ble_eq]
theorem blt_n (a b : Nat) : Nat.blt a b = decide (a < b) := by
  unfold Nat.blt
  rw [ble_n]
  rfl
theorem pathGo_inj : ∀ (f n m : Nat), 1 ≤ n → 1 ≤ m → n < 2 ^ f → m < 2 ^ f → pathGo f n = pathGo f m → n = m := by
  intro f
  induction f with
  | zero => intro n m h1 h2 h3 h4; simp at h3 h4; omega
  | succ f ih =>
    intro n m h1 h2 h3 h4 h
    simp only [pathGo, beq_n] at h
    rw [Nat.pow_succ] at h3 h4
    have e1 : Nat.mod n 2 = n % 2 := rfl
    have e2 : Nat.mod m 2 = m % 2 := rfl
    have e3 : Nat.div n 2 = n / 2 := rfl
    have e4 : Nat.div m 2 = m / 2 := rfl
    rw [e1, e2, e3, e4] at h
    by_cases hn : n = 1
    · by_cases hm : m = 1
      · omega
      · simp [hn, hm] at h
    · by_cases hm : m = 1
      · simp [hn, hm] at h
      · simp only [hn, hm, decide_false, cond_false, List.cons.injEq, decide_eq_decide] at h
        have := ih (n / 2) (m / 2) (by omega) (by omega) (by omega) (by omega) h.2
        omega
theorem path_inj {t u : Nat} (ht : t < 16000) (hu : u < 16000) (h : path t = path u) : t = u := by
  have := pathGo_inj 14 (t + 1) (u + 1) (by omega) (by omega) (by omega) (by omega) h
  omega

/-! ### Lists -/
theorem nthK_ok {α : Type} {k : α → R} : ∀ (l : List α) (n : Nat), nthK l n k = true → ∃ v, l[n]? = some v ∧ k v = true
  | [], n, h => by simp [nthK] at h
  | x :: l, 0, h => ⟨x, rfl, h⟩
  | x :: l, n + 1, h => by
    obtain ⟨v, h1, h2⟩ := nthK_ok l n h
    exact ⟨v, by simpa using h1, h2⟩
theorem dropK_ok {α : Type} {k : List α → R} : ∀ (l : List α) (n : Nat), dropK l n k = true → n ≤ l.length ∧ k (l.drop n) = true
  | [], 0, h => ⟨Nat.le_refl _, h⟩
  | [], n + 1, h => by simp [dropK] at h
  | x :: l, 0, h => ⟨Nat.zero_le _, h⟩
  | x :: l, n + 1, h => by
    obtain ⟨h1, h2⟩ := dropK_ok l n h
    exact ⟨by simp; omega, h2⟩
theorem takeK_ok {α : Type} : ∀ (l : List α) (n : Nat) (k : List α → R), takeK l n k = true → n ≤ l.length ∧ k (l.take n) = true
  | [], 0, k, h => ⟨Nat.le_refl _, h⟩
  | [], n + 1, k, h => by simp [takeK] at h
  | x :: l, 0, k, h => ⟨Nat.zero_le _, h⟩
  | x :: l, n + 1, k, h => by
    obtain ⟨h1, h2⟩ := takeK_ok l n (fun r => k (x :: r)) h
    exact ⟨by simp; omega, h2⟩
theorem appK_eq {α : Type} : ∀ (a b : List α) (k : List α → R), appK a b k = k (a ++ b)
  | [], b, k => rfl
  | x :: a, b, k => appK_eq a b (fun r => k (x :: r))
theorem setK_ok {α : Type} : ∀ (l : List α) (n : Nat) (vs : List α) (k : List α → R), setK l n vs k = true →
    (vs = [] ∨ n + vs.length ≤ l.length) ∧ ∃ r, k r = true ∧ r.length = l.length ∧ ∀ i, r[i]? = if n ≤ i ∧ i < n + vs.length then vs[i - n]? else l[i]?
  | [], n, [], k, h => ⟨.inl rfl, [], h, rfl, fun i => by simp⟩
  | [], n, v :: vs, k, h => by simp [setK] at h
  | x :: l, 0, [], k, h => ⟨.inl rfl, x :: l, h, rfl, fun i => by simp⟩
  | x :: l, 0, v :: vs, k, h => by
    obtain ⟨h1, r, h2, h3, h4⟩ := setK_ok l 0 vs (fun r => k (v :: r)) h
    refine ⟨.inr ?_, v :: r, h2, by simp [h3], fun i => ?_⟩
    · rcases h1 with rfl | h1
      · simp
      · simp at h1 ⊢; omega
    · cases i with
      | zero => simp
      | succ i => simpa using h4 i
  | x :: l, n + 1, vs, k, h => by
    obtain ⟨h1, r, h2, h3, h4⟩ := setK_ok l n vs (fun r => k (x :: r)) h
    refine ⟨h1.imp id (fun h => by simp; omega), x :: r, h2, by simp [h3], fun i => ?_⟩
    cases i with
    | zero => simp
    | succ i =>
      have := h4 i
      simp only [List.getElem?_cons_succ]
      rw [this]
      by_cases hc : n ≤ i ∧ i < n + vs.length
      · rw [if_pos hc, if_pos (by omega)]
        congr 1; omega
      · rw [if_neg hc, if_neg (by omega)]
theorem lenK_go {α : Type} (k : Nat → R) : ∀ (l : List α) (n : Nat), List.rec (motive := fun _ => Nat → R) (fun n => k n) (fun _ _ ih n => ih (Nat.succ n)) l n = k (n + l.length)
  | [], n => rfl
  | x :: l, n => by
    show List.rec (motive := fun _ => Nat → R) (fun n => k n) (fun _ _ ih n => ih (Nat.succ n)) l (Nat.succ n) = _
    rw [lenK_go k l (Nat.succ n)]
    congr 1
    simp; omega
theorem lenK_eq {α : Type} (l : List α) (k : Nat → R) : lenK l k = k l.length := by
  unfold lenK
  rw [lenK_go, Nat.zero_add]
theorem natK_eq (n : Nat) (k : Nat → R) : natK n k = k n := by cases n <;> rfl
theorem mapK_eq {α β : Type} (f : α → β) : ∀ (l : List α) (k : List β → R), mapK f l k = k (l.map f)
  | [], k => rfl
  | x :: l, k => mapK_eq f l (fun r => k (f x :: r))
def repL {α : Type} (l : List α) : Nat → List α
  | 0 => []
  | n + 1 => l ++ repL l n
theorem repK_eq {α : Type} (l : List α) : ∀ (n : Nat) (k : List α → R), repK l n k = k (repL l n)
  | 0, k => rfl
  | n + 1, k => by
    show repK l n (fun r => appK l r k) = _
    rw [repK_eq l n, appK_eq]
    rfl

/-! ### The heap's tree -/
def Tr.get : Tr → Nat → Option AO
  | .lf, _ => none
  | .nd v l r, n => if n = 1 then v else if n % 2 = 1 then r.get (n / 2) else l.get (n / 2)
theorem getK_ok {k : AO → R} : ∀ (t : Tr) (n : Nat), t.getK n k = true → ∃ o, t.get n = some o ∧ k o = true
  | .lf, n, h => by simp [Tr.getK] at h
  | .nd v l r, n, h => by
    have h' : cond (Nat.beq n 1) (Option.casesOn v false k) (cond (Nat.beq (Nat.mod n 2) 1) (r.getK (Nat.div n 2) k) (l.getK (Nat.div n 2) k)) = true := h
    rw [beq_n, beq_n] at h'
    unfold Tr.get
    by_cases h1 : n = 1
    · simp only [h1, decide_true, cond_true, if_true] at h' ⊢
      cases v with
      | none => cases h'
      | some o => exact ⟨o, rfl, h'⟩
    · simp only [h1, decide_false, cond_false, if_false] at h' ⊢
      by_cases h2 : n % 2 = 1
      · have e : Nat.mod n 2 = 1 := h2
        simp only [e, decide_true, cond_true] at h'
        simp only [h2, if_true]
        exact getK_ok r _ h'
      · have e : ¬ Nat.mod n 2 = 1 := h2
        simp only [e, decide_false, cond_false] at h'
        simp only [h2, if_false]
        exact getK_ok l _ h'
theorem trSet_ok (x : AO) : ∀ (f n : Nat) (t : Tr) (k : Tr → R), Tr.setK f n x t k = true → ∃ t', k t' = true ∧ ∀ m, t'.get m = if m = n then some x else t.get m
  | 0, n, t, k, h => by simp [Tr.setK] at h
  | f + 1, n, t, k, h => by
    cases t with
    | lf =>
      have h' : cond (Nat.beq n 1) (k (.nd (some x) .lf .lf)) (cond (Nat.beq (Nat.mod n 2) 1) (Tr.setK f (Nat.div n 2) x .lf fun r => k (.nd none .lf r)) (Tr.setK f (Nat.div n 2) x .lf fun l => k (.nd none l .lf))) = true := h
      rw [beq_n, beq_n] at h'
      by_cases h1 : n = 1
      · simp only [h1, decide_true, cond_true] at h'
        refine ⟨_, h', fun m => ?_⟩
        simp only [Tr.get, h1]
        by_cases hm : m = 1 <;> simp [hm]
      · simp only [h1, decide_false, cond_false] at h'
        by_cases h2 : n % 2 = 1
        · have e : Nat.mod n 2 = 1 := h2
          simp only [e, decide_true, cond_true] at h'
          obtain ⟨t', h3, h4⟩ := trSet_ok x f _ _ _ h'
          refine ⟨_, h3, fun m => ?_⟩
          have e2 : Nat.div n 2 = n / 2 := rfl
          simp only [Tr.get] at h4 ⊢
          by_cases hm : m = 1
          · simp [hm]; omega
          · by_cases hm2 : m % 2 = 1
            · simp only [hm, hm2, if_true, if_false, h4, e2]
              by_cases e3 : m = n
              · simp [e3]
              · rw [if_neg (by omega), if_neg e3]
            · simp only [hm, hm2, if_false]
              rw [if_neg (by omega)]
        · have e : ¬ Nat.mod n 2 = 1 := h2
          simp only [e, decide_false, cond_false] at h'
          obtain ⟨t', h3, h4⟩ := trSet_ok x f _ _ _ h'
          refine ⟨_, h3, fun m => ?_⟩
          have e2 : Nat.div n 2 = n / 2 := rfl
          simp only [Tr.get] at h4 ⊢
          by_cases hm : m = 1
          · simp [hm]; omega
          · by_cases hm2 : m % 2 = 1
            · simp only [hm, hm2, if_true, if_false]
              rw [if_neg (by omega)]
            · simp only [hm, hm2, if_false, h4, e2]
              by_cases e3 : m = n
              · simp [e3]
              · rw [if_neg (by omega), if_neg e3]
    | nd v l r =>
      have h' : cond (Nat.beq n 1) (k (.nd (some x) l r)) (cond (Nat.beq (Nat.mod n 2) 1) (Tr.setK f (Nat.div n 2) x r fun r => k (.nd v l r)) (Tr.setK f (Nat.div n 2) x l fun l => k (.nd v l r))) = true := h
      rw [beq_n, beq_n] at h'
      by_cases h1 : n = 1
      · simp only [h1, decide_true, cond_true] at h'
        refine ⟨_, h', fun m => ?_⟩
        simp only [Tr.get, h1]
        by_cases hm : m = 1 <;> simp [hm]
      · simp only [h1, decide_false, cond_false] at h'
        by_cases h2 : n % 2 = 1
        · have e : Nat.mod n 2 = 1 := h2
          simp only [e, decide_true, cond_true] at h'
          obtain ⟨t', h3, h4⟩ := trSet_ok x f _ _ _ h'
          refine ⟨_, h3, fun m => ?_⟩
          have e2 : Nat.div n 2 = n / 2 := rfl
          simp only [Tr.get] at h4 ⊢
          by_cases hm : m = 1
          · simp [hm]; omega
          · by_cases hm2 : m % 2 = 1
            · simp only [hm, hm2, if_true, if_false, h4, e2]
              by_cases e3 : m = n
              · simp [e3]
              · rw [if_neg (by omega), if_neg e3]
            · simp only [hm, hm2, if_false]
              rw [if_neg (by omega)]
        · have e : ¬ Nat.mod n 2 = 1 := h2
          simp only [e, decide_false, cond_false] at h'
          obtain ⟨t', h3, h4⟩ := trSet_ok x f _ _ _ h'
          refine ⟨_, h3, fun m => ?_⟩
          have e2 : Nat.div n 2 = n / 2 := rfl
          simp only [Tr.get] at h4 ⊢
          by_cases hm : m = 1
          · simp [hm]; omega
          · by_cases hm2 : m % 2 = 1
            · simp only [hm, hm2, if_true, if_false]
              rw [if_neg (by omega)]
            · simp only [hm, hm2, if_false, h4, e2]
              by_cases e3 : m = n
              · simp [e3]
              · rw [if_neg (by omega), if_neg e3]
end Go.Ek
namespace Go.Ek
set_option linter.unusedVariables false
set_option linter.unusedSimpArgs false

/-! ### Values -/
structure Ren where
  m : Nat → Option Nat
  rm : Nat → Nat
instance : CoeFun Ren (fun _ => Nat → Option Nat) := ⟨Ren.m⟩
/-- The room of a slice whose cap is not known. -/
def RmR (r o m m' : Nat) : Prop := big ≤ m → o = 0 → m' ≤ r
theorem RmR.small {r o m m' : Nat} (h : m < big) : RmR r o m m' := fun h2 => absurd h2 (Nat.not_le.2 h)
def CapR (m m' : Nat) : Prop := if big ≤ m then m - big ≤ m' else m' = m
/-- Lists of values, the evaluator's and the machine's: the same but for blocks' numbers and caps. -/
inductive VRs (β : Ren) : List Value → List Value → Prop
  | nil : VRs β [] []
  | bool (b : Bool) {vs ws} : VRs β vs ws → VRs β (.bool b :: vs) (.bool b :: ws)
  | int (k : IntKind) (n : Int) {vs ws} : VRs β vs ws → VRs β (.int k n :: vs) (.int k n :: ws)
  | string (s : ByteArray) {vs ws} : VRs β vs ws → VRs β (.string s :: vs) (.string s :: ws)
  | ptrN {vs ws} : VRs β vs ws → VRs β (.pointer none :: vs) (.pointer none :: ws)
  | ptr {b c : Nat} (o : Nat) {vs ws} : β b = some c → VRs β vs ws → VRs β (.pointer (some ⟨b, o, none⟩) :: vs) (.pointer (some ⟨c, o, none⟩) :: ws)
  | sliceN (n : Nat) {m : Nat} {vs ws} : m < big → VRs β vs ws → VRs β (.slice none n m :: vs) (.slice none n m :: ws)
  | slice {b c : Nat} (o n : Nat) {m m' : Nat} {vs ws} : β b = some c → CapR m m' → RmR (β.rm b) o m m' → VRs β vs ws → VRs β (.slice (some ⟨b, o, none⟩) n m :: vs) (.slice (some ⟨c, o, none⟩) n m' :: ws)
  | mapN {vs ws} : VRs β vs ws → VRs β (.map none :: vs) (.map none :: ws)
  | map {r c : Nat} {vs ws} : β r = some c → VRs β vs ws → VRs β (.map (some r) :: vs) (.map (some c) :: ws)
  | func (f : FuncId) {a b c d : Array Value} {vs ws} : VRs β a.toList b.toList → VRs β c.toList d.toList → VRs β vs ws → VRs β (.func (.func f) a c :: vs) (.func (.func f) b d :: ws)
  | nilFunc {vs ws} : VRs β vs ws → VRs β (.nilFunc :: vs) (.nilFunc :: ws)
  | nilIface {vs ws} : VRs β vs ws → VRs β (.nilIface :: vs) (.nilIface :: ws)
  | iface (t : TypeId) {v v' : Value} {vs ws} : VRs β [v] [v'] → VRs β vs ws → VRs β (.iface t v :: vs) (.iface t v' :: ws)
  | agg {a b : Array Value} {vs ws} : VRs β a.toList b.toList → VRs β vs ws → VRs β (.agg a :: vs) (.agg b :: ws)
  | tuple {a b : Array Value} {vs ws} : VRs β a.toList b.toList → VRs β vs ws → VRs β (.tuple a :: vs) (.tuple b :: ws)
  | anyInt (k : IntKind) (n : Int) {vs ws} : VRs β vs ws → VRs β (.float .f64 (kidx k) :: vs) (.int k n :: ws)
  | anyBool (b : Bool) {vs ws} : VRs β vs ws → VRs β (.float .f32 0 :: vs) (.bool b :: ws)
  | anyStr (s : ByteArray) {vs ws} : VRs β vs ws → VRs β (.float .f32 1 :: vs) (.string s :: ws)
  | anyLt (m : Nat) (n : Int) {vs ws} : n < m → VRs β vs ws → VRs β (.complex .f32 0 m :: vs) (.int .i64 n :: ws)
  | anyGe (m : Nat) (n : Int) {vs ws} : (m : Int) ≤ n → VRs β vs ws → VRs β (.complex .f32 1 m :: vs) (.int .i64 n :: ws)
  | anyIn (lo hi : Nat) (n : Int) {vs ws} : (lo : Int) ≤ n → n ≤ hi → VRs β vs ws → VRs β (.complex .f32 (lo + 2) hi :: vs) (.int .i64 n :: ws)
  | anyEmp (a : Addr) (m : Nat) {vs ws} : VRs β vs ws → VRs β (.chan none :: vs) (.slice (some a) 0 m :: ws)
  | anyMod (m r n : Nat) {vs ws} : n % m = r → n < 256 → VRs β vs ws → VRs β (.complex .f64 m r :: vs) (.int .u8 (.ofNat n) :: ws)
abbrev VR (β : Ren) (v w : Value) : Prop := VRs β [v] [w]
def Le (β β' : Ren) : Prop := ∀ n c, β n = some c → β' n = some c ∧ β'.rm n = β.rm n
theorem Le.refl (β : Ren) : Le β β := fun _ _ h => ⟨h, rfl⟩
theorem Le.trans {a b c : Ren} (h : Le a b) (k : Le b c) : Le a c := fun n d e => ⟨(k n d (h n d e).1).1, (k n d (h n d e).1).2.trans (h n d e).2⟩
theorem VRs.mono {β β' : Ren} (hl : Le β β') {vs ws : List Value} (h : VRs β vs ws) : VRs β' vs ws := by
  induction h with
  | nil => exact .nil
  | bool b _ ih => exact .bool b ih
  | int k n _ ih => exact .int k n ih
  | string s _ ih => exact .string s ih
  | ptrN _ ih => exact .ptrN ih
  | ptr o hb _ ih => exact .ptr o (hl _ _ hb).1 ih
  | sliceN n hm _ ih => exact .sliceN n hm ih
  | slice o n hb hm hr _ ih => exact .slice o n (hl _ _ hb).1 hm (by rw [(hl _ _ hb).2]; exact hr) ih
  | mapN _ ih => exact .mapN ih
  | map hb _ ih => exact .map (hl _ _ hb).1 ih
  | func f _ _ _ i1 i2 ih => exact .func f i1 i2 ih
  | nilFunc _ ih => exact .nilFunc ih
  | nilIface _ ih => exact .nilIface ih
  | iface t _ _ i1 ih => exact .iface t i1 ih
  | agg _ _ i1 ih => exact .agg i1 ih
  | tuple _ _ i1 ih => exact .tuple i1 ih
  | anyInt k n _ ih => exact .anyInt k n ih
  | anyBool b _ ih => exact .anyBool b ih
  | anyStr s _ ih => exact .anyStr s ih
  | anyMod m r n h1 h2 _ ih => exact .anyMod m r n h1 h2 ih
  | anyEmp a m _ ih => exact .anyEmp a m ih
  | anyIn lo hi n h1 h2 _ ih => exact .anyIn lo hi n h1 h2 ih
  | anyLt m n h1 _ ih => exact .anyLt m n h1 ih
  | anyGe m n h1 _ ih => exact .anyGe m n h1 ih
theorem VRs.cons {β : Ren} {v w : Value} {vs ws : List Value} (h : VR β v w) (hs : VRs β vs ws) : VRs β (v :: vs) (w :: ws) := by
  cases h with
  | bool b _ => exact .bool b hs
  | int k n _ => exact .int k n hs
  | string s _ => exact .string s hs
  | ptrN _ => exact .ptrN hs
  | ptr o hb _ => exact .ptr o hb hs
  | sliceN n hm _ => exact .sliceN n hm hs
  | slice o n hb hm hr _ => exact .slice o n hb hm hr hs
  | mapN _ => exact .mapN hs
  | map hb _ => exact .map hb hs
  | func f i1 i2 _ => exact .func f i1 i2 hs
  | nilFunc _ => exact .nilFunc hs
  | nilIface _ => exact .nilIface hs
  | iface t i1 _ => exact .iface t i1 hs
  | agg i1 _ => exact .agg i1 hs
  | tuple i1 _ => exact .tuple i1 hs
  | anyInt k n _ => exact .anyInt k n hs
  | anyBool b _ => exact .anyBool b hs
  | anyStr s _ => exact .anyStr s hs
  | anyMod m r n h1 h2 _ => exact .anyMod m r n h1 h2 hs
  | anyEmp a m _ => exact .anyEmp a m hs
  | anyIn lo hi n h1 h2 _ => exact .anyIn lo hi n h1 h2 hs
  | anyLt m n h1 _ => exact .anyLt m n h1 hs
  | anyGe m n h1 _ => exact .anyGe m n h1 hs
theorem VRs.uncons {β : Ren} {v : Value} {vs ws : List Value} (h : VRs β (v :: vs) ws) : ∃ w ws', ws = w :: ws' ∧ VR β v w ∧ VRs β vs ws' := by
  cases h with
  | bool b h => exact ⟨_, _, rfl, .bool b .nil, h⟩
  | int k n h => exact ⟨_, _, rfl, .int k n .nil, h⟩
  | string s h => exact ⟨_, _, rfl, .string s .nil, h⟩
  | ptrN h => exact ⟨_, _, rfl, .ptrN .nil, h⟩
  | ptr o hb h => exact ⟨_, _, rfl, .ptr o hb .nil, h⟩
  | sliceN n hm h => exact ⟨_, _, rfl, .sliceN n hm .nil, h⟩
  | slice o n hb hm hr h => exact ⟨_, _, rfl, .slice o n hb hm hr .nil, h⟩
  | mapN h => exact ⟨_, _, rfl, .mapN .nil, h⟩
  | map hb h => exact ⟨_, _, rfl, .map hb .nil, h⟩
  | func f i1 i2 h => exact ⟨_, _, rfl, .func f i1 i2 .nil, h⟩
  | nilFunc h => exact ⟨_, _, rfl, .nilFunc .nil, h⟩
  | nilIface h => exact ⟨_, _, rfl, .nilIface .nil, h⟩
  | iface t i1 h => exact ⟨_, _, rfl, .iface t i1 .nil, h⟩
  | agg i1 h => exact ⟨_, _, rfl, .agg i1 .nil, h⟩
  | tuple i1 h => exact ⟨_, _, rfl, .tuple i1 .nil, h⟩
  | anyInt k n h => exact ⟨_, _, rfl, .anyInt k n .nil, h⟩
  | anyBool b h => exact ⟨_, _, rfl, .anyBool b .nil, h⟩
  | anyStr s h => exact ⟨_, _, rfl, .anyStr s .nil, h⟩
  | anyMod m r n h1 h2 h => exact ⟨_, _, rfl, .anyMod m r n h1 h2 .nil, h⟩
  | anyEmp a m h => exact ⟨_, _, rfl, .anyEmp a m .nil, h⟩
  | anyIn lo hi n h1 h2 h => exact ⟨_, _, rfl, .anyIn lo hi n h1 h2 .nil, h⟩
  | anyLt m n h1 h => exact ⟨_, _, rfl, .anyLt m n h1 .nil, h⟩
  | anyGe m n h1 h => exact ⟨_, _, rfl, .anyGe m n h1 .nil, h⟩
theorem VRs.length {β : Ren} {vs ws : List Value} (h : VRs β vs ws) : vs.length = ws.length := by
  induction vs generalizing ws with
  | nil => cases h; rfl
  | cons v vs ih =>
    obtain ⟨w, ws', rfl, _, h⟩ := h.uncons
    simp [ih h]
theorem VRs.get {β : Ren} {vs ws : List Value} (h : VRs β vs ws) : ∀ {i : Nat} {v : Value}, vs[i]? = some v → ∃ w, ws[i]? = some w ∧ VR β v w := by
  induction vs generalizing ws with
  | nil => intro i v hv; simp at hv
  | cons x vs ih =>
    obtain ⟨w, ws', rfl, h1, h⟩ := h.uncons
    intro i v hv
    cases i with
    | zero => simp at hv; subst hv; exact ⟨w, rfl, h1⟩
    | succ i => exact ih h (by simpa using hv)
theorem VRs.of_get {β : Ren} : ∀ {vs ws : List Value}, vs.length = ws.length → (∀ (i : Nat) (v w : Value), vs[i]? = some v → ws[i]? = some w → VR β v w) → VRs β vs ws
  | [], [], _, _ => .nil
  | [], _ :: _, h, _ => by simp at h
  | _ :: _, [], h, _ => by simp at h
  | v :: vs, w :: ws, h, k => .cons (k 0 v w rfl rfl) (VRs.of_get (by simpa using h) fun i a b ha hb => k (i + 1) a b (by simpa using ha) (by simpa using hb))
theorem VRs.append {β : Ren} {a b c d : List Value} (h : VRs β a b) (k : VRs β c d) : VRs β (a ++ c) (b ++ d) := by
  induction a generalizing b with
  | nil => cases h; exact k
  | cons v vs ih =>
    obtain ⟨w, ws', rfl, h1, h⟩ := h.uncons
    exact .cons h1 (ih h)
theorem VRs.take {β : Ren} {a b : List Value} (h : VRs β a b) (n : Nat) : VRs β (a.take n) (b.take n) := by
  induction a generalizing b n with
  | nil => cases h; simp; exact .nil
  | cons v vs ih =>
    obtain ⟨w, ws', rfl, h1, h⟩ := h.uncons
    cases n with
    | zero => exact .nil
    | succ n => exact .cons h1 (ih h n)
theorem VRs.drop {β : Ren} {a b : List Value} (h : VRs β a b) (n : Nat) : VRs β (a.drop n) (b.drop n) := by
  induction a generalizing b n with
  | nil => cases h; simp; exact .nil
  | cons v vs ih =>
    obtain ⟨w, ws', rfl, h1, h⟩ := h.uncons
    cases n with
    | zero => exact .cons h1 h
    | succ n => exact ih h n
theorem VRs.cellsL {β : Ren} {v w : Value} (h : VR β v w) : VRs β (Ek.cellsL v) w.cells.toList := by
  cases h with
  | agg i1 _ => exact i1
  | bool b _ => exact .bool b .nil
  | int k n _ => exact .int k n .nil
  | string s _ => exact .string s .nil
  | ptrN _ => exact .ptrN .nil
  | ptr o hb _ => exact .ptr o hb .nil
  | sliceN n hm _ => exact .sliceN n hm .nil
  | slice o n hb hm hr _ => exact .slice o n hb hm hr .nil
  | mapN _ => exact .mapN .nil
  | map hb _ => exact .map hb .nil
  | func f i1 i2 _ => exact .func f i1 i2 .nil
  | nilFunc _ => exact .nilFunc .nil
  | nilIface _ => exact .nilIface .nil
  | iface t i1 _ => exact .iface t i1 .nil
  | tuple i1 _ => exact .tuple i1 .nil
  | anyInt k n _ => exact .anyInt k n .nil
  | anyBool b _ => exact .anyBool b .nil
  | anyStr s _ => exact .anyStr s .nil
  | anyMod m r n h1 h2 _ => exact .anyMod m r n h1 h2 .nil
  | anyEmp a m _ => exact .anyEmp a m .nil
  | anyIn lo hi n h1 h2 _ => exact .anyIn lo hi n h1 h2 .nil
  | anyLt m n h1 _ => exact .anyLt m n h1 .nil
  | anyGe m n h1 _ => exact .anyGe m n h1 .nil
theorem big_pos : 0 < big := by decide
theorem plain1_ok {β : Ren} {v : Value} (h : plain1 v = true) : VR β v v := by
  cases v with
  | bool b => exact .bool b .nil
  | int k n => exact .int k n .nil
  | string s => exact .string s .nil
  | pointer a => cases a with
    | none => exact .ptrN .nil
    | some a => cases h
  | slice a n m =>
    have : a = none ∧ n = 0 ∧ m = 0 := by
      unfold plain1 at h
      split at h <;> first | (cases h; done) | (simp_all; done)
    obtain ⟨rfl, rfl, rfl⟩ := this
    exact .sliceN 0 big_pos .nil
  | map r => cases r with
    | none => exact .mapN .nil
    | some r => cases h
  | nilFunc => exact .nilFunc .nil
  | nilIface => exact .nilIface .nil
  | _ => cases h
theorem plains_ok {β : Ren} : ∀ {l : List Value}, l.all plain1 = true → VRs β l l
  | [], _ => .nil
  | v :: l, h => by
    simp only [List.all_cons, Bool.and_eq_true] at h
    exact .cons (plain1_ok h.1) (plains_ok h.2)
theorem plain_ok {β : Ren} {v : Value} (h : plain v = true) : VR β v v := by
  cases v with
  | agg cs => exact .agg (plains_ok h) .nil
  | tuple cs => exact .tuple (plains_ok h) .nil
  | bool b => exact plain1_ok h
  | int k n => exact plain1_ok h
  | string s => exact plain1_ok h
  | pointer a => exact plain1_ok h
  | slice a n m => exact plain1_ok h
  | map r => exact plain1_ok h
  | nilFunc => exact plain1_ok h
  | nilIface => exact plain1_ok h
  | _ => cases h
theorem undef_ok {β : Ren} : VR β undef undef := .tuple .nil .nil

/-! ### Objects, worlds -/
inductive ER (β : Ren) : List MapEntry → List MapEntry → Prop
  | nil : ER β [] []
  | cons {e f : MapEntry} {es fs : List MapEntry} : VR β e.key f.key → VR β e.val f.val → e.born = f.born → ER β es fs → ER β (e :: es) (f :: fs)
theorem ER.mono {β β' : Ren} (hl : Le β β') {a b : List MapEntry} (h : ER β a b) : ER β' a b := by
  induction h with
  | nil => exact .nil
  | cons h1 h2 h3 _ ih => exact .cons (h1.mono hl) (h2.mono hl) h3 ih
def CellsR (β : Ren) (vs : List Value) (c : Array Value) : Prop := ∀ (i : Nat) (v : Value), vs[i]? = some v → ∃ cv, c[i]? = some cv ∧ VR β v cv
def IterR (β : Ren) : Option Nat → Option Nat → Prop
  | none, m => m = none
  | some r, m => ∃ c, β r = some c ∧ m = some c
/-- The cells of a block that strings share. -/
def FzR (lo hi l h : Nat) : Prop := l ≤ h ∧ ∀ i, l ≤ i → i < h → lo ≤ i ∧ i < hi
theorem fz0 {lo hi : Nat} : FzR lo hi 0 0 := ⟨Nat.le_refl _, fun i _ h => absurd h (Nat.not_lt_zero _)⟩
def OR (β : Ren) : AO → Obj → Prop
  | .cells vs e lo hi, .cells c e' (l, h) => e' = e ∧ CellsR β vs c ∧ FzR lo hi l h
  | .ro vs, .cells c _ _ => CellsR β vs c
  | .map es c, .map fs d => d = c ∧ ER β es fs.toList
  | .siter s p, .stringIter t q => t = s ∧ q = p
  | .iter m since seen st, .mapIter m' since' seen' st' => IterR β m m' ∧ since' = since ∧ seen'.toList = seen ∧ st' = st
  | _, _ => False
theorem CellsR.mono {β β' : Ren} (hl : Le β β') {vs : List Value} {c : Array Value} (h : CellsR β vs c) : CellsR β' vs c := fun i v hv => by
  obtain ⟨cv, a, b⟩ := h i v hv
  exact ⟨cv, a, b.mono hl⟩
theorem IterR.mono {β β' : Ren} (hl : Le β β') : ∀ {m n : Option Nat}, IterR β m n → IterR β' m n
  | none, _, h => h
  | some _, _, ⟨c, a, b⟩ => ⟨c, (hl _ _ a).1, b⟩
theorem OR.mono {β β' : Ren} (hl : Le β β') {o : AO} {co : Obj} (h : OR β o co) : OR β' o co := by
  cases o with
  | cells vs e lo hi => cases co with
    | cells c e' f => exact ⟨h.1, h.2.1.mono hl, h.2.2⟩
    | _ => exact h.elim
  | ro vs => cases co with
    | cells c e' f => exact CellsR.mono hl h
    | _ => exact h.elim
  | map es c => cases co with
    | map fs d => exact ⟨h.1, h.2.mono hl⟩
    | _ => exact h.elim
  | siter s p => cases co with
    | stringIter t q => exact h
    | _ => exact h.elim
  | iter m a b c => cases co with
    | mapIter m' a' b' c' => exact ⟨h.1.mono hl, h.2⟩
    | _ => exact h.elim
  | dead => cases co <;> exact h.elim
def AO.fixed : AO → Bool
  | .ro _ => true
  | _ => false
def AO.alive : AO → Bool
  | .dead => false
  | _ => true
/-- What the evaluator's heap says nothing of, and must stay. -/
structure Keep (P : Program) where
  tape : Nat → Question → Nat
  os : Os
  output : Array (Nat × ByteArray)
  blk : Nat → Option Obj
  fix : Nat → Bool
  fixed : ∀ c, fix c = true → ∃ o, blk c = some o
  res : Nat → Prop
structure Rel {P : Program} (K : Keep P) (β : Ren) (aw : AW) (w : World) : Prop where
  tape : w.tape = K.tape
  os : w.os = K.os
  output : w.output = K.output
  keep : ∀ c o, K.blk c = some o → w.heap[c]? = some o
  obj : ∀ n o, aw.h.get (n + 1) = some o → o.alive = true → ∃ c co, β n = some c ∧ w.heap[c]? = some co ∧ OR β o co ∧ ((o.fixed = true ∧ K.fix c = true) ∨ K.blk c = none)
  inj : ∀ n m a b c, aw.h.get (n + 1) = some a → aw.h.get (m + 1) = some b → a.alive = true → b.alive = true → β n = some c → β m = some c → n = m
  fresh : ∀ n, aw.nx ≤ n → β n = none
  glob : ∀ g, g < 64 → β g = some g
  room : ∀ n vs e lo hi c C e' f, aw.h.get (n + 1) = some (.cells vs e lo hi) → β n = some c → w.heap[c]? = some (.cells C e' f) → β.rm n * P.cellsOf e ≤ C.size
  res : ∀ n, K.res n → n < aw.nx ∧ β n = none
theorem Rel.drew {P : Program} {K : Keep P} {β : Ren} {aw : AW} {w : World} (h : Rel K β aw w) (d : Nat) : Rel K β aw { w with drawn := d } :=
  ⟨h.tape, h.os, h.output, h.keep, h.obj, h.inj, h.fresh, h.glob, h.room, h.res⟩
/-- A new block. -/
theorem Rel.alloc {P : Program} {K : Keep P} {β : Ren} {aw : AW} {w : World} (h : Rel K β aw w) {o : AO} {co : Obj} {aw' : AW} (hoa : o.alive = true)
    (hget : ∀ m, aw'.h.get m = if m = aw.nx + 1 then some o else aw.h.get m) (hnx : aw'.nx = aw.nx + 1) (ho : OR β o co) (r : Nat) (hroom : ∀ vs e lo hi C e' f, o = .cells vs e lo hi → co = .cells C e' f → r * P.cellsOf e ≤ C.size) :
    Le β ⟨fun m => if m = aw.nx then some w.heap.size else β m, fun m => if m = aw.nx then r else β.rm m⟩ ∧ Rel K ⟨fun m => if m = aw.nx then some w.heap.size else β m, fun m => if m = aw.nx then r else β.rm m⟩ aw' (w.alloc co) := by
  have hle : Le β ⟨fun m => if m = aw.nx then some w.heap.size else β m, fun m => if m = aw.nx then r else β.rm m⟩ := fun n c hn => by
    have : n ≠ aw.nx := fun e => by rw [e, h.fresh _ (Nat.le_refl _)] at hn; cases hn
    simp only [this, if_false]
    exact ⟨hn, trivial⟩
  have hlt : ∀ c co', w.heap[c]? = some co' → c < w.heap.size := fun c co' hc => by
    rcases Nat.lt_or_ge c w.heap.size with hh | hh
    · exact hh
    · rw [Array.getElem?_eq_none hh] at hc; cases hc
  refine ⟨hle, ?_⟩
  constructor
  · exact h.tape
  · exact h.os
  · exact h.output
  · intro c o' hc
    have := h.keep c o' hc
    rw [heap_alloc_old _ _ _ (hlt _ _ this)]
    exact this
  · intro n o' hn ha
    rw [hget] at hn
    by_cases e : n = aw.nx
    · rw [if_pos (by omega)] at hn
      obtain rfl := Option.some.inj hn
      refine ⟨w.heap.size, co, by simp [e], heap_alloc_new w co, ho.mono hle, .inr ?_⟩
      cases hb : K.blk w.heap.size with
      | none => rfl
      | some b =>
        have := hlt _ _ (h.keep _ _ hb)
        omega
    · rw [if_neg (by omega)] at hn
      obtain ⟨c, co', h1, h2, h3, h4⟩ := h.obj n o' hn ha
      exact ⟨c, co', (hle _ _ h1).1, by rw [heap_alloc_old _ _ _ (hlt _ _ h2)]; exact h2, h3.mono hle, h4⟩
  · intro n m a b c hn hm ha hb h1 h2
    rw [hget] at hn hm
    have old : ∀ n a, n ≠ aw.nx → aw.h.get (n + 1) = some a → a.alive = true → (if n = aw.nx then some w.heap.size else β n) = some w.heap.size → False := by
      intro n a hne hn ha h1
      obtain ⟨c', co', h3, h4, _⟩ := h.obj n a hn ha
      rw [if_neg hne, h3] at h1
      obtain rfl := Option.some.inj h1
      exact absurd (hlt _ _ h4) (by omega)
    by_cases e : n = aw.nx
    · by_cases e2 : m = aw.nx
      · omega
      · rw [if_neg (by omega)] at hm
        simp only [e, if_true, Option.some.injEq] at h1
        subst h1
        exact (old m b e2 hm hb h2).elim
    · rw [if_neg (by omega)] at hn
      by_cases e2 : m = aw.nx
      · simp only [e2, if_true, Option.some.injEq] at h2
        subst h2
        exact (old n a e hn ha h1).elim
      · rw [if_neg (by omega)] at hm
        simp only [e, e2, if_false] at h1 h2
        exact h.inj n m a b c hn hm ha hb h1 h2
  · intro n hn
    have : n ≠ aw.nx := by omega
    simp only [this, if_false]
    exact h.fresh n (by omega)
  · intro g hg
    exact (hle _ _ (h.glob g hg)).1
  · intro n vs e lo hi c C e' f hn hb hc
    rw [hget] at hn
    by_cases hen : n = aw.nx
    · rw [if_pos (by omega)] at hn
      simp only [hen, if_true, Option.some.injEq] at hb ⊢
      subst hb
      rw [heap_alloc_new] at hc
      exact hroom vs e lo hi C e' f (Option.some.inj hn) (Option.some.inj hc)
    · rw [if_neg (by omega)] at hn
      simp only [hen, if_false] at hb ⊢
      obtain ⟨c', co', h1, h2, _⟩ := h.obj n _ hn rfl
      obtain rfl := Option.some.inj (hb.symm.trans h1)
      rw [heap_alloc_old _ _ _ (hlt _ _ h2)] at hc
      exact h.room n vs e lo hi c C e' f hn h1 hc
  · intro n hn
    obtain ⟨h1, h2⟩ := h.res n hn
    refine ⟨by omega, ?_⟩
    have : n ≠ aw.nx := by omega
    simp only [this, if_false]
    exact h2
/-- A block of the evaluator's heap is turned. -/
theorem Rel.upd {P : Program} {K : Keep P} {β : Ren} {aw aw' : AW} {w w' : World} (h : Rel K β aw w) {n c : Nat} {o0 o : AO} {co : Obj} (hn : aw.h.get (n + 1) = some o0) (ha : o0.alive = true) (hf : o0.fixed = false)
    (hb : β n = some c) (hget : ∀ m, aw'.h.get m = if m = n + 1 then some o else aw.h.get m) (hnx : aw'.nx = aw.nx)
    (hw : w'.heap[c]? = some co) (hw2 : ∀ d, d ≠ c → w'.heap[d]? = w.heap[d]?) (ht : w'.tape = w.tape) (hos : w'.os = w.os) (hou : w'.output = w.output)
    (ho : o.alive = true → OR β o co ∧ o.fixed = false) (hroom : ∀ vs e lo hi C e' f, o = .cells vs e lo hi → co = .cells C e' f → β.rm n * P.cellsOf e ≤ C.size) : Rel K β aw' w' := by
  obtain ⟨c', co', h1, h2, h3, h4⟩ := h.obj n o0 hn ha
  rw [hb] at h1
  obtain rfl := Option.some.inj h1
  have h4 : K.blk c = none := h4.resolve_left (fun e => by rw [hf] at e; exact absurd e.1 (by decide))
  constructor
  · exact ht.trans h.tape
  · exact hos.trans h.os
  · exact hou.trans h.output
  · intro d o' hd
    have : d ≠ c := fun e => by rw [e, h4] at hd; cases hd
    rw [hw2 d this]
    exact h.keep d o' hd
  · intro m o' hm ha'
    rw [hget] at hm
    by_cases e : m = n
    · rw [if_pos (by omega)] at hm
      obtain rfl := Option.some.inj hm
      obtain ⟨h5, h6⟩ := ho ha'
      exact ⟨c, co, by rw [e]; exact hb, hw, h5, .inr h4⟩
    · rw [if_neg (by omega)] at hm
      obtain ⟨d, do', h5, h6, h7, h8⟩ := h.obj m o' hm ha'
      have hne : d ≠ c := fun e2 => e (h.inj m n o' o0 c hm hn ha' ha (by rw [h5, e2]) hb)
      exact ⟨d, do', h5, by rw [hw2 d hne]; exact h6, h7, h8⟩
  · intro m k a b d hm hk ha' hb' h5 h6
    rw [hget] at hm hk
    have old : ∀ m a, (if m + 1 = n + 1 then some o else aw.h.get (m + 1)) = some a → a.alive = true → ∃ a', aw.h.get (m + 1) = some a' ∧ a'.alive = true := by
      intro m a hm ha'
      by_cases e : m = n
      · exact ⟨o0, by rw [e]; exact hn, ha⟩
      · rw [if_neg (by omega)] at hm
        exact ⟨a, hm, ha'⟩
    obtain ⟨a1, x1, x2⟩ := old m a hm ha'
    obtain ⟨b1, y1, y2⟩ := old k b hk hb'
    exact h.inj m k a1 b1 d x1 y1 x2 y2 h5 h6
  · intro m hm
    exact h.fresh m (by omega)
  · exact h.glob
  · intro m vs e lo hi d C e' f hm hd hc
    rw [hget] at hm
    by_cases hem : m = n
    · subst hem
      rw [if_pos rfl] at hm
      obtain rfl := Option.some.inj (hb.symm.trans hd)
      rw [hw] at hc
      exact hroom vs e lo hi C e' f (Option.some.inj hm) (Option.some.inj hc)
    · rw [if_neg (by omega)] at hm
      have hne : d ≠ c := fun e2 => hem (h.inj m n _ o0 c hm hn rfl ha (by rw [← e2]; exact hd) hb)
      rw [hw2 d hne] at hc
      exact h.room m vs e lo hi d C e' f hm hd hc
  · intro m hm
    rw [hnx]
    exact h.res m hm
end Go.Ek
namespace Go.Ek
set_option linter.unusedVariables false
set_option linter.unusedSimpArgs false
variable {P : Program} {K : Keep P} {β : Ren} {w : AW} {cw : World}

/-! ### The evaluator's heap -/
theorem aw_get {n : Nat} {k : AO → R} (h : w.get n k = true) : ∃ o, w.h.get (n + 1) = some o ∧ k o = true := getK_ok _ _ h
theorem aw_put {n : Nat} {o : AO} {k : AW → R} (h : w.put n o k = true) : ∃ w', k w' = true ∧ (∀ m, w'.h.get m = if m = n + 1 then some o else w.h.get m) ∧ w'.nx = w.nx := by
  obtain ⟨t, h1, h2⟩ := trSet_ok _ _ _ _ _ h
  exact ⟨_, h1, h2, rfl⟩
theorem aw_new {o : AO} {k : Nat → AW → R} (h : w.new o k = true) : ∃ w', k w.nx w' = true ∧ (∀ m, w'.h.get m = if m = w.nx + 1 then some o else w.h.get m) ∧ w'.nx = w.nx + 1 := by
  unfold AW.new at h
  rw [natK_eq] at h
  obtain ⟨t, h1, h2⟩ := trSet_ok _ _ _ _ _ h
  exact ⟨_, h1, h2, rfl⟩
/-- A new block: the evaluator's and the machine's. -/
theorem new_ok {o : AO} {co : Obj} {k : Nat → AW → R} (hr : Rel K β w cw) (h : w.new o k = true) (ha : o.alive = true) (ho : OR β o co) :
    ∃ n w' β', k n w' = true ∧ Le β β' ∧ Rel K β' w' (cw.alloc co) ∧ β' n = some cw.heap.size := by
  obtain ⟨w', h1, h2, h3⟩ := aw_new h
  obtain ⟨h4, h5⟩ := hr.alloc ha h2 h3 ho 0 (fun _ _ _ _ _ _ _ _ _ => by rw [Nat.zero_mul]; exact Nat.zero_le _)
  exact ⟨_, w', _, h1, h4, h5, by simp⟩
/-- A new block, with room for r elements. -/
theorem newR_ok {o : AO} {co : Obj} {k : Nat → AW → R} (r : Nat) (hr : Rel K β w cw) (h : w.new o k = true) (ha : o.alive = true) (ho : OR β o co) (hroom : ∀ vs e lo hi C e' f, o = .cells vs e lo hi → co = .cells C e' f → r * P.cellsOf e ≤ C.size) :
    ∃ n w' β', k n w' = true ∧ Le β β' ∧ Rel K β' w' (cw.alloc co) ∧ β' n = some cw.heap.size ∧ β'.rm n = r := by
  obtain ⟨w', h1, h2, h3⟩ := aw_new h
  obtain ⟨h4, h5⟩ := hr.alloc ha h2 h3 ho r hroom
  exact ⟨_, w', _, h1, h4, h5, by simp, by simp⟩
theorem add_plain (c o j : Nat) : (⟨c, o, none⟩ : Addr).add j = ⟨c, o + j, none⟩ := by
  unfold Addr.add
  split
  · simp [*]
  · rfl
theorem cell_of {c : Nat} {C : Array Value} {e : TypeId} {f : Nat × Nat} (h : cw.heap[c]? = some (.cells C e f)) (o : Nat) : cw.cell? ⟨c, o, none⟩ = C[o]? := by
  simp [World.cell?, h]
theorem froz_of {c : Nat} {C : Array Value} {e : TypeId} {f : Nat × Nat} (h : cw.heap[c]? = some (.cells C e f)) (o : Nat) : cw.frozen? ⟨c, o, none⟩ = (decide (f.1 ≤ o) && decide (o < f.2)) := by
  obtain ⟨l, u⟩ := f
  simp [World.frozen?, h]
/-- The cells of a block that the evaluator reads. -/
theorem cells_ok {b c : Nat} {k : List Value → R} (hr : Rel K β w cw) (h : getCells w b k = true) (hb : β b = some c) :
    ∃ vs C e f, k vs = true ∧ cw.heap[c]? = some (.cells C e f) ∧ CellsR β vs C := by
  obtain ⟨o, h1, h2⟩ := aw_get h
  have ho : o.alive = true := by cases o <;> first | rfl | cases h2
  obtain ⟨c', co, h3, h4, h5, _⟩ := hr.obj b o h1 ho
  obtain rfl := Option.some.inj (hb.symm.trans h3)
  cases o with
  | cells vs e lo hi =>
    cases co with
    | cells C e' f => exact ⟨vs, C, e', f, h2, h4, h5.2.1⟩
    | _ => exact h5.elim
  | ro vs =>
    cases co with
    | cells C e' f => exact ⟨vs, C, e', f, h2, h4, h5⟩
    | _ => exact h5.elim
  | _ => cases h2
theorem load1_ok {b c o : Nat} {k : Value → R} (hr : Rel K β w cw) (h : load1 w ⟨b, o, none⟩ k = true) (hb : β b = some c) :
    ∃ v cv, k v = true ∧ VR β v cv ∧ cw.cell? ⟨c, o, none⟩ = some cv := by
  obtain ⟨vs, C, e, f, h1, h2, h3⟩ := cells_ok hr h hb
  obtain ⟨v, h4, h5⟩ := nthK_ok _ _ h1
  obtain ⟨cv, h6, h7⟩ := h3 _ _ h4
  exact ⟨v, cv, h5, h7, by rw [cell_of h2]; exact h6⟩
/-- A list of cells as the machine has it. -/
theorem cells_list {vs : List Value} {C : Array Value} (h : CellsR β vs C) : VRs β vs (C.toList.take vs.length) := by
  refine VRs.of_get ?_ fun i v cv h1 h2 => ?_
  · rw [List.length_take]
    rcases Nat.lt_or_ge C.toList.length vs.length with hlt | hge
    · exfalso
      have hi : C.toList.length < vs.length := hlt
      obtain ⟨cv, h1, _⟩ := h C.toList.length vs[C.toList.length] (List.getElem?_eq_getElem hi)
      simp at h1
    · omega
  · obtain ⟨cv', h3, h4⟩ := h i v h1
    have hi : i < vs.length := (List.getElem?_eq_some_iff.1 h1).1
    rw [List.getElem?_take, if_pos hi, Array.getElem?_toList, h3] at h2
    obtain rfl := Option.some.inj h2
    exact h4
theorem loadN_ok {b c o n : Nat} {k : List Value → R} (hr : Rel K β w cw) (h : loadN w ⟨b, o, none⟩ n k = true) (hb : β b = some c) :
    ∃ vs cvs, k vs = true ∧ VRs β vs cvs ∧ vs.length = n ∧ ∀ j v, cvs[j]? = some v → cw.cell? ((⟨c, o, none⟩ : Addr).add j) = some v := by
  obtain ⟨vs, C, e, f, h1, h2, h3⟩ := cells_ok hr h hb
  obtain ⟨h4, h5⟩ := dropK_ok _ _ h1
  obtain ⟨h6, h7⟩ := takeK_ok _ _ _ h5
  have hl := cells_list h3
  refine ⟨_, ((C.toList.take vs.length).drop o).take n, h7, (hl.drop o).take n, by rw [List.length_take]; omega, fun j v hj => ?_⟩
  rw [add_plain, cell_of h2]
  rw [List.getElem?_take] at hj
  split at hj
  · rw [List.getElem?_drop, List.getElem?_take] at hj
    split at hj
    · simpa using hj
    · cases hj
  · cases hj
theorem flat_ok : ∀ (l : List Value) (k : R), flatK l k = true → (∀ v ∈ l, v.oneCell' = true) ∧ k = true
  | [], k, h => ⟨fun v hv => (by cases hv), h⟩
  | v :: l, k, h => by
    have : v.oneCell' = true ∧ flatK l k = true := by
      cases v <;> first | exact ⟨rfl, h⟩ | cases h
    obtain ⟨h1, h2⟩ := flat_ok l k this.2
    exact ⟨fun x hx => by
      cases hx with
      | head => exact this.1
      | tail _ hx => exact h1 x hx, h2⟩
theorem VR.one {v cv : Value} (h : VR β v cv) : cv.oneCell' = v.oneCell' := by cases h <;> rfl
theorem VRs.one {l cl : List Value} (h : VRs β l cl) (hl : ∀ v ∈ l, v.oneCell' = true) : ∀ v ∈ cl, v.oneCell' = true := by
  intro v hv
  obtain ⟨i, hi, rfl⟩ := List.getElem_of_mem hv
  have hi' : i < l.length := by rw [h.length]; exact hi
  obtain ⟨cv, h1, h2⟩ := h.get (List.getElem?_eq_getElem hi')
  rw [List.getElem?_eq_getElem hi] at h1
  obtain rfl := Option.some.inj h1
  rw [VR.one h2]
  exact hl _ (List.getElem_mem hi')
/-- Stores, cell by cell. -/
theorem run_stores (P : Program) (c o : Nat) (e : TypeId) (f : Nat × Nat) : ∀ (vs : List Value) (i : Nat) (w : World) (C : Array Value), w.heap[c]? = some (.cells C e f) → (∀ v ∈ vs, v.oneCell' = true) →
    (vs = [] ∨ o + i + vs.length ≤ C.size) → (∀ j, j < vs.length → ¬ (f.1 ≤ o + i + j ∧ o + i + j < f.2)) →
    ∃ w' C', (storeCells ⟨c, o, none⟩ vs i).run P w = .ok () w' ∧ w'.heap[c]? = some (.cells C' e f) ∧ (∀ j : Nat, C'[j]? = if o + i ≤ j ∧ j < o + i + vs.length then vs[j - (o + i)]? else C[j]?) ∧
      (∀ d, d ≠ c → w'.heap[d]? = w.heap[d]?) ∧ w'.tape = w.tape ∧ w'.os = w.os ∧ w'.output = w.output
  | [], i, w, C, h, _, _, _ => ⟨w, C, rfl, h, fun j => (by rw [if_neg (by simp)]), fun _ _ => rfl, rfl, rfl, rfl⟩
  | v :: vs, i, w, C, h, h1, h2, h3 => by
    have hb : o + i + (v :: vs).length ≤ C.size := h2.resolve_left (by simp)
    simp only [List.length_cons] at hb
    have hc : w.cell? ⟨c, o + i, none⟩ = some C[o + i] := by rw [cell_of h]; exact Array.getElem?_eq_getElem (by omega)
    have hfz : w.frozen? ⟨c, o + i, none⟩ = false := by
      rw [froz_of h]
      have := h3 0 (by simp)
      simp only [Nat.add_zero] at this
      rw [Bool.eq_false_iff]
      simpa using this
    have hst : (store ((⟨c, o, none⟩ : Addr).add i) v).run P w = .ok () (w.setCell ⟨c, o + i, none⟩ v) := by
      rw [add_plain, run_store P w _ v .plain (h1 v List.mem_cons_self), hc]
      simp [hfz]
    have hh : (w.setCell ⟨c, o + i, none⟩ v).heap[c]? = some (.cells (C.setIfInBounds (o + i) v) e f) := by
      simp [World.setCell, Array.getElem?_modify, h]
    obtain ⟨w', C', g1, g2, g3, g4, g5, g6, g7⟩ := run_stores P c o e f vs (i + 1) (w.setCell ⟨c, o + i, none⟩ v) _ hh (fun x hx => h1 x (List.mem_cons_of_mem _ hx)) (.inr (by simp; omega)) (fun j hj => by
      have := h3 (j + 1) (by simp; omega)
      rw [show o + (i + 1) + j = o + i + (j + 1) by omega]
      exact this)
    refine ⟨w', C', ?_, g2, fun j => ?_, fun d hd => ?_, g5, g6, g7⟩
    · simp only [storeCells, Sem.run_bind, hst, Result.andThen_ok]
      exact g1
    · rw [g3]
      by_cases c1 : o + (i + 1) ≤ j ∧ j < o + (i + 1) + vs.length
      · rw [if_pos c1, if_pos (by simp; omega)]
        rw [show j - (o + i) = (j - (o + (i + 1))) + 1 by omega]
        rfl
      · rw [if_neg c1]
        by_cases c2 : j = o + i
        · subst c2
          rw [if_pos (by simp)]
          simp [Array.getElem?_setIfInBounds, show o + i < C.size by omega]
        · rw [if_neg (by simp; omega)]
          rw [Array.getElem?_setIfInBounds, if_neg (by omega)]
    · rw [g4 d hd]
      exact heap_setCell_other w ⟨c, o + i, none⟩ d v hd
theorem storeN_ok {b c o : Nat} {vs cvs : List Value} {k : AW → R} (hr : Rel K β w cw) (h : storeN w ⟨b, o, none⟩ vs k = true) (hb : β b = some c) (hv : VRs β vs cvs) :
    ∃ w' cw', k w' = true ∧ Rel K β w' cw' ∧ (storeCells ⟨c, o, none⟩ cvs).run P cw = .ok () cw' := by
  cases vs with
  | nil =>
    cases hv
    exact ⟨w, cw, h, hr, rfl⟩
  | cons v vs =>
    obtain ⟨o', h1, h2⟩ := aw_get (w := w) (n := b) h
    cases o' with
    | cells cs e lo hi =>
      simp only at h2
      obtain ⟨c', co, h3, h4, h5, h6⟩ := hr.obj b _ h1 rfl
      obtain rfl := Option.some.inj (hb.symm.trans h3)
      cases co with
      | cells C e' f =>
        obtain ⟨fl, fu⟩ := f
        obtain ⟨rfl, h5, h7⟩ := h5
        rw [ble_n, ble_n, ble_n] at h2
        have e0 : Nat.add o (v :: vs).length = o + (v :: vs).length := rfl
        rw [e0] at h2
        cases hcond : (decide (hi ≤ lo) || (decide (hi ≤ o) || decide (o + (v :: vs).length ≤ lo))) with
        | false => rw [hcond] at h2; cases h2
        | true =>
          rw [hcond] at h2
          rw [cond_true] at h2
          obtain ⟨hflat, h2⟩ := flat_ok _ _ h2
          obtain ⟨g1, cs', g2, g3, g4⟩ := setK_ok _ _ _ _ h2
          obtain ⟨w', g5, g6, g7⟩ := aw_put g2
          have g1 : o + (v :: vs).length ≤ cs.length := g1.resolve_left (by simp)
          have hsz : cs.length ≤ C.size := by
            have := (cells_list h5).length
            rw [List.length_take] at this
            simp at this
            omega
          have hlen := hv.length
          obtain ⟨cw', C', r1, r2, r3, r4, r5, r6, r7⟩ := run_stores P c o e' (fl, fu) cvs 0 cw C h4 (hv.one hflat) (.inr (by omega)) (fun j hj hfj => by
            have := h7.2 (o + 0 + j) hfj.1 hfj.2
            simp only [Bool.or_eq_true, decide_eq_true_eq] at hcond
            omega)
          refine ⟨w', cw', g5, ?_, r1⟩
          refine hr.upd h1 rfl rfl hb g6 g7 r2 r4 r5 r6 r7 (fun _ => ⟨⟨rfl, ?_, h7⟩, rfl⟩) (fun vs e lo2 hi2 D e2 f2 q1 q2 => by
            cases q1
            cases q2
            refine Nat.le_trans (hr.room b _ _ _ _ c C e' (fl, fu) h1 hb h4) ?_
            rcases Nat.lt_or_ge C'.size C.size with hlt | hge
            · exfalso
              have := r3 C'.size
              rw [Array.getElem?_eq_none (Nat.le_refl _)] at this
              by_cases hin : o + 0 ≤ C'.size ∧ C'.size < o + 0 + cvs.length
              · rw [if_pos hin, List.getElem?_eq_getElem (by omega)] at this
                cases this
              · rw [if_neg hin, Array.getElem?_eq_getElem hlt] at this
                cases this
            · exact hge)
          intro i x hx
          rw [g4] at hx
          rw [r3]
          simp only [Nat.add_zero]
          by_cases hc : o ≤ i ∧ i < o + (v :: vs).length
          · rw [if_pos hc] at hx
            rw [if_pos (by omega)]
            exact hv.get hx
          · rw [if_neg hc] at hx
            rw [if_neg (by omega)]
            exact h5 i x hx
      | _ => exact h5.elim
    | _ => cases h2
end Go.Ek
