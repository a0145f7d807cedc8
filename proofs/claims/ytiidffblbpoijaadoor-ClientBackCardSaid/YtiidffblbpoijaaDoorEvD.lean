/-
  The evaluator: a program that runs the program's own code on values, and the proof that where it says yes the call goes as it says; part D of 5.
-/
import Derived.Test.YtiidffblbpoijaaDoorEvC
import Derived.Orders
import Derived.Lib.MakeNoZero
import Derived.Lib.Builder
import Derived.Laws.Externs
import Derived.Below
import Derived.Lib.LaidTab
import Derived.LaidSub
namespace Go.Ek
set_option linter.unusedVariables false
set_option linter.unusedSimpArgs false
variable {P : Program} {w : AW} {fr : Fr} {call : CallT}
/-! ### Strictness: a run whose continuation says no says no -/
@[simp] theorem f_opd (x : Operand) : (opd x).run fr (fun _ => false) = false := by
  cases h : (opd x).run fr (fun _ => false) with
  | false => rfl
  | true =>
    cases x with
    | tmp t => simp only [opd] at h; rw [get_run] at h; cases h
    | const v => simp only [opd] at h; cases hp : plain v <;> (rw [hp] at h; cases h)
    | global g => simp only [opd] at h; cases hp : Nat.blt g 64 <;> (rw [hp] at h; cases h)
    | func f => cases h
@[simp] theorem f_opds : ∀ (l : List Operand), (opds l).run fr (fun _ => false) = false
  | [] => rfl
  | x :: l => by
    show (opd x).run fr (fun v => (opds l).run fr (fun vs => false)) = false
    simp [f_opds l]
@[simp] theorem f_opdO (x : Option Operand) : (opdO x).run fr (fun _ => false) = false := by
  cases x with
  | none => rfl
  | some x => show (opd x).run fr (fun v => false) = false; simp
@[simp] theorem f_cond (c : Bool) : cond c false false = false := by cases c <;> rfl
@[simp] theorem f_ptr (v : Value) : ptrK v (fun _ => false) = false := by cases v <;> first | rfl | (rename_i a; cases a <;> rfl)
@[simp] theorem f_int (v : Value) : intK v (fun _ => false) = false := by cases v <;> rfl
@[simp] theorem f_bool (v : Value) : boolK v (fun _ => false) = false := by unfold boolK; split <;> rfl
@[simp] theorem f_idx (v : Value) : idxK v (fun _ => false) = false := by cases v <;> first | rfl | (rename_i j n; cases n <;> first | rfl | (simp only [idxK]; exact natK_eq _ _))
@[simp] theorem f_agg (v : Value) : aggK v (fun _ => false) = false := by cases v <;> rfl
@[simp] theorem f_nat (n : Nat) : natK n (fun _ => false) = false := natK_eq _ _
@[simp] theorem f_len {α : Type} (l : List α) : lenK l (fun _ => false) = false := lenK_eq _ _
@[simp] theorem f_app {α : Type} (a b : List α) : appK a b (fun _ => false) = false := appK_eq _ _ _
@[simp] theorem f_nth {α : Type} (l : List α) (n : Nat) : nthK l n (fun _ => false) = false := by
  cases h : nthK l n (fun _ => false) with
  | false => rfl
  | true => obtain ⟨_, _, h⟩ := nthK_ok _ _ h; cases h
@[simp] theorem f_drop {α : Type} (l : List α) (n : Nat) : dropK l n (fun _ => false) = false := by
  cases h : dropK l n (fun _ => false) with
  | false => rfl
  | true => cases (dropK_ok _ _ h).2
@[simp] theorem f_take {α : Type} (l : List α) (n : Nat) : takeK l n (fun _ => false) = false := by
  cases h : takeK l n (fun _ => false) with
  | false => rfl
  | true => cases (takeK_ok _ _ _ h).2
@[simp] theorem f_get (n : Nat) : w.get n (fun _ => false) = false := by
  cases h : w.get n (fun _ => false) with
  | false => rfl
  | true => obtain ⟨_, _, h⟩ := aw_get h; cases h
@[simp] theorem f_wrap (j : IntKind) (n : Int) : wrapK j n (fun _ => false) = false := wrapK_eq _ _ _
@[simp] theorem f_load1 (a : Addr) : load1 w a (fun _ => false) = false := by
  cases h : load1 w a (fun _ => false) with
  | false => rfl
  | true =>
    obtain ⟨o, _, h⟩ := aw_get h
    cases o <;> simp at h
@[simp] theorem f_loadN (a : Addr) (n : Nat) : loadN w a n (fun _ => false) = false := by
  cases h : loadN w a n (fun _ => false) with
  | false => rfl
  | true =>
    obtain ⟨o, _, h⟩ := aw_get h
    cases o <;> simp at h
@[simp] theorem f_beqL (a b : List UInt8) : beqL a b (fun _ => false) = false := beqL_eq _ _ _
@[simp] theorem f_intEq (x y : Value) : intEq x y (fun _ => false) = false := by cases x <;> cases y <;> simp [intEq]
@[simp] theorem f_strEq (x y : Value) : strEq x y (fun _ => false) = false := by cases x <;> cases y <;> simp [strEq]
@[simp] theorem f_boolEq (x y : Value) : boolEq x y (fun _ => false) = false := by cases x <;> cases y <;> simp [boolEq]
@[simp] theorem f_nil (v : Value) : nilK v (fun _ => false) = false := by
  unfold nilK; split <;> rfl
end Go.Ek
namespace Go.Ek
set_option linter.unusedVariables false
set_option linter.unusedSimpArgs false
variable {P : Program} {w : AW} {fr : Fr} {call : CallT} {dst : Option Tmp} {ty : TypeId} {pos : String} {af : Array Edge} {gd : Option (Nat × Bool)}
@[simp] theorem f_no' (f : Value → AW → R) : no.run call fr w f = false := rfl
@[simp] theorem f_no : no.run call fr w (fun _ _ => false) = false := rfl
theorem s_move (x : Operand) : (compOp P ⟨dst, .move x, ty, pos, af, gd⟩).run call fr w (fun _ _ => false) = false := by simp [compOp]
theorem s_assign (x : Operand) : (compOp P ⟨dst, .assign x, ty, pos, af, gd⟩).run call fr w (fun _ _ => false) = false := by simp [compOp]
theorem s_pick (c x y : Operand) : (compOp P ⟨dst, .pick c x y, ty, pos, af, gd⟩).run call fr w (fun _ _ => false) = false := by simp [compOp]
theorem s_load (t : TypeId) (x : Operand) : (compOp P ⟨dst, .load t x, ty, pos, af, gd⟩).run call fr w (fun _ _ => false) = false := by
  simp only [compOp]; split <;> simp [loadAgg, loadOne]
theorem s_nilCheck (x : Operand) : (compOp P ⟨dst, .nilCheck x, ty, pos, af, gd⟩).run call fr w (fun _ _ => false) = false := by simp [compOp]
theorem s_makeInterface (t : TypeId) (x : Operand) : (compOp P ⟨dst, .makeInterface t x, ty, pos, af, gd⟩).run call fr w (fun _ _ => false) = false := by
  simp only [compOp]; split <;> simp
theorem s_fieldAddr (s : TypeId) (x : Operand) (f : Nat) : (compOp P ⟨dst, .fieldAddr s x f, ty, pos, af, gd⟩).run call fr w (fun _ _ => false) = false := by
  simp only [compOp]
  repeat' split
  all_goals simp
theorem s_field (s : TypeId) (x : Operand) (f : Nat) : (compOp P ⟨dst, .field s x f, ty, pos, af, gd⟩).run call fr w (fun _ _ => false) = false := by
  simp only [compOp]
  repeat' split
  all_goals simp
@[simp] theorem f_bound (x : Option Value) (d hi : Nat) : boundK x d hi (fun _ => false) = false := by
  cases x <;> simp [boundK]
@[simp] theorem f_sl3 (n : Nat) (b : Option Addr) (l c : Nat) (lo hi mx : Option Value) : sl3 n b l c lo hi mx (fun _ => false) = false := by
  have : ∀ m h l, slFin n b (fun _ => false) m h l = false := fun m h l => by
    unfold slFin
    cases b <;> simp
  simp [sl3, this]
theorem s_slice (t : TypeId) (x : Operand) (lo hi mx : Option Operand) : (compOp P ⟨dst, .slice t x lo hi mx, ty, pos, af, gd⟩).run call fr w (fun _ _ => false) = false := by
  have h1 : ∀ v a b, sliceStr v a b (fun _ => false) = false := fun v a b => by cases v <;> simp [sliceStr]
  have h2 : ∀ n v a b c, sliceSl n v a b c (fun _ => false) = false := fun n v a b c => by cases v <;> simp [sliceSl]
  have h3 : ∀ n m v a b c, sliceArr n m v a b c (fun _ => false) = false := fun n m v a b c => by simp [sliceArr]
  simp only [compOp]
  repeat' split
  all_goals simp [h1, h2, h3]
theorem s_indexAddr (t : TypeId) (x i : Operand) : (compOp P ⟨dst, .indexAddr t x i, ty, pos, af, gd⟩).run call fr w (fun _ _ => false) = false := by
  have h2 : ∀ n v a, idxSl n v a (fun _ => false) = false := fun n v a => by unfold idxSl; split <;> simp
  have h3 : ∀ n m v a, idxArr n m v a (fun _ => false) = false := fun n m v a => by simp [idxArr]
  simp only [compOp]
  repeat' split
  all_goals simp [h2, h3]
theorem s_index (t : TypeId) (x i : Operand) : (compOp P ⟨dst, .index t x i, ty, pos, af, gd⟩).run call fr w (fun _ _ => false) = false := by
  have h2 : ∀ v a, idxStr v a (fun _ => false) = false := fun v a => by cases v <;> simp [idxStr]
  simp only [compOp]
  repeat' split
  all_goals simp [h2]
theorem s_extract (x : Operand) (i : Nat) : (compOp P ⟨dst, .extract x i, ty, pos, af, gd⟩).run call fr w (fun _ _ => false) = false := by
  simp only [compOp]
  cases h : ((opd x).run fr fun vt => (match vt with | .tuple vs => nthK vs.toList i fun v => false | _ => false)) with
  | false => rfl
  | true =>
    have e : (fun vt : Value => (match vt with | .tuple vs => nthK vs.toList i fun v => false | _ => false)) = fun _ => false := by funext v; cases v <;> simp
    rw [e] at h
    simp at h
theorem s_makeFunc (fn : Fn) (l m : Array Operand) : (compOp P ⟨dst, .makeFunc fn l m, ty, pos, af, gd⟩).run call fr w (fun _ _ => false) = false := by
  simp only [compOp]
  repeat' split
  all_goals simp
theorem s_typeAssert (x : Operand) (xt t : TypeId) (ok : Bool) : (compOp P ⟨dst, .typeAssert x xt t ok, ty, pos, af, gd⟩).run call fr w (fun _ _ => false) = false := by
  have : ∀ z v, asrtK t z ok v (fun _ => false) = false := fun z v => by cases v <;> simp [asrtK]
  simp only [compOp]
  repeat' split
  all_goals simp [this]
theorem f_runPure {α : Type} : ∀ (s : Sem α), runPure P s (fun _ => false) = false := by
  intro s
  induction s <;> first | rfl | (rename_i ih; exact ih _)
theorem f_pureK (s : Sem Value) : pureK P s (fun _ => false) = false := by
  unfold pureK
  have : (fun v : Value => cond (plain1 v) false false) = fun _ => false := by funext v; cases plain1 v <;> rfl
  rw [this, f_runPure]
theorem s_unOp (o : UnOp) (t : TypeId) (x : Operand) : (compOp P ⟨dst, .unOp o t x, ty, pos, af, gd⟩).run call fr w (fun _ _ => false) = false := by
  have h1 : ∀ v, notM o v (fun _ => false) = false := fun v => by unfold notM; split <;> rfl
  simp [compOp, f_pureK, h1]
@[simp] theorem f_pureK' (s : Sem Value) : pureK P s (fun _ => false) = false := f_pureK s
theorem f_intBin (op : BinOp) (j : IntKind) (m n : Int) : (intBin P op).run j m n (fun _ => false) = false := by
  have hb : ∀ f j x y, bitsFast f j x y (fun _ => false) (fun _ => false) = false := fun f j x y => by cases x <;> cases y <;> simp [bitsFast]
  cases op <;> simp only [intBin] <;> first | (simp [hb]; done) | (cases m <;> cases n <;> simp) | skip
  all_goals (rename_i a b; cases b <;> simp)
theorem f_bnd (op : BinOp) (b m : Nat) (c : Int) : bndOp op b m c (fun _ => false) = false := by
  unfold bndOp
  cases Nat.beq b 0 <;> cases Nat.beq b 1 <;> cases op <;> simp [ltOp, geOp, inOp]
theorem f_arith (op : BinOp) (x y : Value) : arithV P op x y (fun _ => false) = false := by
  have hs : ∀ a b, (strBin op).run a b (fun _ => false) = false := fun a b => by cases op <;> simp [strBin]
  have ha : ∀ j, anyOp op j (fun _ => false) = false := fun j => by cases op <;> rfl
  unfold arithV
  repeat' split
  all_goals first | rfl | exact hs _ _ | simp [f_intBin, ha, f_bnd]
theorem f_shift (op : BinOp) (x y : Value) : shiftV P op x y (fun _ => false) = false := by
  have hs : ∀ i j a b, (shiftK P op).run i j a b (fun _ => false) = false := fun i j a b => by cases op <;> cases a <;> cases b <;> simp [shiftK]
  unfold shiftV
  split
  · split
    · exact hs _ _ _ _
    · rfl
  · rfl
theorem f_live (b : Nat) : live w b false = false := by
  unfold live
  cases h : (w.get b fun o => match o with | .cells _ _ lo hi => cond (Nat.ble hi lo) false false | _ => false) with
  | false => rfl
  | true =>
    obtain ⟨o, _, h⟩ := aw_get h
    cases o <;> simp at h
@[simp] theorem f_both : bothK (fun _ => false) = false := rfl
@[simp] theorem f_bndEq (b m : Nat) (c : Int) : bndEq b m c (fun _ => false) = false := by
  unfold bndEq
  cases Nat.beq b 0 <;> cases Nat.beq b 1 <;> simp
@[simp] theorem f_intEqM (x y : Value) : intEqM x y (fun _ => false) = false := by
  unfold intEqM
  repeat' split
  all_goals simp
@[simp] theorem f_strEqM (x y : Value) : strEqM x y (fun _ => false) = false := by
  unfold strEqM
  repeat' split
  all_goals simp
@[simp] theorem f_boolEqM (x y : Value) : boolEqM x y (fun _ => false) = false := by
  unfold boolEqM
  repeat' split
  all_goals simp
theorem f_fld {sub : TypeId → EqL} (hs : ∀ t (a b : List Value), (sub t).run a b (fun _ => false) = false) : ∀ (fs : List Field) (a b : List Value), (fldEq P sub fs).run a b (fun _ => false) = false
  | [], a, b => rfl
  | x :: r, a, b => by
    have ih := f_fld hs r a b
    simp only [fldEq]
    cases (x.name == "_") with
    | true => rfl
    | false =>
      simp only [cond_false]
      split
      · simp [ih, hs]
      · split <;> first | rfl | simp [ih]
      · rfl
theorem f_st : ∀ (f : Nat) (t : TypeId) (a b : List Value), (stEq P f t).run a b (fun _ => false) = false
  | 0, _, _, _ => rfl
  | f + 1, t, a, b => by
    simp only [stEq]
    split
    · cases P.stoodInHeld t with
      | true => rfl
      | false => exact f_fld (f_st f) _ _ _
    · rfl
theorem f_eqB (t : TypeId) (c : Bool) (x y : Value) : (eqB P t c).run w x y (fun _ => false) = false := by
  have hp : ptrEq w x y (fun _ => false) = false := by
    unfold ptrEq
    split <;> try rfl
    · split <;> rfl
    · split <;> first | rfl | simp [f_live]
  have h1 : sliceEq x y (fun _ => false) = false := by
    unfold sliceEq
    repeat' split
    all_goals rfl
  have h2 : mapEq x y (fun _ => false) = false := by
    unfold mapEq
    repeat' split
    all_goals rfl
  have h3 : funcEq x y (fun _ => false) = false := by
    unfold funcEq
    repeat' split
    all_goals rfl
  have h4 : ifaceEq P c x y (fun _ => false) = false := by
    unfold ifaceEq
    repeat' split
    all_goals simp
  have h5 : aggEq (stEq P 8 t) x y (fun _ => false) = false := by
    unfold aggEq
    repeat' split
    all_goals first | rfl | exact f_st _ _ _ _
  unfold eqB
  repeat' split
  all_goals first | rfl | simp [hp, h1, h2, h3, h4, h5] | (cases Nat.beq _ 0 <;> first | rfl | exact hp) | (cases P.eqGuardType P.depth t <;> first | rfl | exact h5)
theorem s_binOp (o : BinOp) (t : TypeId) (x y : Operand) (u : TypeId) : (compOp P ⟨dst, .binOp o t x y u, ty, pos, af, gd⟩).run call fr w (fun _ _ => false) = false := by
  have : ∀ a b, (binK P o t (isConst x || isConst y)).run w a b (fun _ => false) = false := fun a b => by
    cases o <;> simp only [binK] <;> first | exact f_arith _ _ _ | exact f_shift _ _ _ | exact f_eqB _ _ _ _
  simp [compOp, this]
@[simp] theorem f_fill : ∀ (l : List (Nat × Nat × Operand)) (cs : List Value), (fillK l).run fr cs (fun _ => false) = false
  | [], cs => rfl
  | p :: r, cs => by
    show (opd p.2.2).run fr (fun v => lenK (cellsL v) fun m => cond (Nat.beq m p.2.1) (setK cs p.1 (cellsL v) fun cs => (fillK r).run fr cs fun _ => false) false) = false
    have hs : ∀ (l : List Value) n vs, setK l n vs (fun _ => false) = false := fun l n vs => by
      cases h : setK l n vs (fun _ => false) with
      | false => rfl
      | true => obtain ⟨_, _, h, _⟩ := setK_ok _ _ _ _ h; cases h
    simp [f_fill r, hs]
theorem s_build (t : TypeId) (ps : Array (Nat × Operand)) : (compOp P ⟨dst, .build t ps, ty, pos, af, gd⟩).run call fr w (fun _ _ => false) = false := by
  simp only [compOp]
  repeat' split
  all_goals simp
theorem f_sameCell (x y : Value) : sameCell x y false = false := by
  unfold sameCell
  repeat' split
  all_goals simp
theorem f_sameCs : ∀ (xs ys : List Value), sameCs xs ys false = false
  | [], [] => rfl
  | [], _ :: _ => rfl
  | _ :: _, [] => rfl
  | x :: xs, y :: ys => by
    show sameCell x y (sameCs xs ys false) = false
    rw [f_sameCs xs ys, f_sameCell]
theorem f_keyB {kt : TypeId} {q : KeyQ} (h : keyB P kt = some q) (x y : Value) : q.eq x y (fun _ => false) = false := by
  unfold keyB at h
  split at h <;> cases h <;> try simp
  unfold keyAgg
  repeat' split
  all_goals first | rfl | (simp only [f_sameCs]; simp [f_st])
theorem f_chkF {xs : List Value} : ∀ (fs : List Field), (chkF P fs).run xs false = false
  | [] => rfl
  | x :: r => by
    simp only [chkF]
    cases (x.name == "_") with
    | true => rfl
    | false =>
      simp only [cond_false]
      split
      · split <;> first | rfl | simp [f_chkF r]
      · rfl
theorem f_chk {kt : TypeId} {q : KeyQ} (h : keyB P kt = some q) (x : Value) : q.chk x false = false := by
  unfold keyB at h
  split at h <;> cases h <;> first | rfl | (show chkAgg _ x false = false; cases x <;> first | rfl | exact f_chkF _)
theorem f_find {eq : EqT} (he : ∀ x y, eq x y (fun _ => false) = false) (key : Value) (es : List MapEntry) : findK eq key es (fun _ => false) = false := by
  have : ∀ (es : List MapEntry) (i : Nat), List.rec (motive := fun _ => Nat → R) (fun _ => false) (fun e _ ih i => eq key e.key fun b => cond b false (ih (Nat.succ i))) es i = false := by
    intro es
    induction es with
    | nil => intro i; rfl
    | cons e es ih =>
      intro i
      show eq key e.key (fun b => cond b false (List.rec (motive := fun _ => Nat → R) (fun _ => false) (fun e _ ih i => eq key e.key fun b => cond b false (ih (Nat.succ i))) es (Nat.succ i))) = false
      rw [ih]
      simp [he]
  exact this es 0
theorem s_lookup (t : TypeId) (x i : Operand) (ok : Bool) : (compOp P ⟨dst, .lookup t x i ok, ty, pos, af, gd⟩).run call fr w (fun _ _ => false) = false := by
  simp only [compOp]
  split
  · split
    · rename_i z q hz hq
      have hf : ∀ v u, lookK q.eq z ok w v u (fun _ => false) = false := by
        intro v u
        have e : (fun r : Option (Nat × MapEntry) => (match r with | some (_, e) => false | none => false : R)) = fun _ => false := by funext r; cases r <;> rfl
        cases v with
        | map m =>
          cases m with
          | none => rfl
          | some r =>
            cases h : lookK q.eq z ok w (.map (some r)) u (fun _ => false) with
            | false => rfl
            | true =>
              obtain ⟨o, _, h⟩ := aw_get h
              cases o with
              | map es c =>
                have h : findK q.eq u es (fun r : Option (Nat × MapEntry) => (match r with | some (_, e) => false | none => false : R)) = true := h
                rw [e, f_find (f_keyB hq)] at h
                cases h
              | _ => cases h
        | _ => rfl
      simp [hf, f_chk hq]
    · rfl
  · rfl
/-- The builtins that change no world. -/
theorem s_bi (b : Builtin) (hb : fltBi b = true) (ats : List TypeId) (args : List Operand) : (bi P b ats args).run call fr w (fun _ _ => false) = false := by
  have h1 : ∀ v, lenStr v (fun _ => false) = false := fun v => by
    unfold lenStr
    split <;> simp
  have h2 : ∀ v, lenSl v (fun _ => false) = false := fun v => by
    unfold lenSl
    split <;> rfl
  have h3 : ∀ v, capSl v (fun _ => false) = false := fun v => by cases v <;> simp [capSl]
  have h4 : ∀ v, lenMap v w (fun _ => false) = false := fun v => by
    cases v with
    | map m =>
      cases m with
      | none => rfl
      | some r =>
        cases h : lenMap (.map (some r)) w (fun _ => false) with
        | false => rfl
        | true =>
          obtain ⟨o, _, h⟩ := aw_get h
          cases o <;> simp at h
    | _ => rfl
  have h5 : ∀ v, dataSl v (fun _ => false) = false := fun v => by
    unfold dataSl
    repeat' split
    all_goals simp
  have h6 : ∀ m l v, maxmin m l v (fun _ => false) = false := by
    intro m l
    induction l with
    | nil => intro v; rfl
    | cons x l ih =>
      intro v
      show (match v with
        | .int j a => (match x with
          | .int _ b => cond (cond m (ltI a b) (ltI b a)) (maxmin m l (.int j b) fun _ => false) (maxmin m l (.int j a) fun _ => false)
          | .float .f64 _ => maxmin m l (anyI j) fun _ => false
          | _ => false)
        | .float .f64 i => (match x with
          | .int _ _ => maxmin m l (.float .f64 i) fun _ => false
          | .float .f64 _ => maxmin m l (.float .f64 i) fun _ => false
          | _ => false)
        | .complex .f32 b q => (match x with
          | .int _ c => cond (m && Nat.beq b 1 && leI c (.ofNat q)) (maxmin m l (.complex .f32 b q) fun _ => false) (cond (m && Nat.beq b 0 && leI (.ofNat q) c) (maxmin m l (.int .i64 c) fun _ => false) (maxmin m l (anyI .i64) fun _ => false))
          | _ => false)
        | _ => false) = false
      simp only [ih]
      repeat' split
      all_goals first | rfl | simp
  unfold bi
  repeat' split
  all_goals first | (cases hb; done) | simp [h1, h2, h3, h4, h5, h6]
theorem f_unbyte : ∀ (l : List Value), unbyte l (fun _ => false) = false
  | [] => rfl
  | v :: l => by
    cases v with
    | int j n => cases j <;> first | rfl | (cases n with
      | ofNat m => show cond (Nat.blt m 256) (unbyte l fun _ => false) false = false; simp [f_unbyte l]
      | negSucc m => rfl)
    | _ => rfl
theorem s_convert (s d : TypeId) (x : Operand) (hf : convF P s d = true) : (compOp P ⟨dst, .convert s d x, ty, pos, af, gd⟩).run call fr w (fun _ _ => false) = false := by
  have hc : ∀ j v, convM j v (fun _ => false) = false := fun j v => by
    unfold convM
    split <;> simp
  have h1 : ∀ v, ofBytes v w (fun _ _ => false) = false := fun v => by
    unfold ofBytes
    repeat' split
    all_goals first | rfl | simp [f_unbyte]
  simp only [compOp]
  split
  · rename_i e hs hd
    simp only [convF, hs, hd] at hf
    cases hf
  · split <;> simp [h1]
  · simp [hc]
  · have h2 : ∀ v, toUns v w (fun _ => false) = false := fun v => by
      have : ∀ b : Nat, getCells w b (fun _ => false) = false := fun b => by
        cases h : getCells w b (fun _ => false) with
        | false => rfl
        | true => obtain ⟨o, _, h⟩ := aw_get h; cases o <;> cases h
      simp [toUns, this]
    split
    · rename_i j _
      cases Nat.beq j.size 0 <;> simp [h2]
    · rfl
  · have h3 : ∀ u n v, ofUns u n v w (fun _ => false) = false := fun u n v => by
      cases h : ofUns u n v w (fun _ => false) with
      | false => rfl
      | true =>
        unfold ofUns at h
        cases v with
        | pointer a =>
          cases a with
          | none => cases h
          | some a =>
            simp only [ptrK] at h
            cases hb : Nat.beq a.off 0 with
            | false => rw [hb] at h; cases h
            | true =>
              rw [hb, cond_true] at h
              obtain ⟨o, _, h⟩ := aw_get h
              cases o <;> simp at h
        | _ => cases h
    split
    · simp [h3]
    · rfl
  · simp
theorem strict {o : Oper} (h : flt P o.op = true) : (compOp P o).run call fr w (fun _ _ => false) = false := by
  obtain ⟨dst, op, ty, pos, af, gd⟩ := o
  cases op with
  | move x => exact s_move x
  | assign x => exact s_assign x
  | pick c x y => exact s_pick c x y
  | load t x => exact s_load t x
  | nilCheck x => exact s_nilCheck x
  | binOp o t x y u => exact s_binOp o t x y u
  | unOp o t x => exact s_unOp o t x
  | makeInterface t x => exact s_makeInterface t x
  | slice t x lo hi mx => exact s_slice t x lo hi mx
  | fieldAddr s x f => exact s_fieldAddr s x f
  | field s x f => exact s_field s x f
  | indexAddr t x i => exact s_indexAddr t x i
  | index t x i => exact s_index t x i
  | extract x i => exact s_extract x i
  | build t ps => exact s_build t ps
  | typeAssert x xt t ok => exact s_typeAssert x xt t ok
  | lookup t x i ok => exact s_lookup t x i ok
  | makeFunc fn l m => exact s_makeFunc fn l m
  | convert s d x => exact s_convert s d x h
  | call c =>
    obtain ⟨callee, args, ats⟩ := c
    cases callee with
    | builtin b => exact s_bi b h _ _
    | _ => cases h
  | _ => cases h
/-- A run that says yes has come to a value. -/
theorem ends {o : Oper} (h : flt P o.op = true) {k : Value → AW → R} (hk : (compOp P o).run call fr w (fun v _ => k v w) = true) : ∃ v, k v w = true := by
  rcases Classical.em (∃ v, k v w = true) with he | hn
  · exact he
  · have e : (fun (v : Value) (_ : AW) => k v w) = fun _ _ => false := by
      funext v _
      cases hv : k v w with
      | false => rfl
      | true => exact absurd ⟨v, hv⟩ hn
    rw [e, strict h] at hk
    cases hk
end Go.Ek
namespace Go.Ek
set_option linter.unusedVariables false
set_option linter.unusedSimpArgs false
variable {P : Program} {K : Keep P} {β : Ren} {w : AW} {cw : World} {fr : Fr} {a : Act} {call : CallT}
/-- Every float. -/
theorem floats_ok {o : Oper} {k : Value → AW → R} (hf : flt P o.op = true) (hr : Rel K β w cw) (h : (compOp P o).run call fr w k = true) (ht : TmpR β fr a (opL o.op)) : GivesF P β w a o cw k := by
  obtain ⟨dst, op, ty, pos, af, gd⟩ := o
  cases op with
  | move x => exact op_move hr h ht
  | assign x => exact op_assign hr h ht
  | pick c x y => exact op_pick hr h ht
  | load t x => exact op_load hr h ht
  | nilCheck x => exact op_nilCheck hr h ht
  | binOp o t x y u => exact op_binOp hr h ht
  | unOp o t x => exact op_unOp hr h ht
  | makeInterface t x => exact op_makeInterface hr h ht
  | slice t x lo hi mx => exact op_slice hr h ht
  | fieldAddr s x f => exact op_fieldAddr hr h ht
  | field s x f => exact op_field hr h ht
  | indexAddr t x i => exact op_indexAddr hr h ht
  | index t x i => exact op_index hr h ht
  | extract x i => exact op_extract hr h ht
  | build t ps => exact op_build hr h ht
  | typeAssert x xt t ok => exact op_typeAssert hr h ht
  | lookup t x i ok => exact op_lookup hr h ht
  | makeFunc fn l m =>
    cases fn with
    | func f => exact op_makeFunc hr ⟨f, rfl⟩ h ht
    | _ => cases h
  | convert s d x => exact op_convertF hf hr h ht
  | call c =>
    obtain ⟨callee, args, ats⟩ := c
    cases callee with
    | builtin b =>
      have key : ∀ la lx, ats.toList = la → args.toList = lx → (bi P b la lx).run call fr w k = true → TmpR β fr a lx → GivesF P β w a ⟨dst, .call ⟨.builtin b, args, ats⟩, ty, pos, af, gd⟩ cw k := by
        intro la lx h1 h2 h ht
        unfold bi at h
        split at h <;> first | (cases hf; done) | skip
        · exact op_len h1 h2 hr (by simpa only [bi] using h) ht
        · exact op_cap h1 h2 hr (by simpa only [bi] using h) ht
        · exact op_data h2 hr (l := []) h ht
        · exact op_max h2 hr (l := []) h ht
        · exact op_min h2 hr (l := []) h ht
        · cases h
      exact key _ _ rfl rfl h ht
    | _ => cases hf
  | _ => cases hf
end Go.Ek
namespace Go.Ek
set_option linter.unusedVariables false
set_option linter.unusedSimpArgs false
variable {P : Program} {K : Keep P} {β : Ren} {w : AW} {cw : World} {fr : Fr} {a : Act} {call : CallT}
/-! ### Sets as numbers -/
theorem hasB_eq (m i : Nat) : hasB m i = m.testBit i := by
  unfold hasB
  rw [beq_n]
  have e : Nat.land 1 (Nat.shiftRight m i) = (m >>> i) % 2 := Nat.one_and_eq_mod_two _
  rw [e, Nat.testBit]
  have e2 : 1 &&& m >>> i = (m >>> i) % 2 := Nat.one_and_eq_mod_two _
  rw [e2]
  rcases Nat.mod_two_eq_zero_or_one (m >>> i) with h | h <;> rw [h] <;> rfl
theorem hasB_or (x y i : Nat) : hasB (Nat.lor x y) i = (hasB x i || hasB y i) := by
  simp only [hasB_eq]
  exact Nat.testBit_or x y i
theorem hasB_and (x y i : Nat) : hasB (Nat.land x y) i = (hasB x i && hasB y i) := by
  simp only [hasB_eq]
  exact Nat.testBit_and x y i
theorem hasB_bit (j i : Nat) : hasB (bit j) i = decide (j = i) := by
  rw [hasB_eq]
  have : bit j = 2 ^ j := by
    unfold bit
    exact (Nat.shiftLeft_eq 1 j).trans (Nat.one_mul _)
  rw [this, Nat.testBit_two_pow]
theorem hasB_zero (i : Nat) : hasB 0 i = false := by rw [hasB_eq, Nat.zero_testBit]
theorem subB_ok {x y : Nat} (h : subB x y = true) {i : Nat} (hi : hasB x i = true) : hasB y i = true := by
  unfold subB at h
  rw [beq_n, decide_eq_true_eq] at h
  rw [← h, hasB_and, Bool.and_eq_true] at hi
  exact hi.2
theorem subB_no {x y : Nat} (h : subB x y = false) : ∃ i, hasB x i = true ∧ hasB y i = false := by
  rcases Classical.em (∃ i, hasB x i = true ∧ hasB y i = false) with he | hn
  · exact he
  · exfalso
    have e : Nat.land x y = x := by
      apply Nat.eq_of_testBit_eq
      intro i
      rw [← hasB_eq, ← hasB_eq, hasB_and]
      cases hx : hasB x i with
      | false => rfl
      | true =>
        cases hy : hasB y i with
        | false => exact absurd ⟨i, hx, hy⟩ hn
        | true => rfl
    unfold subB at h
    rw [e, beq_n] at h
    simp at h
theorem emk_ok : ∀ {l : List Edge} {e : Edge}, e ∈ l → Region.binds .any e = true → hasB (emk l) e.on = true
  | x :: l, e, h, hb => by
    simp only [emk]
    rcases List.mem_cons.1 h with rfl | h
    · rw [hb, cond_true, hasB_or, hasB_bit]; simp
    · cases hx : Region.binds .any x with
      | true => rw [cond_true, hasB_or, emk_ok h hb]; simp
      | false => rw [cond_false]; exact emk_ok h hb
theorem emk_of : ∀ {l : List Edge} {i : Nat}, hasB (emk l) i = true → ∃ e, e ∈ l ∧ Region.binds .any e = true ∧ e.on = i
  | [], i, h => by simp only [emk, hasB_zero] at h; cases h
  | x :: l, i, h => by
    simp only [emk] at h
    cases hx : Region.binds .any x with
    | true =>
      rw [hx, cond_true, hasB_or, hasB_bit] at h
      simp only [Bool.or_eq_true, decide_eq_true_eq] at h
      rcases h with h | h
      · exact ⟨x, by simp, hx, h⟩
      · obtain ⟨e, h1, h2⟩ := emk_of h
        exact ⟨e, by simp [h1], h2⟩
    | false =>
      rw [hx, cond_false] at h
      obtain ⟨e, h1, h2⟩ := emk_of h
      exact ⟨e, by simp [h1], h2⟩
theorem lkL_ok : ∀ {l : List Operand} {t : Nat}, Operand.tmp t ∈ l → hasB (lkL l) t = true
  | x :: l, t, h => by
    simp only [lkL]
    rcases List.mem_cons.1 h with rfl | h
    · simp only [hasB_or, hasB_bit]; simp
    · have := lkL_ok h
      cases x <;> simp only [hasB_or, this, Bool.or_true]
theorem allI_ok {f : Nat → Pt → Bool} : ∀ {l : List Pt} {i j : Nat} {p : Pt}, allI f l i = true → l[j]? = some p → f (i + j) p = true
  | [], i, j, p, _, h => by simp at h
  | q :: l, i, 0, p, h, hp => by
    simp only [allI, Bool.and_eq_true] at h
    simp only [List.getElem?_cons_zero, Option.some.injEq] at hp
    subst hp
    exact h.1
  | q :: l, i, j + 1, p, h, hp => by
    simp only [allI, Bool.and_eq_true] at h
    have := allI_ok (j := j) h.2 (by simpa using hp)
    rwa [show Nat.succ i + j = i + (j + 1) by omega] at this
theorem hasB_dst (o : Oper) (t : Nat) : hasB (dstM o) t = true ↔ o.dst = some t := by
  unfold dstM
  cases h : o.dst with
  | none => simp [hasB_zero]
  | some d => simp [hasB_bit]
theorem wm_ok : ∀ {l : List Pt} {i D t : Nat}, hasB (wm l i D) t = true ↔ ∃ j p, l[j]? = some p ∧ hasB D (i + j) = true ∧ p.o.dst = some t
  | [], i, D, t => by simp [wm, hasB_zero]
  | q :: l, i, D, t => by
    simp only [wm]
    have ih := wm_ok (l := l) (i := Nat.succ i) (D := D) (t := t)
    constructor
    · intro h
      have key : hasB (wm l (Nat.succ i) D) t = true → ∃ j p, (q :: l)[j]? = some p ∧ hasB D (i + j) = true ∧ p.o.dst = some t := by
        intro h
        obtain ⟨j, p, h1, h2, h3⟩ := ih.1 h
        exact ⟨j + 1, p, by simpa using h1, by rwa [show Nat.succ i + j = i + (j + 1) by omega] at h2, h3⟩
      cases hd : hasB D i with
      | true =>
        rw [hd, cond_true, hasB_or, Bool.or_eq_true, hasB_dst] at h
        rcases h with h | h
        · exact ⟨0, q, rfl, hd, h⟩
        · exact key h
      | false =>
        rw [hd, cond_false] at h
        exact key h
    · rintro ⟨j, p, h1, h2, h3⟩
      cases j with
      | zero =>
        simp only [List.getElem?_cons_zero, Option.some.injEq] at h1
        subst h1
        rw [show hasB D i = true from h2, cond_true, hasB_or, Bool.or_eq_true, hasB_dst]
        exact .inl h3
      | succ j =>
        have := ih.2 ⟨j, p, by simpa using h1, by rwa [show i + (j + 1) = Nat.succ i + j by omega] at h2, h3⟩
        cases hd : hasB D i with
        | true => rw [cond_true, hasB_or, this, Bool.or_true]
        | false => rw [cond_false]; exact this
theorem closeM_ok {L : Nat → Prop} : ∀ {l : List (Nat × Nat)} {U : Nat}, (∀ c m, (c, m) ∈ l → L c → ∀ e, hasB m e = true → L e) → (∀ c, hasB U c = true → L c) → ∀ c, hasB (closeM l U) c = true → L c
  | [], U, _, hU, c, h => hU c h
  | (c, m) :: l, U, hl, hU, x, h => by
    have h : hasB (closeM l (cond (hasB U c) (Nat.lor U m) U)) x = true := h
    refine closeM_ok (L := L) (l := l) (fun c m hm => hl c m (List.mem_cons_of_mem _ hm)) ?_ x h
    intro y hy
    cases hc : hasB U c with
    | true =>
      rw [hc, cond_true, hasB_or, Bool.or_eq_true] at hy
      rcases hy with hy | hy
      · exact hU y hy
      · exact hl c m (List.mem_cons_self ..) (hU c hc) y hy
    | false =>
      rw [hc, cond_false] at hy
      exact hU y hy
theorem closeM_in : ∀ {l : List (Nat × Nat)} {U c : Nat}, hasB U c = true → hasB (closeM l U) c = true
  | [], U, c, h => h
  | (x, m) :: l, U, c, h => by
    show hasB (closeM l (cond (hasB U x) (Nat.lor U m) U)) c = true
    refine closeM_in ?_
    cases hc : hasB U x with
    | true => rw [cond_true, hasB_or, h]; rfl
    | false => exact h
theorem revI_ok : ∀ {l : List Pt} {i : Nat} {acc : List (Nat × Nat)} {c m : Nat}, (c, m) ∈ revI l i acc → (∃ j p, l[j]? = some p ∧ c = i + j ∧ m = p.em) ∨ (c, m) ∈ acc
  | [], i, acc, c, m, h => .inr h
  | q :: l, i, acc, c, m, h => by
    simp only [revI] at h
    rcases revI_ok h with ⟨j, p, h1, h2, h3⟩ | h
    · exact .inl ⟨j + 1, p, by simpa using h1, by omega, h3⟩
    · rcases List.mem_cons.1 h with h | h
      · obtain ⟨rfl, rfl⟩ := Prod.mk.inj h
        exact .inl ⟨0, q, rfl, rfl, rfl⟩
      · exact .inr h
theorem openF_cons (D X : Nat) (q : Pt) (l : List Pt) (i : Nat) : openF D X (q :: l) i = cond (hasB D i && (Nat.beq q.kd 0 && not (hasB X i))) (q :: openF D X l (Nat.succ i)) (openF D X l (Nat.succ i)) := rfl
theorem openF_ok {D X : Nat} {p : Pt} : ∀ (l : List Pt) (i j : Nat), l[j]? = some p → hasB D (i + j) = true → p.kd = 0 → hasB X (i + j) = false → p ∈ openF D X l i := by
  intro l
  induction l with
  | nil => intro i j h; simp at h
  | cons q l ih =>
    intro i j h h1 h2 h3
    rw [openF_cons]
    cases j with
    | zero =>
      rw [List.getElem?_cons_zero] at h
      obtain rfl := Option.some.inj h
      rw [Nat.add_zero] at h1 h3
      rw [h1, h3, h2]
      exact List.mem_cons_self ..
    | succ j =>
      rw [List.getElem?_cons_succ] at h
      have e : i + (j + 1) = Nat.succ i + j := by omega
      rw [e] at h1 h3
      have := ih (Nat.succ i) j h h1 h2 h3
      cases hc : (hasB D i && (Nat.beq q.kd 0 && !(hasB X i))) with
      | true => exact List.mem_cons_of_mem _ this
      | false => exact this
/-! ### Guards -/
def wantF (ops : List Oper) (o : Oper) (fr : Fr) : Bool :=
  match o.guard with
  | none => true
  | some (j, want) => match (nth' ops j).bind (·.dst) with
    | some t => (match getF (path t) fr with | .bool b => cond want b (not b) | _ => false)
    | none => false
/-- The guard is some bool, it is not known which. -/
def isF (ops : List Oper) (o : Oper) (fr : Fr) : Bool :=
  match o.guard with
  | none => false
  | some (j, want) => match (nth' ops j).bind (·.dst) with
    | some t => (match getF (path t) fr with | .float _ _ => true | _ => false)
    | none => false
theorem gdK_eq (ops : List Oper) (o : Oper) (fr : Fr) (y n : Unit → R) : (gdK ops o).run fr y n = cond (isF ops o fr) false (cond (wantF ops o fr) (y ()) (n ())) := by
  unfold gdK wantF isF
  cases o.guard with
  | none => rfl
  | some jw =>
    obtain ⟨j, want⟩ := jw
    simp only
    cases (nth' ops j).bind (·.dst) with
    | none => rfl
    | some t =>
      simp only
      rw [get_run]
      cases getF (path t) fr <;> rfl
theorem gdK_ok {ops : List Oper} {o : Oper} {fr : Fr} {y n : Unit → R} (h : (gdK ops o).run fr y n = true) : isF ops o fr = false ∧ cond (wantF ops o fr) (y ()) (n ()) = true := by
  rw [gdK_eq] at h
  cases hf : isF ops o fr with
  | true => rw [hf] at h; cases h
  | false => rw [hf] at h; exact ⟨rfl, h⟩
theorem wanted_eq {ops : Array Oper} {o : Oper} (hf : isF ops.toList o fr = false) (h : ∀ t, gTmp ops.toList o = some t → t < a.tmps.size ∧ VR β (getF (path t) fr) (a.eval (.tmp t))) : Region.wanted o (yielded ops a.tmps) = wantF ops.toList o fr := by
  unfold Region.wanted wantF
  unfold gTmp at h
  unfold isF at hf
  cases hg : o.guard with
  | none => rfl
  | some jw =>
    obtain ⟨j, want⟩ := jw
    rw [hg] at h hf
    simp only at h hf ⊢
    rw [nth_eq, Array.getElem?_toList] at h hf ⊢
    cases hd : (ops[j]?).bind (·.dst) with
    | none => simp [yielded, hd]
    | some t =>
      rw [hd] at hf
      simp only at hf
      obtain ⟨h1, h2⟩ := h t hd
      have hyl : yielded ops a.tmps j = match a.eval (.tmp t) with | .bool b => some b | _ => none := by
        unfold yielded
        rw [hd]
        simp only [Option.bind_some, Act.eval, Array.getD_eq_getD_getElem?, Array.getElem?_eq_getElem h1, Option.getD_some]
        cases a.tmps[t] <;> rfl
      rw [hyl]
      simp only
      generalize a.eval (.tmp t) = cv at h2
      generalize getF (path t) fr = av at h2 hf
      cases h2 with
      | bool b _ => cases want <;> cases b <;> rfl
      | anyBool b _ => cases hf
      | _ => rfl
end Go.Ek
namespace Go.Ek
set_option linter.unusedVariables false
set_option linter.unusedSimpArgs false
variable {P : Program} {K : Keep P} {β : Ren} {w : AW} {cw : World} {fr : Fr} {a : Act} {call : CallT}
/-! ### Allocs that may wait -/
structure GivesA (P : Program) (β : Ren) (w1 : AW) (a : Act) (o : Oper) (cw : World) (k : Value → AW → R) : Prop where
  intro ::
  it : ∃ (ao : AO) (co : Obj) (mk cmk : Nat → Value), w1.new ao (fun n w => k (mk n) w) = true ∧ ao.alive = true ∧ ao.fixed = false ∧ OR β ao co ∧ (∀ β' n c, Le β β' → β' n = some c → VR β' (mk n) (cmk c)) ∧
    (execOp a.eval o).run P cw = .ok (.value (cmk cw.heap.size)) (cw.alloc co)
section
variable {dst : Option Tmp} {ty : TypeId} {pos : String} {af : Array Edge} {gd : Option (Nat × Bool)} {k : Value → AW → R} {w1 : AW}
theorem newVal_okA {o : Oper} {t : TypeId} {vs : List Value} {cs : Array Value} (h : newVal w1 t vs k = true) (hv : VRs β vs cs.toList)
    (he : (execOp a.eval o).run P cw = .ok (.value (.pointer (some ⟨cw.heap.size, 0, none⟩))) (cw.alloc (.cells cs t (0, 0)))) : GivesA P β w1 a o cw k :=
  ⟨.cells vs t 0 0, .cells cs t (0, 0), fun n => .pointer (some ⟨n, 0, none⟩), fun c => .pointer (some ⟨c, 0, none⟩), h, rfl, rfl, ⟨rfl, fun i v hi => by
    obtain ⟨cv, h5, h6⟩ := hv.get hi
    exact ⟨cv, by simpa using h5, h6⟩, fz0⟩, fun β' n c _ hc => .ptr 0 hc .nil, he⟩
theorem opA_box {t : TypeId} {x : Operand} (hr : Rel K β w cw) (h : (compOp P ⟨dst, .box t x, ty, pos, af, gd⟩).run call fr w1 k = true) (ht : TmpR β fr a [x]) : GivesA P β w1 a ⟨dst, .box t x, ty, pos, af, gd⟩ cw k := by
  obtain ⟨v, h1, h2⟩ := opd_ok hr h ht
  exact newVal_okA h1 h2.cellsL rfl
theorem opA_alloc {t : TypeId} (h : (compOp P ⟨dst, .alloc t, ty, pos, af, gd⟩).run call fr w1 k = true) : GivesA P β w1 a ⟨dst, .alloc t, ty, pos, af, gd⟩ cw k := by
  simp only [compOp] at h
  cases hz : zeroB P t with
  | none => rw [hz] at h; cases h
  | some z =>
    rw [hz] at h
    exact newVal_okA h (zero_ok (zeroB_ok hz).2) (by simp only [execOp, Instr.alloc, Sem.run_bind, run_zeroB hz, Result.andThen_ok, newVar, newRow, run_newObj, Sem.run_pure]; rfl)
theorem opA_buildSlice {t : TypeId} {n : Nat} {ps : Array (Nat × Operand)} (hr : Rel K β w cw) (h : (compOp P ⟨dst, .buildSlice t n ps, ty, pos, af, gd⟩).run call fr w1 k = true) (ht : TmpR β fr a (ps.toList.map (·.2))) : GivesA P β w1 a ⟨dst, .buildSlice t n ps, ty, pos, af, gd⟩ cw k := by
  simp only [compOp] at h
  cases hd : P.underlying t with
  | none => rw [hd] at h; cases h
  | some d =>
    rw [hd] at h
    cases d with
    | slice e =>
      simp only at h
      cases hz : zeroB P e with
      | none => rw [hz] at h; cases h
      | some z =>
        cases hs : szB P e with
        | none => rw [hz, hs] at h; cases h
        | some sz =>
          rw [hz, hs] at h
          obtain ⟨hz1, hz2⟩ := zeroB_ok hz
          obtain ⟨de, he, hsz⟩ := szB_ok hs
          obtain ⟨ie, hie⟩ := info_of_und he
          have hies : ie.size = sz := by rw [hsz]; simp [Program.cellsOf, hie]
          rw [hie] at hz1
          have hz1 : ie.zero = some z := hz1
          simp only [beq_n, ble_n] at h
          by_cases hn : n = 0
          · simp only [hn, decide_true, cond_true] at h
            cases hps : ps.toList with
            | cons p l => rw [hps] at h; cases h
            | nil =>
              rw [hps] at h
              have h : w1.new (.cells [] e 0 0) (fun b w => k (.slice (some ⟨b, 0, none⟩) 0 0) w) = true := h
              refine ⟨.cells [] e 0 0, .cells #[] e (0, 0), fun n => .slice (some ⟨n, 0, none⟩) 0 0, fun c => .slice (some ⟨c, 0, none⟩) 0 0, h, rfl, rfl, ⟨rfl, fun i v hi => by simp at hi, fz0⟩, fun β' n c _ hc => .slice 0 0 hc ?_ (RmR.small (by unfold big; omega)) .nil, ?_⟩
              · unfold CapR
                rw [if_neg (by unfold big; omega)]
              · have hps' : ps = #[] := by simpa using hps
                subst hps' hn
                simp only [execOp, Instr.buildSlice, Sem.run_bind, run_und hd, Result.andThen_ok, run_sz hs, Nat.zero_mul]
                simp [Instr.fill, newRow]
                rw [show Array.range 0 = #[] from by apply Array.ext'; simp, Array.map_empty]
          simp only [hn, decide_false, cond_false] at h
          cases hcnd : (decide ((cellsL z).length = sz) && (decide (Nat.mul n sz ≤ 16777216) && !decide (sz = 0))) with
          | false => rw [hcnd] at h; cases h
          | true =>
            rw [hcnd] at h
            simp only [cond_true] at h
            simp only [Bool.and_eq_true, decide_eq_true_eq, Bool.not_eq_true', decide_eq_false_iff_not] at hcnd
            obtain ⟨c1, c2, c3⟩ := hcnd
            have c2 : n * sz ≤ 16777216 := c2
            cases hpd : placed (fun i => some (Nat.mul i sz, sz)) ps.toList with
            | none => rw [hpd] at h; cases h
            | some l =>
              rw [hpd] at h
              simp only [repK_eq] at h
              have hzl : z.cells.size = sz := by rw [← c1, cells_plain hz2]; simp
              have hrep : VRs β (repL (cellsL z) n) ((Array.range (n * sz)).map (z.cells[· % z.cells.size]!)).toList := by
                rw [← hzl, rep_eq (by omega)]
                exact (zero_ok hz2).rep n
              obtain ⟨cs', C', h1, h2, h3⟩ := fill_ok hr ps.toList l _ _ _ hpd h hrep ht
              refine ⟨.cells cs' e 0 0, .cells C' e (0, 0), fun m => .slice (some ⟨m, 0, none⟩) n n, fun c => .slice (some ⟨c, 0, none⟩) n n, h1, rfl, rfl, ⟨rfl, fun i v hi => by
                obtain ⟨cv, g1, g2⟩ := h2.get hi
                exact ⟨cv, by simpa using g1, g2⟩, fz0⟩, fun β' m c _ hc => .slice 0 n hc ?_ (RmR.small (by have : n ≤ n * sz := Nat.le_mul_of_pos_right n (by omega); unfold big; omega)) .nil, ?_⟩
              · unfold CapR
                rw [if_neg]
                have : n ≤ n * sz := Nat.le_mul_of_pos_right n (by omega)
                unfold big
                omega
              · have := run_buildSlice (P := P) cw t e n (ps.map fun (i, x) => (i, a.eval x)) C' ie z hd hie hz1 (by rw [hies]; omega) (by rw [hies]; exact Nat.mul_ne_zero hn c3) (by rw [Array.toList_map, hies]; exact h3)
                simp only [execOp, Sem.run_bind, this, Result.andThen_ok, Sem.run_pure]
    | _ => cases h
end
theorem allocs_ok {o : Oper} {k : Value → AW → R} {w1 : AW} (hf : isAl o.op = true) (hr : Rel K β w cw) (h : (compOp P o).run call fr w1 k = true) (ht : TmpR β fr a (opL o.op)) : GivesA P β w1 a o cw k := by
  obtain ⟨dst, op, ty, pos, af, gd⟩ := o
  cases op with
  | alloc t => exact opA_alloc h
  | box t x => exact opA_box hr h ht
  | buildSlice t n ps => exact opA_buildSlice hr h ht
  | _ => cases hf
/-! ### Their strictness -/
theorem f_new {ao : AO} {w1 : AW} : w1.new ao (fun _ _ => false) = false := by
  cases h : w1.new ao (fun _ _ => false) with
  | false => rfl
  | true => obtain ⟨_, h, _⟩ := aw_new h; cases h
theorem f_newVal {t : TypeId} {vs : List Value} {w1 : AW} : newVal w1 t vs (fun _ _ => false) = false := f_new
theorem f_lenC {α : Type} (l : List α) (c : Nat → Bool) : lenK l (fun n => cond (c n) false false) = false := by
  rw [lenK_eq]; exact f_cond _
theorem f_set {α : Type} (l : List α) (n : Nat) (vs : List α) : setK l n vs (fun _ => false) = false := by
  cases h : setK l n vs (fun _ => false) with
  | false => rfl
  | true => obtain ⟨_, _, h, _⟩ := setK_ok _ _ _ _ h; cases h
theorem strictA {o : Oper} {w1 : AW} (h : isAl o.op = true) : (compOp P o).run call fr w1 (fun _ _ => false) = false := by
  obtain ⟨dst, op, ty, pos, af, gd⟩ := o
  cases op with
  | alloc t => simp only [compOp]; split <;> simp [f_newVal]
  | box t x => simp [compOp, f_newVal]
  | buildSlice t n ps =>
    simp only [compOp]
    split
    · split
      · cases hb : Nat.beq n 0 with
        | true =>
          simp only [cond_true]
          split
          · exact f_new
          · rfl
        | false =>
          simp only [cond_false]
          generalize (Nat.beq _ _ && _) = bb
          cases bb with
          | true =>
            simp only [cond_true]
            split
            · simp only [f_new, f_fill, repK_eq]
            · rfl
          | false => rfl
      · rfl
    · rfl
  | _ => cases h
theorem endsA {o : Oper} {w1 : AW} (h : isAl o.op = true) {k : Value → AW → R} (hk : (compOp P o).run call fr w1 k = true) : ∃ v w', k v w' = true := by
  rcases Classical.em (∃ v w', k v w' = true) with he | hn
  · exact he
  · have e : k = fun _ _ => false := by
      funext v w'
      cases hv : k v w' with
      | false => rfl
      | true => exact absurd ⟨v, w', hv⟩ hn
    rw [e, strictA h] at hk
    cases hk
theorem sameAO_ok {x y : AO} (h : sameAO x y = true) : x = y := by
  cases x with
  | cells vs e lo hi =>
    cases y with
    | cells us f l m =>
      simp only [sameAO, Bool.and_eq_true, beq_n, decide_eq_true_eq] at h
      obtain ⟨rfl, rfl, rfl, h⟩ := h
      rw [sameL_ok (same1_ok 8) _ _ h]
    | _ => cases h
  | _ => cases h
/-! ### The world's relation -/
/-- More is kept. -/
structure Sub (K K' : Keep P) : Prop where
  tape : K'.tape = K.tape
  os : K'.os = K.os
  output : K'.output = K.output
  blk : ∀ c o, K.blk c = some o → K'.blk c = some o
  fix : K'.fix = K.fix
  res : ∀ n, K.res n → K'.res n
theorem Rel.less {K' : Keep P} (h : Rel K' β w cw) (hs : Sub K K') : Rel K β w cw := by
  refine ⟨h.tape.trans hs.tape, h.os.trans hs.os, h.output.trans hs.output, fun c o hc => h.keep c o (hs.blk c o hc), ?_, h.inj, h.fresh, h.glob, h.room, fun n hn => h.res n (hs.res n hn)⟩
  intro n o hn ha
  obtain ⟨c, co, h1, h2, h3, h4⟩ := h.obj n o hn ha
  refine ⟨c, co, h1, h2, h3, ?_⟩
  rcases h4 with h4 | h4
  · exact .inl (hs.fix ▸ h4)
  · refine .inr ?_
    cases hb : K.blk c with
    | none => rfl
    | some b => rw [hs.blk c b hb] at h4; cases h4
/-- One block less is kept. -/
def Keep.drop (K : Keep P) (c : Nat) (h : K.fix c = false) : Keep P :=
  ⟨K.tape, K.os, K.output, fun d => if d = c then none else K.blk d, K.fix, (fun d hd => by
      obtain ⟨o, ho⟩ := K.fixed d hd
      refine ⟨o, ?_⟩
      rw [if_neg]
      · exact ho
      · intro e
        rw [e, h] at hd
        cases hd), K.res⟩
/-- A kept block gets the name that waits for it. -/
theorem Rel.lay {w' : AW} {n c : Nat} {o : AO} {co : Obj} (h : Rel K β w cw) (hoa : o.alive = true) (hof : o.fixed = false) (hget : ∀ m, w'.h.get m = if m = n + 1 then some o else w.h.get m) (hnx : w'.nx = w.nx)
    (hb : β n = some c) (hk : K.blk c = some co) (hfix : K.fix c = false) (ho : OR β o co) (hrm : β.rm n = 0) : Rel (K.drop c hfix) β w' cw := by
  have hc := h.keep c co hk
  have hfree : ∀ m a, w.h.get (m + 1) = some a → a.alive = true → β m ≠ some c := by
    intro m a hm ha hbm
    obtain ⟨d, do', h1, h2, h3, h4⟩ := h.obj m a hm ha
    obtain rfl := Option.some.inj (h1.symm.trans hbm)
    rcases h4 with h4 | h4
    · rw [hfix] at h4; exact absurd h4.2 (by decide)
    · rw [hk] at h4; cases h4
  refine ⟨h.tape, h.os, h.output, ?_, ?_, ?_, ?_, h.glob, ?_, ?_⟩
  · intro d o' hd
    have hd : (if d = c then none else K.blk d) = some o' := hd
    by_cases e : d = c
    · rw [if_pos e] at hd; cases hd
    · rw [if_neg e] at hd; exact h.keep d o' hd
  · intro m o' hm ha
    rw [hget] at hm
    by_cases e : m + 1 = n + 1
    · rw [if_pos e] at hm
      obtain rfl := Option.some.inj hm
      have e : m = n := by omega
      subst e
      exact ⟨c, co, hb, hc, ho, .inr (if_pos rfl)⟩
    · rw [if_neg e] at hm
      obtain ⟨d, do', h1, h2, h3, h4⟩ := h.obj m o' hm ha
      refine ⟨d, do', h1, h2, h3, h4.imp id fun h4 => ?_⟩
      show (if d = c then none else K.blk d) = none
      split
      · rfl
      · exact h4
  · intro x y p q d hx hy hp hq h1 h2
    rw [hget] at hx hy
    by_cases e : x + 1 = n + 1
    · have e : x = n := by omega
      subst e
      obtain rfl := Option.some.inj (hb.symm.trans h1)
      by_cases e2 : y + 1 = x + 1
      · omega
      · rw [if_neg e2] at hy
        exact (hfree y q hy hq h2).elim
    · rw [if_neg e] at hx
      by_cases e2 : y + 1 = n + 1
      · have e2 : y = n := by omega
        subst e2
        obtain rfl := Option.some.inj (hb.symm.trans h2)
        exact (hfree x p hx hp h1).elim
      · rw [if_neg e2] at hy
        exact h.inj x y p q d hx hy hp hq h1 h2
  · intro m hm
    exact h.fresh m (by omega)
  · intro m vs e lo hi d C e' f hm hd hcd
    rw [hget] at hm
    by_cases e2 : m + 1 = n + 1
    · have e2 : m = n := by omega
      subst e2
      rw [hrm, Nat.zero_mul]
      exact Nat.zero_le _
    · rw [if_neg e2] at hm
      exact h.room m vs e lo hi d C e' f hm hd hcd
  · intro m hm
    rw [hnx]
    exact h.res m hm
end Go.Ek
namespace Go.Ek
set_option linter.unusedVariables false
set_option linter.unusedSimpArgs false
variable {P : Program} {K : Keep P} {β : Ren} {w : AW} {cw : World} {fr : Fr} {a : Act} {call : CallT}
/-! ### Lists of what was run -/
abbrev Ls (L : Array Bool) (i : Nat) : Prop := L.getD i false = true
theorem ls_lt {L : Array Bool} {i : Nat} (h : Ls L i) : i < L.size := by
  rcases Nat.lt_or_ge i L.size with h' | h'
  · exact h'
  · simp [Ls, Array.getElem?_eq_none h'] at h
theorem ls_set {L : Array Bool} {i j : Nat} (hi : i < L.size) : Ls (L.setIfInBounds i true) j ↔ (j = i ∨ Ls L j) := by
  by_cases e : j = i
  · subst e
    simp [Ls, hi]
  · have := getD_set_ne (listed := L) (i := i) (j := j) false (fun h => e h.symm)
    unfold Ls
    rw [this]
    simp [e]
theorem unls {L : Array Bool} {i : Nat} (h : L.getD i true = false) : i < L.size ∧ ¬ Ls L i := by
  rcases Nat.lt_or_ge i L.size with h' | h'
  · refine ⟨h', fun hl => ?_⟩
    simp [Ls, h'] at h hl
    rw [h] at hl
    cases hl
  · simp [Array.getElem?_eq_none h'] at h
theorem unls_of {L : Array Bool} {i : Nat} (hi : i < L.size) (h : ¬ Ls L i) : L.getD i true = false := by
  simp [Ls, hi] at h ⊢
  exact h
def upd (V : Nat → Value) (i : Nat) (v : Value) : Nat → Value := fun j => if j = i then v else V j
theorem upd_at (V : Nat → Value) (i : Nat) (v : Value) : upd V i v i = v := if_pos rfl
theorem upd_ne (V : Nat → Value) {i j : Nat} (v : Value) (h : j ≠ i) : upd V i v j = V j := if_neg h
structure Good (ls : List Pt) : Prop where
  back : ∀ (j : Nat) (p : Pt) (e : Nat), ls[j]? = some p → hasB p.em e = true → e < j
  small : ∀ (j : Nat) (p : Pt) (d : Nat), ls[j]? = some p → p.o.dst = some d → d < 16000
  uniq : ∀ (i : Nat) (j : Nat) (p : Pt) (q : Pt) (d : Nat), ls[i]? = some p → ls[j]? = some q → p.o.dst = some d → q.o.dst = some d → i = j
  who : ∀ (i : Nat) (j : Nat) (p : Pt) (q : Pt) (d : Nat), ls[i]? = some p → ls[j]? = some q → i ≠ j → p.o.dst = some d → hasB q.lk d = true → hasB q.em i = true ∨ hasB p.em j = true
theorem good_of {ls : List Pt} (h : okG ls = true) : Good ls := by
  unfold okG at h
  have key : ∀ (j : Nat) (p : Pt), ls[j]? = some p → (Nat.blt p.em (bit j) && okW ls j p) = true := by
    intro j p hp
    have := allI_ok h hp
    rwa [Nat.zero_add] at this
  have two : ∀ (i : Nat) (j : Nat) (p : Pt) (q : Pt) (d : Nat), ls[i]? = some q → ls[j]? = some p → p.o.dst = some d → d < 16000 ∧ (i ≠ j → (q.o.dst ≠ some d ∧ (hasB q.lk d = true → hasB q.em j = true ∨ hasB p.em i = true))) := by
    intro i j p q d hi hj hd
    have h1 := key j p hj
    rw [Bool.and_eq_true] at h1
    have h2 := h1.2
    unfold okW at h2
    rw [hd] at h2
    simp only [Bool.and_eq_true, blt_n, decide_eq_true_eq] at h2
    refine ⟨h2.1, fun hne => ?_⟩
    have h3 := allI_ok h2.2 hi
    simp only [Nat.zero_add, beq_n, hne, decide_false, Bool.false_or, Bool.and_eq_true] at h3
    refine ⟨fun he => ?_, fun hl => ?_⟩
    · have h4 := h3.1
      unfold dstNe at h4
      rw [he] at h4
      simp [beq_n] at h4
    · have h4 := h3.2
      rw [hl] at h4
      simpa using h4
  refine ⟨?_, ?_, ?_, ?_⟩
  · intro j p e hp he
    have h1 := key j p hp
    rw [Bool.and_eq_true, blt_n, decide_eq_true_eq] at h1
    have h2 : bit j = 2 ^ j := by
      unfold bit
      exact (Nat.shiftLeft_eq 1 j).trans (Nat.one_mul _)
    rw [h2] at h1
    rw [hasB_eq] at he
    rcases Nat.lt_or_ge e j with hlt | hge
    · exact hlt
    · have := Nat.testBit_lt_two_pow (Nat.lt_of_lt_of_le h1.1 (Nat.pow_le_pow_right (by omega) hge))
      rw [this] at he
      cases he
  · intro j p d hp hd
    exact (two j j p p d hp hp hd).1
  · intro i j p q d hi hj h1 h2
    by_cases e : i = j
    · exact e
    · exact absurd h1 ((two i j q p d hi hj h2).2 e).1
  · intro i j p q d hi hj hne h1 h2
    exact ((two j i p q d hj hi h1).2 (fun e => hne e.symm)).2 h2
theorem pt_of {ops : Array Oper} {i : Nat} {p : Pt} (h : (ops.toList.map (mkPt P ops.toList))[i]? = some p) : ops[i]? = some p.o ∧ p = mkPt P ops.toList p.o := by
  rw [List.getElem?_map, Array.getElem?_toList] at h
  cases ho : ops[i]? with
  | none => rw [ho] at h; cases h
  | some o =>
    rw [ho] at h
    obtain rfl := Option.some.inj h
    exact ⟨rfl, rfl⟩
theorem pt_at {ops : Array Oper} {i : Nat} {o : Oper} (h : ops[i]? = some o) : (ops.toList.map (mkPt P ops.toList))[i]? = some (mkPt P ops.toList o) := by
  rw [List.getElem?_map, Array.getElem?_toList, h]
  rfl
/-! ### What an operation looks at -/
section
variable (ls : List Pt) (f0 : Fr) (D : Nat) (V : Nat → Value)
def Look (j : Nat) (p : Pt) (F : Fr) : Prop := ∀ t, t < 16000 → hasB p.lk t = true →
  (∃ (i : Nat) (q : Pt), ls[i]? = some q ∧ q.o.dst = some t ∧ hasB p.em i = true ∧ hasB D i = true ∧ getF (path t) F = V i) ∨
  ((∀ (i : Nat) (q : Pt), ls[i]? = some q → q.o.dst = some t → i = j ∨ hasB q.em j = true) ∧ getF (path t) F = getF (path t) f0)
/-- What is written so far. -/
structure Wr (fr : Fr) : Prop where
  wr : ∀ (i : Nat) (p : Pt) (d : Nat), ls[i]? = some p → hasB D i = true → p.o.dst = some d → getF (path d) fr = V i
  nw : ∀ t, t < 16000 → (∀ (i : Nat) (p : Pt), ls[i]? = some p → hasB D i = true → p.o.dst ≠ some t) → getF (path t) fr = getF (path t) f0
end
variable {ls : List Pt} {f0 : Fr} {D : Nat} {V : Nat → Value}
theorem Look.mono {D' : Nat} {V' : Nat → Value} {j : Nat} {p : Pt} {F : Fr} (h : Look ls f0 D V j p F) (hD : ∀ i, hasB D i = true → hasB D' i = true) (hV : ∀ i, hasB D i = true → V' i = V i) : Look ls f0 D' V' j p F := by
  intro t ht hl
  rcases h t ht hl with ⟨i, q, h1, h2, h3, h4, h5⟩ | h
  · exact .inl ⟨i, q, h1, h2, h3, hD i h4, by rw [hV i h4]; exact h5⟩
  · exact .inr h
theorem look_of (hg : Good ls) (hw : Wr ls f0 D V fr) {j : Nat} {p : Pt} (hp : ls[j]? = some p) (he : ∀ e, hasB p.em e = true → hasB D e = true) (hs : subB (Nat.land p.lk (wm ls 0 D)) (wm ls 0 p.em) = true) : Look ls f0 D V j p fr := by
  intro t ht hl
  rcases Classical.em (∃ (i : Nat) (q : Pt), ls[i]? = some q ∧ hasB D i = true ∧ q.o.dst = some t) with ⟨i, q, h1, h2, h3⟩ | hn
  · have hw1 : hasB (wm ls 0 D) t = true := wm_ok.2 ⟨i, q, h1, by rwa [Nat.zero_add], h3⟩
    have hw2 : hasB (wm ls 0 p.em) t = true := subB_ok hs (by rw [hasB_and, hl, hw1]; rfl)
    obtain ⟨i2, q2, g1, g2, g3⟩ := wm_ok.1 hw2
    rw [Nat.zero_add] at g2
    obtain rfl := hg.uniq _ _ _ _ _ h1 g1 h3 g3
    exact .inl ⟨i, q, h1, h3, g2, h2, hw.wr i q t h1 h2 h3⟩
  · refine .inr ⟨?_, hw.nw t ht fun i q h1 h2 h3 => hn ⟨i, q, h1, h2, h3⟩⟩
    intro i q h1 h2
    by_cases e : i = j
    · exact .inl e
    · refine .inr ?_
      rcases hg.who i j q p t h1 hp e h2 hl with h | h
      · exact absurd ⟨i, q, h1, he i h, h2⟩ hn
      · exact h
theorem Wr.put (hg : Good ls) (hw : Wr ls f0 D V fr) {i : Nat} {p : Pt} (hp : ls[i]? = some p) (hi : hasB D i = false) (v : Value) :
    Wr ls f0 (Nat.lor D (bit i)) (upd V i v) (match p.o.dst with | some d => setF (path d) v fr | none => fr) := by
  constructor
  · intro j q d hq hD hd
    have hd16 := hg.small j q d hq hd
    by_cases e : j = i
    · subst e
      obtain rfl := Option.some.inj (hp.symm.trans hq)
      rw [hd]
      simp only
      rw [getF_setF, if_pos rfl, upd_at]
    · rw [hasB_or, hasB_bit, Bool.or_eq_true, decide_eq_true_eq] at hD
      have hD : hasB D j = true := hD.resolve_right (fun h => e h.symm)
      rw [upd_ne _ _ e]
      have h1 := hw.wr j q d hq hD hd
      cases hpd : p.o.dst with
      | none => exact h1
      | some d' =>
        simp only
        rw [getF_setF, if_neg]
        · exact h1
        · intro e2
          have := path_inj hd16 (hg.small i p d' hp hpd) e2
          subst this
          exact e (hg.uniq _ _ _ _ _ hq hp hd hpd)
  · intro t ht hn
    have hn' : ∀ (j : Nat) (q : Pt), ls[j]? = some q → hasB D j = true → q.o.dst ≠ some t := fun j q hq hD => hn j q hq (by rw [hasB_or, hD]; rfl)
    have h1 := hw.nw t ht hn'
    have h2 : p.o.dst ≠ some t := hn i p hp (by rw [hasB_or, hasB_bit]; simp)
    cases hpd : p.o.dst with
    | none => exact h1
    | some d' =>
      simp only
      rw [getF_setF, if_neg]
      · exact h1
      · intro e2
        have := path_inj ht (hg.small i p d' hp hpd) e2
        subst this
        exact h2 hpd
/-! ### The two states -/
/-- The evaluator's, parked ahead of an effect or at the end. -/
structure Ev (P : Program) (ops : List Oper) (ls : List Pt) (call : CallT) (b : Nat) (f0 : Fr) (D X : Nat) (V : Nat → Value) (fr : Fr) (pd : Pd) (w : AW) : Prop where
  wr : Wr ls f0 D V fr
  ems : ∀ (j : Nat) (p : Pt) (e : Nat), ls[j]? = some p → hasB D j = true → hasB p.em e = true → hasB D e = true
  eff : ∀ (i : Nat) (p : Pt), ls[i]? = some p → hasB D i = true → hasB X i = false → p.kd = 0 ∨ p.kd = 1
  fl : ∀ (j : Nat) (p : Pt), ls[j]? = some p → hasB D j = true → hasB X j = false → p.kd = 0 → ∃ F, Look ls f0 D V j p F ∧ isF ops p.o F = false ∧
    (wantF ops p.o F = true → (compOp P p.o).run call F w (fun v _ => sameW p.o.dst v (V j)) = true) ∧ (wantF ops p.o F = false → V j = undef ∨ p.o.dst = none)
  al : ∀ (j : Nat) (p : Pt), ls[j]? = some p → hasB D j = true → hasB X j = false → p.kd = 1 → ∃ F, Look ls f0 D V j p F ∧ isF ops p.o F = false ∧
    (wantF ops p.o F = true → ∃ ao, (j, ao) ∈ pd ∧ (compOp P p.o).run call F ⟨.lf, Nat.add b j⟩ (fun v' w1' => w1'.get (Nat.add b j) fun ao' => same1 8 v' (V j) && sameAO ao' ao) = true) ∧
    (wantF ops p.o F = false → V j = undef ∧ ∀ ao, (j, ao) ∉ pd)
  pds : ∀ j ao, (j, ao) ∈ pd → hasB D j = true ∧ hasB X j = false ∧ ∃ (p : Pt), ls[j]? = some p ∧ p.kd = 1
  nod : (pd.map (·.1)).Nodup
/-- The machine's. -/
structure Ma (K : Keep P) (N : Nat) (ls : List Pt) (b : Nat) (f0 : Fr) (D X : Nat) (V : Nat → Value) (pd : Pd) (w : AW) (L : Array Bool) (β : Ren) (K' : Keep P) (a : Act) (cw : World) : Prop where
  sz : L.size = ls.length
  closed : ∀ (i : Nat) (p : Pt) (e : Nat), ls[i]? = some p → Ls L i → hasB p.em e = true → Ls L e
  xl : ∀ i, hasB X i = true → Ls L i
  ld : ∀ i, Ls L i → hasB D i = true
  size : a.tmps.size = N
  wr : ∀ (i : Nat) (p : Pt) (d : Nat), ls[i]? = some p → Ls L i → p.o.dst = some d → VR β (V i) (a.eval (.tmp d))
  nw : ∀ t, t < N → (∀ (i : Nat) (p : Pt), ls[i]? = some p → Ls L i → p.o.dst ≠ some t) → VR β (getF (path t) f0) (a.eval (.tmp t))
  defers : a.defers = []
  rel : Rel K' β w cw
  sub : Sub K K'
  low : ∀ n, K.res n → n < b
  pend : ∀ j ao, (j, ao) ∈ pd → Ls L j → ∃ c co, β (Nat.add b j) = some c ∧ K'.blk c = some co ∧ K.blk c = none ∧ OR β ao co ∧ β.rm (Nat.add b j) = 0 ∧ ao.alive = true ∧ ao.fixed = false
  dist : ∀ i j ao ao' c, (i, ao) ∈ pd → (j, ao') ∈ pd → Ls L i → Ls L j → β (Nat.add b i) = some c → β (Nat.add b j) = some c → i = j
  res : ∀ (j : Nat) (p : Pt), ls[j]? = some p → p.kd = 1 → ¬ Ls L j → K'.res (Nat.add b j)
end Go.Ek
namespace Go.Ek
set_option linter.unusedVariables false
set_option linter.unusedSimpArgs false
variable {P : Program} {K K' : Keep P} {β : Ren} {w : AW} {cw : World} {fr : Fr} {a : Act} {call : CallT} {ls : List Pt} {f0 : Fr} {D X b N : Nat} {V : Nat → Value} {pd : Pd} {L : Array Bool}
/-! ### The machine lists one more -/
theorem eval_put_same {d : Nat} {v : Value} (h : d < a.tmps.size) : (a.put (some d) v).eval (.tmp d) = v := by
  simp [Act.eval, Act.put, Array.getD_eq_getD_getElem?, Array.getElem?_setIfInBounds, h]
theorem eval_put_ne {o : Option Tmp} {t : Nat} {v : Value} (h : o ≠ some t) : (a.put o v).eval (.tmp t) = a.eval (.tmp t) := by
  cases o with
  | none => rfl
  | some d =>
    have : d ≠ t := fun e => h (by rw [e])
    simp [Act.eval, Act.put, Array.getD_eq_getD_getElem?, Array.getElem?_setIfInBounds_ne this]
theorem put_size (o : Option Tmp) (v : Value) : (a.put o v).tmps.size = a.tmps.size := by cases o <;> simp [Act.put]
/-- The frame behind one more. -/
theorem Ma.frame1 (hg : Good ls) (hm : Ma K N ls b f0 D X V pd w L β K' a cw) {i : Nat} {p : Pt} (hp : ls[i]? = some p) (hiL : ¬ Ls L i) (hdN : ∀ d, p.o.dst = some d → d < N) {V' : Nat → Value} {β' : Ren} (hl : Le β β')
    (hV : ∀ j, Ls L j → V' j = V j) {cv : Value} (hv : p.o.dst = none ∨ VR β' (V' i) cv) :
    (∀ (j : Nat) (q : Pt) (d : Nat), ls[j]? = some q → (j = i ∨ Ls L j) → q.o.dst = some d → VR β' (V' j) ((a.put p.o.dst cv).eval (.tmp d))) ∧
    (∀ t, t < N → (∀ (j : Nat) (q : Pt), ls[j]? = some q → (j = i ∨ Ls L j) → q.o.dst ≠ some t) → VR β' (getF (path t) f0) ((a.put p.o.dst cv).eval (.tmp t))) := by
  constructor
  · intro j q d hq hj hd
    by_cases e : j = i
    · subst e
      obtain rfl := Option.some.inj (hp.symm.trans hq)
      rw [hd, eval_put_same (by rw [hm.size]; exact hdN d hd)]
      rcases hv with hv | hv
      · rw [hv] at hd; cases hd
      · exact hv
    · have hj := hj.resolve_left e
      rw [eval_put_ne (fun h => e (hg.uniq _ _ _ _ _ hq hp hd h)), hV j hj]
      exact (hm.wr j q d hq hj hd).mono hl
  · intro t ht hn
    rw [eval_put_ne (hn i p hp (.inl rfl))]
    exact (hm.nw t ht fun j q hq hj => hn j q hq (.inr hj)).mono hl
theorem Ma.closed1 (hm : Ma K N ls b f0 D X V pd w L β K' a cw) {i : Nat} {p : Pt} (hp : ls[i]? = some p) (hr : ∀ e, hasB p.em e = true → Ls L e) (hi : i < L.size) :
    ∀ (j : Nat) (q : Pt) (e : Nat), ls[j]? = some q → Ls (L.setIfInBounds i true) j → hasB q.em e = true → Ls (L.setIfInBounds i true) e := by
  intro j q e hq hj he
  rw [ls_set hi] at hj ⊢
  rcases hj with rfl | hj
  · obtain rfl := Option.some.inj (hp.symm.trans hq)
    exact .inr (hr e he)
  · exact .inr (hm.closed j q e hq hj he)
/-- One more of those that change no world. -/
theorem Ma.list (hg : Good ls) (hm : Ma K N ls b f0 D X V pd w L β K' a cw) {i : Nat} {p : Pt} (hp : ls[i]? = some p) (hi : i < L.size) (hiL : ¬ Ls L i) (hiD : hasB D i = true) (hdN : ∀ d, p.o.dst = some d → d < N)
    (hr : ∀ e, hasB p.em e = true → Ls L e) (hpd : ∀ ao, (i, ao) ∉ pd) {cv : Value} (hv : p.o.dst = none ∨ VR β (V i) cv) : Ma K N ls b f0 D X V pd w (L.setIfInBounds i true) β K' (a.put p.o.dst cv) cw := by
  obtain ⟨f1, f2⟩ := hm.frame1 hg hp hiL hdN (Le.refl β) (V' := V) (fun _ _ => rfl) hv
  have hne : ∀ j ao, (j, ao) ∈ pd → Ls (L.setIfInBounds i true) j → Ls L j := by
    intro j ao hj hl
    rw [ls_set hi] at hl
    rcases hl with rfl | hl
    · exact absurd hj (hpd ao)
    · exact hl
  exact { sz := by rw [Array.size_setIfInBounds]; exact hm.sz
          closed := hm.closed1 hp hr hi
          xl := fun j hj => (ls_set hi).2 (.inr (hm.xl j hj))
          ld := fun j hj => by
            rcases (ls_set hi).1 hj with rfl | hj
            · exact hiD
            · exact hm.ld j hj
          size := by rw [put_size]; exact hm.size
          wr := fun j q d hq hj hd => f1 j q d hq ((ls_set hi).1 hj) hd
          nw := fun t ht hn => f2 t ht fun j q hq hj => hn j q hq ((ls_set hi).2 hj)
          defers := by rw [Go.Ek.put_defers]; exact hm.defers
          rel := hm.rel
          sub := hm.sub
          low := hm.low
          pend := fun j ao hj hl => hm.pend j ao hj (hne j ao hj hl)
          dist := fun j k ao ao' c hj hk hjl hkl => hm.dist j k ao ao' c hj hk (hne j ao hj hjl) (hne k ao' hk hkl)
          res := fun j q hq hk hl => hm.res j q hq hk fun h => hl ((ls_set hi).2 (.inr h)) }
/-! ### What a ready operation sees -/
theorem Ma.sees (hN : N ≤ 16000) (hm : Ma K N ls b f0 D X V pd w L β K' a cw) {i : Nat} {p : Pt} {F : Fr} {D' : Nat} (hp : ls[i]? = some p) (hiL : ¬ Ls L i) (hr : ∀ e, hasB p.em e = true → Ls L e) (hF : Look ls f0 D' V i p F) :
    ∀ t, t < N → hasB p.lk t = true → VR β (getF (path t) F) (a.eval (.tmp t)) := by
  intro t ht hl
  rcases hF t (by omega) hl with ⟨j, q, h1, h2, h3, h4, h5⟩ | ⟨h1, h2⟩
  · rw [h5]
    exact hm.wr j q t h1 (hr j h3) h2
  · rw [h2]
    refine hm.nw t ht fun j q hq hj hd => ?_
    rcases h1 j q hq hd with rfl | h
    · exact hiL hj
    · exact hiL (hm.closed j q i hq hj h)
end Go.Ek
namespace Go.Ek
set_option linter.unusedVariables false
set_option linter.unusedSimpArgs false
variable {P : Program} {K K' : Keep P} {β : Ren} {w : AW} {cw : World} {fr : Fr} {a : Act} {call : CallT} {ls : List Pt} {f0 : Fr} {D X b N : Nat} {V : Nat → Value} {pd : Pd} {L : Array Bool}
theorem tmps_of {ops : Array Oper} {o : Oper} {F : Fr} (hok : okOp N o = true) (h : ∀ t, t < N → hasB (mkPt P ops.toList o).lk t = true → VR β (getF (path t) F) (a.eval (.tmp t))) : TmpR β F a (opL o.op) := by
  intro t ht
  unfold okOp at hok
  rw [Bool.and_eq_true] at hok
  have h1 := List.all_eq_true.1 hok.2 _ ht
  refine h t (by simpa [okT, blt_n] using h1) ?_
  simp only [mkPt]
  rw [hasB_or, lkL_ok ht]
  rfl
theorem guard_of {ops : Array Oper} {o : Oper} {F : Fr} (hall : ops.toList.all (okOp N) = true) (hsz : a.tmps.size = N) (hF : isF ops.toList o F = false) (h : ∀ t, t < N → hasB (mkPt P ops.toList o).lk t = true → VR β (getF (path t) F) (a.eval (.tmp t))) :
    Region.wanted o (yielded ops a.tmps) = wantF ops.toList o F := by
  refine wanted_eq (β := β) hF fun t ht => ?_
  have htN : t < N := by
    unfold gTmp at ht
    split at ht
    · cases ht
    · rename_i j want _
      rw [nth_eq, Array.getElem?_toList] at ht
      cases hoj : ops[j]? with
      | none => rw [hoj] at ht; cases ht
      | some oj =>
        rw [hoj] at ht
        have hd : oj.dst = some t := ht
        have := List.all_eq_true.1 hall oj (by rw [← Array.getElem?_toList] at hoj; exact List.mem_of_getElem? hoj)
        unfold okOp at this
        rw [hd] at this
        simp only [blt_n, Bool.and_eq_true, decide_eq_true_eq] at this
        exact this.1
  refine ⟨by omega, h t htN ?_⟩
  simp only [mkPt, ht]
  rw [hasB_or, hasB_bit]
  simp
theorem dst_lt {o : Oper} (hok : okOp N o = true) : ∀ d, o.dst = some d → d < N := by
  intro d hd
  unfold okOp at hok
  rw [hd] at hok
  simp only [blt_n, Bool.and_eq_true, decide_eq_true_eq] at hok
  exact hok.1
theorem kd0 {ops : List Oper} {o : Oper} (h : (mkPt P ops o).kd = 0) : flt P o.op = true := by
  simp only [mkPt] at h
  cases hw : waits ops o.op with
  | true => rw [hw] at h; cases h
  | false =>
  rw [hw, cond_false] at h
  cases hf : flt P o.op with
  | true => rfl
  | false => rw [hf] at h; cases ha : isAl o.op <;> rw [ha] at h <;> cases h
theorem kd1 {ops : List Oper} {o : Oper} (h : (mkPt P ops o).kd = 1) : isAl o.op = true := by
  simp only [mkPt] at h
  cases hw : waits ops o.op with
  | true => rw [hw] at h; cases h
  | false =>
  rw [hw, cond_false] at h
  cases hf : flt P o.op with
  | true => rw [hf] at h; cases h
  | false => cases ha : isAl o.op with
    | true => rfl
    | false => rw [hf, ha] at h; cases h
theorem in_ready {ops : Array Oper} {i : Nat} (hls : ls = ops.toList.map (mkPt P ops.toList)) (h : i ∈ Region.ready .any ops L) : i < L.size ∧ ¬ Ls L i ∧ ∃ o, ops[i]? = some o ∧ ls[i]? = some (mkPt P ops.toList o) ∧ ∀ e, hasB (mkPt P ops.toList o).em e = true → Ls L e := by
  obtain ⟨h1, o, ho, h2⟩ := mem_ready.1 h
  obtain ⟨h3, h4⟩ := unls h1
  refine ⟨h3, h4, o, ho, by rw [hls]; exact pt_at ho, fun e he => ?_⟩
  obtain ⟨x, hx, hb, rfl⟩ := emk_of he
  exact h2 x (by simpa using hx) hb
/-- A float. -/
theorem step_flt {ops : Array Oper} {Q : Exit → Act → World → Prop} {i : Nat} {Kt : Act → World → Prop} (hls : ls = ops.toList.map (mkPt P ops.toList)) (hg : Good ls) (hN : N ≤ 16000) (hall : ops.toList.all (okOp N) = true)
    (he : Ev P ops.toList ls call b f0 D X V fr pd w) (hm : Ma K N ls b f0 D X V pd w L β K' a cw) (hi : i ∈ Region.ready .any ops L) (hD : hasB D i = true) (hk : ∀ (p : Pt), ls[i]? = some p → p.kd = 0)
    (hK : ∀ a', Ma K N ls b f0 D X V pd w (L.setIfInBounds i true) β K' a' cw → Kt a' cw) : wpOp P ops Q i Kt a cw := by
  obtain ⟨h1, h2, o, ho, hp, hr⟩ := in_ready hls hi
  have hX : hasB X i = false := by
    cases hx : hasB X i with
    | false => rfl
    | true => exact absurd (hm.xl i hx) h2
  have h0 := hk _ hp
  have hok : okOp N o = true := List.all_eq_true.1 hall o (by rw [← Array.getElem?_toList] at ho; exact List.mem_of_getElem? ho)
  obtain ⟨F, g1, gF, g2, g3⟩ := he.fl i _ hp hD hX h0
  have hs := hm.sees hN hp h2 hr g1
  have hnp : ∀ ao, (i, ao) ∉ pd := fun ao hin => by
    obtain ⟨_, _, q, hq, hq1⟩ := he.pds i ao hin
    obtain rfl := Option.some.inj (hp.symm.trans hq)
    rw [h0] at hq1
    cases hq1
  have hw := guard_of (o := o) hall hm.size gF hs
  unfold wpOp
  simp only [ho, hw]
  cases hwf : wantF ops.toList o F with
  | true =>
    simp only [if_true]
    refine .inl ?_
    obtain ⟨v, cv, e1, e2, e3⟩ := (floats_ok (kd0 h0) hm.rel (g2 hwf) (tmps_of hok hs)).it
    have hv : o.dst = none ∨ VR β (V i) cv := by
      have e1 : sameW o.dst v (V i) = true := e1
      cases hd : o.dst with
      | none => exact .inl rfl
      | some d =>
        rw [hd] at e1
        exact .inr (same1_ok 8 _ _ e1 ▸ e2)
    unfold Oper.wp
    rw [e3]
    exact hK _ (hm.list hg hp h1 h2 hD (dst_lt hok) hr hnp hv)
  | false =>
    simp only [Bool.false_eq_true, if_false]
    have hv : o.dst = none ∨ VR β (V i) undef := by
      rcases g3 hwf with h | h
      · exact .inr (by rw [h]; exact undef_ok)
      · exact .inl h
    exact hK _ (hm.list hg hp h1 h2 hD (dst_lt hok) hr hnp hv)
/-- A new block whose name waits. -/
theorem Rel.wait {n : Nat} {co : Obj} (h : Rel K β w cw) (hn : K.res n) : ∃ K' : Keep P, K'.tape = K.tape ∧ K'.os = K.os ∧ K'.output = K.output ∧ K'.fix = K.fix ∧ (∀ d, K'.blk d = if d = cw.heap.size then some co else K.blk d) ∧ (∀ m, K'.res m ↔ K.res m ∧ m ≠ n) ∧
    Le β ⟨fun m => if m = n then some cw.heap.size else β m, fun m => if m = n then 0 else β.rm m⟩ ∧ Rel K' ⟨fun m => if m = n then some cw.heap.size else β m, fun m => if m = n then 0 else β.rm m⟩ w (cw.alloc co) := by
  obtain ⟨hn1, hn2⟩ := h.res n hn
  have hlt : ∀ c co', cw.heap[c]? = some co' → c < cw.heap.size := fun c co' hc => by
    rcases Nat.lt_or_ge c cw.heap.size with hh | hh
    · exact hh
    · rw [Array.getElem?_eq_none hh] at hc; cases hc
  have hle : Le β ⟨fun m => if m = n then some cw.heap.size else β m, fun m => if m = n then 0 else β.rm m⟩ := fun m c hm => by
    have : m ≠ n := fun e => by rw [e, hn2] at hm; cases hm
    simp only [this, if_false]
    exact ⟨hm, trivial⟩
  have fixed : ∀ c, K.fix c = true → ∃ o, (if c = cw.heap.size then some co else K.blk c) = some o := by
    intro c hc
    obtain ⟨o, ho⟩ := K.fixed c hc
    have := hlt _ _ (h.keep c o ho)
    exact ⟨o, by rw [if_neg (by omega)]; exact ho⟩
  refine ⟨⟨K.tape, K.os, K.output, fun d => if d = cw.heap.size then some co else K.blk d, K.fix, fixed, fun m => K.res m ∧ m ≠ n⟩, rfl, rfl, rfl, rfl, fun d => rfl, fun m => Iff.rfl, hle, ?_⟩
  refine ⟨h.tape, h.os, h.output, ?_, ?_, ?_, ?_, ?_, ?_, ?_⟩
  · intro c o hc
    have hc : (if c = cw.heap.size then some co else K.blk c) = some o := hc
    by_cases e : c = cw.heap.size
    · rw [if_pos e] at hc
      rw [e, ← hc]
      exact heap_alloc_new cw co
    · rw [if_neg e] at hc
      have := h.keep c o hc
      rw [heap_alloc_old _ _ _ (hlt _ _ this)]
      exact this
  · intro m o hm ha
    obtain ⟨c, co', h1, h2, h3, h4⟩ := h.obj m o hm ha
    have hc := hlt _ _ h2
    refine ⟨c, co', (hle _ _ h1).1, by rw [heap_alloc_old _ _ _ hc]; exact h2, h3.mono hle, h4.imp id fun h4 => ?_⟩
    show (if c = cw.heap.size then some co else K.blk c) = none
    rw [if_neg (by omega)]
    exact h4
  · intro x y p q c hx hy hp hq h1 h2
    have old : ∀ x p, w.h.get (x + 1) = some p → p.alive = true → x ≠ n := by
      intro x p hx hp e
      obtain ⟨c', co', h3, _⟩ := h.obj x p hx hp
      rw [e, hn2] at h3
      cases h3
    have e1 := old x p hx hp
    have e2 := old y q hy hq
    simp only [e1, e2, if_false] at h1 h2
    exact h.inj x y p q c hx hy hp hq h1 h2
  · intro m hm
    have : m ≠ n := by omega
    simp only [this, if_false]
    exact h.fresh m hm
  · intro g hg
    exact (hle _ _ (h.glob g hg)).1
  · intro m vs e lo hi c C e' f hm hb hc
    have hmn : m ≠ n := by
      intro e1
      obtain ⟨c', co', h3, _⟩ := h.obj m _ hm rfl
      rw [e1, hn2] at h3
      cases h3
    simp only [hmn, if_false] at hb ⊢
    obtain ⟨c', co', h3, h4, _⟩ := h.obj m _ hm rfl
    obtain rfl := Option.some.inj (hb.symm.trans h3)
    rw [heap_alloc_old _ _ _ (hlt _ _ h4)] at hc
    exact h.room m vs e lo hi c C e' f hm hb hc
  · intro m hm
    obtain ⟨h1, h2⟩ := h.res m hm.1
    refine ⟨h1, ?_⟩
    have := hm.2
    simp only [this, if_false]
    exact h2
theorem nod_eq {pd : Pd} (h : (pd.map (·.1)).Nodup) {j : Nat} {x y : AO} (hx : (j, x) ∈ pd) (hy : (j, y) ∈ pd) : x = y := by
  induction pd with
  | nil => cases hx
  | cons z l ih =>
    simp only [List.map_cons, List.nodup_cons, List.mem_map, not_exists, not_and] at h
    rcases List.mem_cons.1 hx with e1 | hx
    · rcases List.mem_cons.1 hy with e2 | hy
      · exact (Prod.mk.inj (e1.trans e2.symm)).2
      · exact absurd (by rw [← e1]) (h.1 (j, y) hy)
    · rcases List.mem_cons.1 hy with e2 | hy
      · exact absurd (by rw [← e2]) (h.1 (j, x) hx)
      · exact ih h.2 hx hy
/-- An alloc. -/
theorem step_alc {ops : Array Oper} {Q : Exit → Act → World → Prop} {i : Nat} {Kt : Act → World → Prop} (hls : ls = ops.toList.map (mkPt P ops.toList)) (hg : Good ls) (hN : N ≤ 16000) (hall : ops.toList.all (okOp N) = true)
    (he : Ev P ops.toList ls call b f0 D X V fr pd w) (hm : Ma K N ls b f0 D X V pd w L β K' a cw) (hi : i ∈ Region.ready .any ops L) (hD : hasB D i = true) (hk : ∀ (p : Pt), ls[i]? = some p → p.kd = 1)
    (hK : ∀ β' K'' a' cw', Le β β' → Ma K N ls b f0 D X V pd w (L.setIfInBounds i true) β' K'' a' cw' → Kt a' cw') : wpOp P ops Q i Kt a cw := by
  obtain ⟨h1, h2, o, ho, hp, hr⟩ := in_ready hls hi
  have hX : hasB X i = false := by
    cases hx : hasB X i with
    | false => rfl
    | true => exact absurd (hm.xl i hx) h2
  have h0 := hk _ hp
  have hok : okOp N o = true := List.all_eq_true.1 hall o (by rw [← Array.getElem?_toList] at ho; exact List.mem_of_getElem? ho)
  obtain ⟨F, g1, gF, g2, g3⟩ := he.al i _ hp hD hX h0
  have hs := hm.sees hN hp h2 hr g1
  have hw := guard_of (o := o) hall hm.size gF hs
  unfold wpOp
  simp only [ho, hw]
  cases hwf : wantF ops.toList o F with
  | true =>
    simp only [if_true]
    refine .inl ?_
    obtain ⟨ao, hin, hrun⟩ := g2 hwf
    obtain ⟨ao', co, mk, cmk, e1, e2, e3, e4, e5, e6⟩ := (allocs_ok (kd1 h0) hm.rel hrun (tmps_of hok hs)).it
    obtain ⟨w1, e7, e8, e9⟩ := aw_new e1
    have e8 : ∀ m, w1.h.get m = if m = Nat.add b i + 1 then some ao' else Tr.get .lf m := e8
    obtain ⟨ao2, e10, e11⟩ := aw_get e7
    rw [e8, if_pos rfl] at e10
    obtain rfl := Option.some.inj e10
    rw [Bool.and_eq_true] at e11
    have e12 : mk (Nat.add b i) = V i := same1_ok 8 _ _ e11.1
    have e13 := (sameAO_ok e11.2).symm
    subst e13
    obtain ⟨K'', k1, k2, k3, k4, k5, k6, k7, k8⟩ := hm.rel.wait (co := co) (hm.res i _ hp h0 h2)
    have hbi : β (Nat.add b i) = none := (hm.rel.res _ (hm.res i _ hp h0 h2)).2
    generalize hβ : (⟨fun m => if m = Nat.add b i then some cw.heap.size else β m, fun m => if m = Nat.add b i then 0 else β.rm m⟩ : Ren) = β' at k7 k8
    have hb1 : β' (Nat.add b i) = some cw.heap.size := by rw [← hβ]; simp
    have hb2 : β'.rm (Nat.add b i) = 0 := by rw [← hβ]; simp
    have hlt : ∀ c o', K'.blk c = some o' → c < cw.heap.size := fun c o' hc => by
      have hc := hm.rel.keep c o' hc
      rcases Nat.lt_or_ge c cw.heap.size with hh | hh
      · exact hh
      · rw [Array.getElem?_eq_none hh] at hc; cases hc
    unfold Oper.wp
    rw [e6]
    refine hK β' K'' _ _ k7 ?_
    obtain ⟨f1, f2⟩ := hm.frame1 hg hp h2 (dst_lt hok) k7 (V' := V) (fun _ _ => rfl) (cv := cmk cw.heap.size) (.inr (e12 ▸ e5 β' _ _ k7 hb1))
    have old : ∀ j ao', (j, ao') ∈ pd → Ls (L.setIfInBounds i true) j → (j = i ∧ ao' = ao) ∨ (j ≠ i ∧ Ls L j) := by
      intro j ao' hj hl
      rcases (ls_set h1).1 hl with rfl | hl
      · exact .inl ⟨rfl, nod_eq he.nod hj hin⟩
      · exact .inr ⟨fun e => h2 (e ▸ hl), hl⟩
    have oldP : ∀ j ao', (j, ao') ∈ pd → j ≠ i → Ls L j → ∃ c co, β (Nat.add b j) = some c ∧ β' (Nat.add b j) = some c ∧ c < cw.heap.size ∧ K''.blk c = some co ∧ K.blk c = none ∧ OR β' ao' co ∧ β'.rm (Nat.add b j) = 0 ∧ ao'.alive = true ∧ ao'.fixed = false := by
      intro j ao' hj hne hl
      obtain ⟨c, co', p1, p2, p3, p4, p5, p6⟩ := hm.pend j ao' hj hl
      have hc := hlt _ _ p2
      refine ⟨c, co', p1, (k7 _ _ p1).1, hc, ?_, p3, p4.mono k7, ?_, p6⟩
      · rw [k5, if_neg (by omega)]; exact p2
      · rw [(k7 _ _ p1).2]; exact p5
    exact { sz := by rw [Array.size_setIfInBounds]; exact hm.sz
            closed := hm.closed1 hp hr h1
            xl := fun j hj => (ls_set h1).2 (.inr (hm.xl j hj))
            ld := fun j hj => by
              rcases (ls_set h1).1 hj with rfl | hj
              · exact hD
              · exact hm.ld j hj
            size := by rw [put_size]; exact hm.size
            wr := fun j q d hq hj hd => f1 j q d hq ((ls_set h1).1 hj) hd
            nw := fun t ht hn => f2 t ht fun j q hq hj => hn j q hq ((ls_set h1).2 hj)
            defers := by rw [Go.Ek.put_defers]; exact hm.defers
            rel := k8
            sub := ⟨k1.trans hm.sub.tape, k2.trans hm.sub.os, k3.trans hm.sub.output, fun c o' hc => by
                have hc := hm.sub.blk c o' hc
                have := hlt _ _ hc
                rw [k5, if_neg (by omega)]
                exact hc, k4.trans hm.sub.fix, fun n hn => (k6 n).2 ⟨hm.sub.res n hn, by
                  have h3 := hm.low n hn
                  have e : Nat.add b i = b + i := rfl
                  rw [e]
                  omega⟩⟩
            low := hm.low
            pend := fun j ao' hj hl => by
              rcases old j ao' hj hl with ⟨rfl, rfl⟩ | ⟨hne, hl⟩
              · refine ⟨_, co, hb1, by rw [k5, if_pos rfl], ?_, e4.mono k7, hb2, e2, e3⟩
                cases hkb : K.blk cw.heap.size with
                | none => rfl
                | some y =>
                  have := hlt _ _ (hm.sub.blk _ _ hkb)
                  omega
              · obtain ⟨c, co', _, p2, _, p3⟩ := oldP j ao' hj hne hl
                exact ⟨c, co', p2, p3⟩
            dist := fun j k ao1 ao2 c hj hkm hjl hkl hc1 hc2 => by
              rcases old j ao1 hj hjl with ⟨rfl, rfl⟩ | ⟨hne, hl⟩
              · rcases old k ao2 hkm hkl with ⟨rfl, rfl⟩ | ⟨hne2, hl2⟩
                · rfl
                · obtain ⟨c', co', _, p2, p3, _⟩ := oldP k ao2 hkm hne2 hl2
                  have q1 := Option.some.inj (hb1.symm.trans hc1)
                  have q2 := Option.some.inj (p2.symm.trans hc2)
                  omega
              · obtain ⟨c', co', p1, p2, p3, _⟩ := oldP j ao1 hj hne hl
                rcases old k ao2 hkm hkl with ⟨rfl, rfl⟩ | ⟨hne2, hl2⟩
                · have q1 := Option.some.inj (hb1.symm.trans hc2)
                  have q2 := Option.some.inj (p2.symm.trans hc1)
                  omega
                · obtain ⟨c2, co2, p1', p2', p3', _⟩ := oldP k ao2 hkm hne2 hl2
                  have q1 := Option.some.inj (p2.symm.trans hc1)
                  have q2 := Option.some.inj (p2'.symm.trans hc2)
                  subst q1 q2
                  exact hm.dist j k ao1 ao2 _ hj hkm hl hl2 p1 p1'
            res := fun j q hq hkq hl => by
              have hl' : ¬ Ls L j := fun h => hl ((ls_set h1).2 (.inr h))
              have hne : j ≠ i := fun e => hl ((ls_set h1).2 (.inl e))
              refine (k6 _).2 ⟨hm.res j q hq hkq hl', ?_⟩
              have q1 : Nat.add b j = b + j := rfl
              have q2 : Nat.add b i = b + i := rfl
              rw [q1, q2]
              omega }
  | false =>
    simp only [Bool.false_eq_true, if_false]
    obtain ⟨g4, g5⟩ := g3 hwf
    exact hK β K' _ _ (Le.refl β) (hm.list hg hp h1 h2 hD (dst_lt hok) hr g5 (.inr (by rw [g4]; exact undef_ok)))
end Go.Ek
namespace Go.Ek
set_option linter.unusedVariables false
set_option linter.unusedSimpArgs false
variable {P : Program} {K K' : Keep P} {β : Ren} {w : AW} {cw : World} {fr : Fr} {a : Act} {call : CallT} {ls : List Pt} {f0 : Fr} {D X b N : Nat} {V : Nat → Value} {pd : Pd} {L : Array Bool}
theorem lor_bit {D i j : Nat} : hasB (Nat.lor D (bit i)) j = true ↔ (j = i ∨ hasB D j = true) := by
  rw [hasB_or, hasB_bit, Bool.or_eq_true, decide_eq_true_eq]
  constructor
  · rintro (h | h)
    · exact .inr h
    · exact .inl h.symm
  · rintro (h | h)
    · exact .inr h.symm
    · exact .inl h
/-! ### Laying the blocks that wait -/
/-- What a waiting block is to the machine. -/
def Pends (K : Keep P) (b : Nat) (β : Ren) (K' : Keep P) (j : Nat) (ao : AO) : Prop :=
  ∃ c co, β (Nat.add b j) = some c ∧ K'.blk c = some co ∧ K.blk c = none ∧ OR β ao co ∧ β.rm (Nat.add b j) = 0 ∧ ao.alive = true ∧ ao.fixed = false
theorem lay_ok {m : Nat} {k : Pd → AW → R} (hb : ∀ i j, Nat.add b i = Nat.add b j → i = j) : ∀ (rest acc : Pd) (w : AW) (K' : Keep P),
    List.rec (motive := fun _ => Pd → AW → R) (fun acc w => k acc w) (fun x _ ih acc w => cond (hasB m x.1) (w.put (Nat.add b x.1) x.2 fun w => ih acc w) (ih (x :: acc) w)) rest acc w = true →
    Rel K' β w cw → Sub K K' → (∀ (j : Nat) (ao : AO), (j, ao) ∈ rest → hasB m j = true → Pends K b β K' j ao) → (rest.map (·.1)).Nodup →
    (∀ (i j : Nat) (ao ao' : AO) (c : Nat), (i, ao) ∈ rest → hasB m i = true → (j, ao') ∈ rest → hasB m j = true → β (Nat.add b i) = some c → β (Nat.add b j) = some c → i = j) →
    ∃ w' K'', k ((rest.filter fun x => !hasB m x.1).reverse ++ acc) w' = true ∧ Rel K'' β w' cw ∧ Sub K K'' ∧ (∀ n, K''.res n ↔ K'.res n) ∧
      (∀ c, (∀ (j : Nat) (ao : AO), (j, ao) ∈ rest → hasB m j = true → β (Nat.add b j) ≠ some c) → K''.blk c = K'.blk c)
  | [], acc, w, K', h, hr, hs, hp, hn, hd => ⟨w, K', h, hr, hs, fun _ => Iff.rfl, fun _ _ => rfl⟩
  | x :: rest, acc, w, K', h, hr, hs, hp, hn, hd => by
    obtain ⟨j, ao⟩ := x
    have h : cond (hasB m j) (w.put (Nat.add b j) ao fun w => List.rec (motive := fun _ => Pd → AW → R) (fun acc w => k acc w) (fun x _ ih acc w => cond (hasB m x.1) (w.put (Nat.add b x.1) x.2 fun w => ih acc w) (ih (x :: acc) w)) rest acc w)
      (List.rec (motive := fun _ => Pd → AW → R) (fun acc w => k acc w) (fun x _ ih acc w => cond (hasB m x.1) (w.put (Nat.add b x.1) x.2 fun w => ih acc w) (ih (x :: acc) w)) rest ((j, ao) :: acc) w) = true := h
    simp only [List.map_cons, List.nodup_cons, List.mem_map, not_exists, not_and] at hn
    cases hm : hasB m j with
    | false =>
      rw [hm, cond_false] at h
      obtain ⟨w', K'', g1, g2, g3, g4, g5⟩ := lay_ok hb rest ((j, ao) :: acc) w K' h hr hs (fun i ao' hi => hp i ao' (List.mem_cons_of_mem _ hi)) hn.2
        (fun i k x y c hi hi' hk hk' => hd i k x y c (List.mem_cons_of_mem _ hi) hi' (List.mem_cons_of_mem _ hk) hk')
      refine ⟨w', K'', ?_, g2, g3, g4, fun c hc => g5 c fun i x hi => hc i x (List.mem_cons_of_mem _ hi)⟩
      rw [List.filter_cons_of_pos (by simp [hm]), List.reverse_cons, List.append_assoc]
      exact g1
    | true =>
      rw [hm, cond_true] at h
      obtain ⟨w1, h1, h2, h3⟩ := aw_put h
      obtain ⟨c, co, p1, p2, p3, p4, p5, p6, p7⟩ := hp j ao (List.mem_cons_self ..) hm
      have hfix : K'.fix c = false := by
        cases hf : K'.fix c with
        | false => rfl
        | true =>
          rw [hs.fix] at hf
          obtain ⟨o, ho⟩ := K.fixed c hf
          rw [p3] at ho
          cases ho
      have hr1 := hr.lay p6 p7 h2 h3 p1 p2 hfix p4 p5
      have hs1 : Sub K (K'.drop c hfix) := ⟨hs.tape, hs.os, hs.output, (fun d o hdo => by
        show (if d = c then none else K'.blk d) = some o
        rw [if_neg]
        · exact hs.blk d o hdo
        · intro e; rw [e, p3] at hdo; cases hdo), hs.fix, hs.res⟩
      obtain ⟨w', K'', g1, g2, g3, g4, g5⟩ := lay_ok hb rest acc w1 _ h1 hr1 hs1 (fun i ao' hi hi' => by
          obtain ⟨c', co', q1, q2, q3⟩ := hp i ao' (List.mem_cons_of_mem _ hi) hi'
          refine ⟨c', co', q1, ?_, q3⟩
          show (if c' = c then none else K'.blk c') = some co'
          rw [if_neg]
          · exact q2
          · intro e
            have := hd i j ao' ao c (List.mem_cons_of_mem _ hi) hi' (List.mem_cons_self ..) hm (e ▸ q1) p1
            exact hn.1 (i, ao') hi this) hn.2
        (fun i k x y c hi hi' hk hk' => hd i k x y c (List.mem_cons_of_mem _ hi) hi' (List.mem_cons_of_mem _ hk) hk')
      refine ⟨w', K'', ?_, g2, g3, g4, fun d hdd => ?_⟩
      · rw [List.filter_cons_of_neg (by simp [hm])]
        exact g1
      · rw [g5 d fun i x hi => hdd i x (List.mem_cons_of_mem _ hi)]
        show (if d = c then none else K'.blk d) = K'.blk d
        rw [if_neg]
        intro e
        exact hdd j ao (List.mem_cons_self ..) hm (e ▸ p1)
theorem chkC_ok {ops : List Oper} {k : R} : ∀ (l : List Pt), (chkC P ops l).run call fr w k = true → k = true ∧ ∀ p ∈ l, isF ops p.o fr = false ∧ (wantF ops p.o fr = true → (compOp P p.o).run call fr w (fun v _ => (sameD p.o.dst).run v fr) = true) ∧ (wantF ops p.o fr = false → (sameD p.o.dst).run undef fr = true)
  | [], h => ⟨h, fun p hp => by cases hp⟩
  | p :: l, h => by
    have h : cond ((gdK ops p.o).run fr (fun _ => (compOp P p.o).run call fr w fun v _ => (sameD p.o.dst).run v fr) (fun _ => (sameD p.o.dst).run undef fr)) ((chkC P ops l).run call fr w k) false = true := h
    cases hc : (gdK ops p.o).run fr (fun _ => (compOp P p.o).run call fr w fun v _ => (sameD p.o.dst).run v fr) (fun _ => (sameD p.o.dst).run undef fr) with
    | false => rw [hc] at h; cases h
    | true =>
      rw [hc] at h
      obtain ⟨h1, h2⟩ := chkC_ok l h
      obtain ⟨hF, hc⟩ := gdK_ok hc
      refine ⟨h1, fun q hq => ?_⟩
      rcases List.mem_cons.1 hq with rfl | hq
      · refine ⟨hF, fun hw => ?_, fun hw => ?_⟩
        · rw [hw] at hc; exact hc
        · rw [hw] at hc; exact hc
      · exact h2 q hq
theorem sameD_eq (d : Option Tmp) (v : Value) : (sameD d).run v fr = match d with | none => true | some d => same1 8 v (getF (path d) fr) := by
  cases d with
  | none => rfl
  | some d => exact get_run _ _ _
end Go.Ek
namespace Go.Ek
set_option linter.unusedVariables false
set_option linter.unusedSimpArgs false
variable {P : Program} {K K' : Keep P} {β : Ren} {w : AW} {cw : World} {fr : Fr} {a : Act} {call : CallT} {ls : List Pt} {f0 : Fr} {D X b N : Nat} {V : Nat → Value} {pd : Pd} {L : Array Bool}
/-- One step of the plan. -/
theorem compP_step {ops : List Oper} {i : Nat} {S : List Nat} {k : Fr → AW → R} (h : (compP P ops ls (i :: S) D X).run call b fr pd w k = true) : ∃ p, ls[i]? = some p ∧ hasB D i = false ∧ subB p.em D = true ∧ subB (Nat.land p.lk (wm ls 0 D)) (wm ls 0 p.em) = true ∧
    ((p.kd = 0 ∧ isF ops p.o fr = false ∧ cond (wantF ops p.o fr) ((compOp P p.o).run call fr w fun v _ => cond ((compOp P p.o).run call fr w fun v' _ => sameW p.o.dst v' v) ((put p.o.dst).run v fr fun fr => (compP P ops ls S (Nat.lor D (bit i)) X).run call b fr pd w k) false)
        ((put p.o.dst).run undef fr fun fr => (compP P ops ls S (Nat.lor D (bit i)) X).run call b fr pd w k) = true) ∨
     (p.kd = 1 ∧ isF ops p.o fr = false ∧ cond (wantF ops p.o fr) ((compOp P p.o).run call fr ⟨.lf, Nat.add b i⟩ fun v w1 => w1.get (Nat.add b i) fun ao => cond ((compOp P p.o).run call fr ⟨.lf, Nat.add b i⟩ fun v' w1' => w1'.get (Nat.add b i) fun ao' => same1 8 v' v && sameAO ao' ao)
              ((put p.o.dst).run v fr fun fr => (compP P ops ls S (Nat.lor D (bit i)) X).run call b fr ((i, ao) :: pd) w k) false)
        ((put p.o.dst).run undef fr fun fr => (compP P ops ls S (Nat.lor D (bit i)) X).run call b fr pd w k) = true) ∨
     (p.kd ≠ 0 ∧ p.kd ≠ 1 ∧ (compP.compE P ops ls p i (compP P ops ls S (Nat.lor D (bit i)) (Nat.lor X (closeM (revI ls 0 []) (Nat.lor p.em (bit i))))) D (Nat.lor X (closeM (revI ls 0 []) (Nat.lor p.em (bit i))))).run call b fr pd w k = true)) := by
  unfold compP at h
  rw [nth_eq] at h
  cases hp : ls[i]? with
  | none => rw [hp] at h; cases h
  | some p =>
    rw [hp] at h
    simp only at h
    cases hc : (!hasB D i && (subB p.em D && subB (Nat.land p.lk (wm ls 0 D)) (wm ls 0 p.em))) with
    | false => rw [hc] at h; cases h
    | true =>
      rw [hc, cond_true] at h
      simp only [Bool.and_eq_true, Bool.not_eq_true'] at hc
      refine ⟨p, rfl, hc.1, hc.2.1, hc.2.2, ?_⟩
      cases h0 : Nat.beq p.kd 0 with
      | true =>
        rw [h0, cond_true] at h
        rw [beq_n, decide_eq_true_eq] at h0
        exact .inl ⟨h0, gdK_ok h⟩
      | false =>
        rw [h0, cond_false] at h
        rw [beq_n, decide_eq_false_iff_not] at h0
        cases h1 : Nat.beq p.kd 1 with
        | true =>
          rw [h1, cond_true] at h
          rw [beq_n, decide_eq_true_eq] at h1
          exact .inr (.inl ⟨h1, gdK_ok h⟩)
        | false =>
          rw [h1, cond_false] at h
          rw [beq_n, decide_eq_false_iff_not] at h1
          exact .inr (.inr ⟨h0, h1, h⟩)
theorem compE_step {ops : List Oper} {i : Nat} {p : Pt} {X' : Nat} {k : Fr → AW → R} {rest : Bx (CallT → Nat → Fr → Pd → AW → (Fr → AW → R) → R)} (h : (compP.compE P ops ls p i rest D X').run call b fr pd w k = true) :
    (∀ (j : Nat) (q : Pt), ls[j]? = some q → j = i ∨ hasB D j = true ∨ subB q.em D = false) ∧
    (∀ (j : Nat) (q : Pt), ls[j]? = some q → hasB D j = true → q.kd = 0 → hasB X' j = false → subB (Nat.land q.lk (wm ls 0 (Nat.lor D (bit i)))) (wm ls 0 q.em) = true) ∧
    layK X' b pd w (fun pd w => cond (isF ops p.o fr) false (cond (wantF ops p.o fr) ((compOp P p.o).run call fr w fun v w => (put p.o.dst).run v fr fun fr => (chkC P ops (openF D X' ls 0)).run call fr w (rest.run call b fr pd w k))
        ((put p.o.dst).run undef fr fun fr => (chkC P ops (openF D X' ls 0)).run call fr w (rest.run call b fr pd w k)))) = true := by
  unfold compP.compE at h
  cases hc : (allI (fun j q => Nat.beq j i || (hasB D j || not (subB q.em D))) ls 0 && allI (fun j q => not (hasB D j && (Nat.beq q.kd 0 && not (hasB X' j))) || subB (Nat.land q.lk (wm ls 0 (Nat.lor D (bit i)))) (wm ls 0 q.em)) ls 0) with
  | false => rw [hc] at h; cases h
  | true =>
    rw [hc, cond_true] at h
    rw [Bool.and_eq_true] at hc
    simp only [gdK_eq] at h
    refine ⟨fun j q hq => ?_, fun j q hq h1 h2 h3 => ?_, h⟩
    · have := allI_ok hc.1 hq
      simp only [Nat.zero_add, Bool.or_eq_true, beq_n, decide_eq_true_eq, Bool.not_eq_true'] at this
      exact this
    · have := allI_ok hc.2 hq
      simp only [Nat.zero_add, h1, h2, h3] at this
      simpa [beq_n] using this
theorem Ma.grow (hm : Ma K N ls b f0 D X V pd w L β K' a cw) {D' : Nat} {V' : Nat → Value} {pd' : Pd} (hD : ∀ j, hasB D j = true → hasB D' j = true) (hV : ∀ j, hasB D j = true → V' j = V j)
    (hpd : ∀ (j : Nat) (ao : AO), (j, ao) ∈ pd' → (j, ao) ∈ pd ∨ hasB D j = false) : Ma K N ls b f0 D' X V' pd' w L β K' a cw := by
  have old : ∀ (j : Nat) (ao : AO), (j, ao) ∈ pd' → Ls L j → (j, ao) ∈ pd := by
    intro j ao hj hl
    rcases hpd j ao hj with h | h
    · exact h
    · rw [hm.ld j hl] at h; cases h
  exact { sz := hm.sz, closed := hm.closed, xl := hm.xl, ld := fun j hj => hD j (hm.ld j hj), size := hm.size
          wr := fun j q d hq hj hd => by rw [hV j (hm.ld j hj)]; exact hm.wr j q d hq hj hd
          nw := hm.nw, defers := hm.defers, rel := hm.rel, sub := hm.sub, low := hm.low
          pend := fun j ao hj hl => hm.pend j ao (old j ao hj hl) hl
          dist := fun i j x y c hi hj h1 h2 => hm.dist i j x y c (old i x hi h1) (old j y hj h2) h1 h2
          res := hm.res }
theorem Ev.put1 (hg : Good ls) {ops : List Oper} (he : Ev P ops ls call b f0 D X V fr pd w) {i : Nat} {p : Pt} (hp : ls[i]? = some p) (hD : hasB D i = false) (hX : hasB X i = false) (h1 : subB p.em D = true) (h2 : subB (Nat.land p.lk (wm ls 0 D)) (wm ls 0 p.em) = true)
    (v : Value) {pd' : Pd} (hk : p.kd = 0 ∨ p.kd = 1) (hpd : ∀ (j : Nat) (ao : AO), (j, ao) ∈ pd' ↔ (j, ao) ∈ pd ∨ (j = i ∧ (j, ao) ∈ pd')) (hpk : ∀ ao, (i, ao) ∈ pd' → p.kd = 1) (hnd : (pd'.map (·.1)).Nodup)
    (hF : isF ops p.o fr = false) (hf : p.kd = 0 → (wantF ops p.o fr = true → (compOp P p.o).run call fr w (fun v' _ => sameW p.o.dst v' v) = true) ∧ (wantF ops p.o fr = false → v = undef ∨ p.o.dst = none))
    (ha : p.kd = 1 → (wantF ops p.o fr = true → ∃ ao, (i, ao) ∈ pd' ∧ (compOp P p.o).run call fr ⟨.lf, Nat.add b i⟩ (fun v' w1' => w1'.get (Nat.add b i) fun ao' => same1 8 v' v && sameAO ao' ao) = true) ∧
      (wantF ops p.o fr = false → v = undef ∧ ∀ ao, (i, ao) ∉ pd')) :
    Ev P ops ls call b f0 (Nat.lor D (bit i)) X (upd V i v) (match p.o.dst with | some d => setF (path d) v fr | none => fr) pd' w := by
  have hDm : ∀ j, hasB D j = true → hasB (Nat.lor D (bit i)) j = true := fun j hj => lor_bit.2 (.inr hj)
  have hne : ∀ j, hasB D j = true → j ≠ i := fun j hj e => by rw [e, hD] at hj; cases hj
  have hVm : ∀ j, hasB D j = true → upd V i v j = V j := fun j hj => upd_ne V v (hne j hj)
  have hlk := (look_of hg he.wr hp (fun e hh => subB_ok h1 hh) h2).mono hDm hVm
  exact { wr := he.wr.put hg hp hD v
          ems := fun j q e hq hj hh => by
            rcases lor_bit.1 hj with rfl | hj
            · obtain rfl := Option.some.inj (hp.symm.trans hq)
              exact hDm e (subB_ok h1 hh)
            · exact hDm e (he.ems j q e hq hj hh)
          eff := fun j q hq hj hx => by
            rcases lor_bit.1 hj with rfl | hj
            · obtain rfl := Option.some.inj (hp.symm.trans hq)
              exact hk
            · exact he.eff j q hq hj hx
          fl := fun j q hq hj hx h0 => by
            rcases lor_bit.1 hj with rfl | hj
            · obtain rfl := Option.some.inj (hp.symm.trans hq)
              refine ⟨fr, hlk, hF, ?_⟩
              rw [upd_at]
              exact hf h0
            · obtain ⟨F, g1, gF, g2, g3⟩ := he.fl j q hq hj hx h0
              refine ⟨F, g1.mono hDm hVm, gF, ?_⟩
              rw [hVm j hj]
              exact ⟨g2, g3⟩
          al := fun j q hq hj hx h0 => by
            rcases lor_bit.1 hj with rfl | hj
            · obtain rfl := Option.some.inj (hp.symm.trans hq)
              refine ⟨fr, hlk, hF, ?_⟩
              rw [upd_at]
              exact ha h0
            · obtain ⟨F, g1, gF, g2, g3⟩ := he.al j q hq hj hx h0
              refine ⟨F, g1.mono hDm hVm, gF, ?_⟩
              rw [hVm j hj]
              refine ⟨fun hw => ?_, fun hw => ?_⟩
              · obtain ⟨ao, g4, g5⟩ := g2 hw
                exact ⟨ao, (hpd j ao).2 (.inl g4), g5⟩
              · obtain ⟨g4, g5⟩ := g3 hw
                refine ⟨g4, fun ao hin => ?_⟩
                rcases (hpd j ao).1 hin with h | ⟨h, _⟩
                · exact g5 ao h
                · exact hne j hj h
          pds := fun j ao hin => by
            rcases (hpd j ao).1 hin with h | ⟨h, hin⟩
            · obtain ⟨g1, g2, g3⟩ := he.pds j ao h
              exact ⟨hDm j g1, g2, g3⟩
            · subst h
              exact ⟨lor_bit.2 (.inl rfl), hX, p, hp, hpk ao hin⟩
          nod := hnd }
def Parked (ls : List Pt) (S : List Nat) : Prop := S = [] ∨ ∃ (i : Nat) (S' : List Nat) (p : Pt), S = i :: S' ∧ ls[i]? = some p ∧ p.kd ≠ 0 ∧ p.kd ≠ 1
/-- On to the next effect. -/
theorem adv (hg : Good ls) {ops : List Oper} (hls : ls = ops.map (mkPt P ops)) {k : Fr → AW → R} : ∀ (S : List Nat) (D : Nat) (V : Nat → Value) (fr : Fr) (pd : Pd), Ev P ops ls call b f0 D X V fr pd w → Ma K N ls b f0 D X V pd w L β K' a cw → (compP P ops ls S D X).run call b fr pd w k = true →
    ∃ S' D' V' fr' pd', Parked ls S' ∧ Ev P ops ls call b f0 D' X V' fr' pd' w ∧ Ma K N ls b f0 D' X V' pd' w L β K' a cw ∧ (compP P ops ls S' D' X).run call b fr' pd' w k = true
  | [], D, V, fr, pd, he, hm, h => ⟨[], D, V, fr, pd, .inl rfl, he, hm, h⟩
  | i :: S, D, V, fr, pd, he, hm, h => by
    obtain ⟨p, hp, hD, h1, h2, h3⟩ := compP_step h
    have hX : hasB X i = false := by
      cases hx : hasB X i with
      | false => rfl
      | true => rw [hm.ld i (hm.xl i hx)] at hD; cases hD
    have hDm : ∀ j, hasB D j = true → hasB (Nat.lor D (bit i)) j = true := fun j hj => lor_bit.2 (.inr hj)
    have hVm : ∀ v j, hasB D j = true → upd V i v j = V j := fun v j hj => upd_ne V v fun e => by rw [e, hD] at hj; cases hj
    have hno : ∀ ao, (i, ao) ∉ pd := fun ao hin => by rw [(he.pds i ao hin).1] at hD; cases hD
    have same : ∀ (j : Nat) (ao : AO), (j, ao) ∈ pd ↔ (j, ao) ∈ pd ∨ (j = i ∧ (j, ao) ∈ pd) := fun j ao => ⟨.inl, fun h => h.elim id (·.2)⟩
    have hmk : p = mkPt P ops p.o := by
      rw [hls, List.getElem?_map] at hp
      cases ho : ops[i]? with
      | none => rw [ho] at hp; cases hp
      | some o => rw [ho] at hp; obtain rfl := Option.some.inj hp; rfl
    rcases h3 with ⟨h0, hF, h3⟩ | ⟨h0, hF, h3⟩ | ⟨h0, h0', h3⟩
    · cases hw : wantF ops p.o fr with
      | true =>
        rw [hw, cond_true] at h3
        obtain ⟨v, h4⟩ := ends (kd0 (by rw [hmk] at h0; exact h0)) (k := fun v w => cond ((compOp P p.o).run call fr w fun v' _ => sameW p.o.dst v' v) ((put p.o.dst).run v fr fun fr => (compP P ops ls S (Nat.lor D (bit i)) X).run call b fr pd w k) false) h3
        cases hc : (compOp P p.o).run call fr w fun v' _ => sameW p.o.dst v' v with
        | false => rw [hc] at h4; cases h4
        | true =>
          rw [hc, cond_true, put_run] at h4
          exact adv hg hls S _ _ _ _ (he.put1 hg hp hD hX h1 h2 v (.inl h0) same (fun ao hin => absurd hin (hno ao)) he.nod hF (fun _ => ⟨fun _ => hc, fun hh => by rw [hw] at hh; cases hh⟩) (fun hk => by rw [h0] at hk; cases hk))
            (hm.grow hDm (hVm v) (fun j ao h => .inl h)) h4
      | false =>
        rw [hw, cond_false, put_run] at h3
        exact adv hg hls S _ _ _ _ (he.put1 hg hp hD hX h1 h2 undef (.inl h0) same (fun ao hin => absurd hin (hno ao)) he.nod hF (fun _ => ⟨fun hh => (by rw [hw] at hh; cases hh), fun _ => .inl rfl⟩) (fun hk => by rw [h0] at hk; cases hk))
            (hm.grow hDm (hVm undef) (fun j ao h => .inl h)) h3
    · cases hw : wantF ops p.o fr with
      | true =>
        rw [hw, cond_true] at h3
        obtain ⟨v, w1, h4⟩ := endsA (kd1 (by rw [hmk] at h0; exact h0)) h3
        obtain ⟨ao, h5, h6⟩ := aw_get h4
        cases hc : (compOp P p.o).run call fr ⟨.lf, Nat.add b i⟩ fun v' w1' => w1'.get (Nat.add b i) fun ao' => same1 8 v' v && sameAO ao' ao with
        | false => rw [hc] at h6; cases h6
        | true =>
          rw [hc, cond_true, put_run] at h6
          refine adv hg hls S _ _ _ _ (he.put1 hg hp hD hX h1 h2 v (pd' := (i, ao) :: pd) (.inr h0) (fun j x => ?_) (fun _ _ => h0) ?_ hF (fun hk => by rw [h0] at hk; cases hk) (fun _ => ⟨fun _ => ⟨ao, List.mem_cons_self .., hc⟩, fun hh => by rw [hw] at hh; cases hh⟩))
            (hm.grow hDm (hVm v) (fun j x hx => ?_)) h6
          · constructor
            · intro hx
              rcases List.mem_cons.1 hx with e | hx'
              · exact .inr ⟨(Prod.mk.inj e).1, hx⟩
              · exact .inl hx'
            · rintro (hx | hx)
              · exact List.mem_cons_of_mem _ hx
              · exact hx.2
          · rw [List.map_cons, List.nodup_cons]
            refine ⟨fun hin => ?_, he.nod⟩
            obtain ⟨⟨j, x⟩, hx, e⟩ := List.mem_map.1 hin
            have e : j = i := e
            subst e
            exact hno x hx
          · rcases List.mem_cons.1 hx with e | hx'
            · obtain ⟨rfl, rfl⟩ := Prod.mk.inj e
              exact .inr hD
            · exact .inl hx'
      | false =>
        rw [hw, cond_false, put_run] at h3
        exact adv hg hls S _ _ _ _ (he.put1 hg hp hD hX h1 h2 undef (.inr h0) same (fun ao hin => absurd hin (hno ao)) he.nod hF (fun hk => by rw [h0] at hk; cases hk) (fun _ => ⟨fun hh => (by rw [hw] at hh; cases hh), fun _ => ⟨rfl, hno⟩⟩))
            (hm.grow hDm (hVm undef) (fun j ao h => .inl h)) h3
    · exact ⟨i :: S, D, V, fr, pd, .inr ⟨i, S, p, rfl, hp, h0, h0'⟩, he, hm, h⟩
end Go.Ek
namespace Go.Ek
set_option linter.unusedVariables false
set_option linter.unusedSimpArgs false
variable {P : Program} {K K' : Keep P} {β : Ren} {w : AW} {cw : World} {fr : Fr} {a : Act} {call : CallT} {ls : List Pt} {f0 : Fr} {D X b N : Nat} {V : Nat → Value} {pd : Pd} {L : Array Bool}
theorem mem_left {X' : Nat} {j : Nat} {ao : AO} : (j, ao) ∈ (pd.filter fun x => !hasB X' x.1).reverse ++ [] ↔ (j, ao) ∈ pd ∧ hasB X' j = false := by simp
/-- Behind an effect: the evaluator's state. -/
theorem eff_ev (hg : Good ls) {ops : List Oper} (he : Ev P ops ls call b f0 D X V fr pd w) {i : Nat} {p : Pt} (hp : ls[i]? = some p) (hD : hasB D i = false) (h1 : subB p.em D = true) {X' : Nat} (hX : ∀ j, hasB X j = true → hasB X' j = true) (hXi : hasB X' i = true)
    (hs : ∀ (j : Nat) (q : Pt), ls[j]? = some q → hasB D j = true → q.kd = 0 → hasB X' j = false → subB (Nat.land q.lk (wm ls 0 (Nat.lor D (bit i)))) (wm ls 0 q.em) = true)
    (v : Value) (w' : AW) {fr' : Fr} (hfr : fr' = match p.o.dst with | some d => setF (path d) v fr | none => fr)
    (hck : ∀ q ∈ openF D X' ls 0, isF ops q.o fr' = false ∧ (wantF ops q.o fr' = true → (compOp P q.o).run call fr' w' (fun v _ => (sameD q.o.dst).run v fr') = true) ∧ (wantF ops q.o fr' = false → (sameD q.o.dst).run undef fr' = true)) :
    Ev P ops ls call b f0 (Nat.lor D (bit i)) X' (upd V i v) fr' ((pd.filter fun x => !hasB X' x.1).reverse ++ []) w' := by
  have hDm : ∀ j, hasB D j = true → hasB (Nat.lor D (bit i)) j = true := fun j hj => lor_bit.2 (.inr hj)
  have hne : ∀ j, hasB D j = true → j ≠ i := fun j hj e => by rw [e, hD] at hj; cases hj
  have hVm : ∀ j, hasB D j = true → upd V i v j = V j := fun j hj => upd_ne V v (hne j hj)
  have hwr : Wr ls f0 (Nat.lor D (bit i)) (upd V i v) fr' := hfr ▸ he.wr.put hg hp hD v
  have hems : ∀ (j : Nat) (q : Pt) (e : Nat), ls[j]? = some q → hasB (Nat.lor D (bit i)) j = true → hasB q.em e = true → hasB (Nat.lor D (bit i)) e = true := by
    intro j q e hq hj hh
    rcases lor_bit.1 hj with rfl | hj
    · obtain rfl := Option.some.inj (hp.symm.trans hq)
      exact hDm e (subB_ok h1 hh)
    · exact hDm e (he.ems j q e hq hj hh)
  have inD : ∀ j, hasB (Nat.lor D (bit i)) j = true → hasB X' j = false → hasB D j = true := by
    intro j hj hx
    rcases lor_bit.1 hj with rfl | hj
    · rw [hXi] at hx; cases hx
    · exact hj
  have offX : ∀ j, hasB X' j = false → hasB X j = false := by
    intro j hx
    cases hh : hasB X j with
    | false => rfl
    | true => rw [hX j hh] at hx; cases hx
  exact { wr := hwr
          ems := hems
          eff := fun j q hq hj hx => he.eff j q hq (inD j hj hx) (offX j hx)
          fl := fun j q hq hj hx h0 => by
            have hjD := inD j hj hx
            obtain ⟨cF, c1, c2⟩ := hck q (openF_ok ls 0 j hq (by rw [Nat.zero_add]; exact hjD) h0 (by rw [Nat.zero_add]; exact hx))
            refine ⟨fr', look_of hg hwr hq (fun e hh => hems j q e hq hj hh) (hs j q hq hjD h0 hx), cF, ?_⟩
            have hslot : ∀ u, (sameD q.o.dst).run u fr' = sameW q.o.dst u (upd V i v j) := by
              intro u
              rw [sameD_eq]
              cases hd : q.o.dst with
              | none => rfl
              | some d =>
                have := hwr.wr j q d hq hj hd
                simp only [sameW, this]
            refine ⟨fun hw => ?_, fun hw => ?_⟩
            · have := c1 hw
              simp only [hslot] at this
              exact this
            · have := c2 hw
              rw [hslot] at this
              cases hd : q.o.dst with
              | none => exact .inr rfl
              | some d =>
                rw [hd] at this
                exact .inl (same1_ok 8 _ _ (show same1 8 undef (upd V i v j) = true from this)).symm
          al := fun j q hq hj hx h0 => by
            have hjD := inD j hj hx
            obtain ⟨F, g1, gF, g2, g3⟩ := he.al j q hq hjD (offX j hx) h0
            refine ⟨F, g1.mono hDm hVm, gF, ?_⟩
            rw [hVm j hjD]
            refine ⟨fun hw => ?_, fun hw => ?_⟩
            · obtain ⟨ao, g4, g5⟩ := g2 hw
              exact ⟨ao, mem_left.2 ⟨g4, hx⟩, g5⟩
            · obtain ⟨g4, g5⟩ := g3 hw
              exact ⟨g4, fun ao hin => g5 ao (mem_left.1 hin).1⟩
          pds := fun j ao hin => by
            obtain ⟨g1, g2⟩ := mem_left.1 hin
            obtain ⟨g3, g4, g5⟩ := he.pds j ao g1
            exact ⟨hDm j g3, g2, g5⟩
          nod := by
            rw [List.append_nil, List.map_reverse]
            unfold List.Nodup
            rw [List.pairwise_reverse]
            exact (List.Nodup.sublist (List.Sublist.map _ List.filter_sublist) he.nod).imp fun h => h.symm }
/-- Behind an effect: the machine's state. -/
theorem eff_ma (hg : Good ls) {ops : List Oper} (he : Ev P ops ls call b f0 D X V fr pd w) (hm : Ma K N ls b f0 D X V pd w L β K' a cw) {i : Nat} {p : Pt} (hp : ls[i]? = some p) (hD : hasB D i = false) (hi : i < L.size) (hiL : ¬ Ls L i) (hr : ∀ e, hasB p.em e = true → Ls L e) (hdN : ∀ d, p.o.dst = some d → d < N)
    {X' : Nat} (hXi : hasB X' i = true) (hXL : ∀ j, hasB X' j = true → j = i ∨ Ls L j) {K1 : Keep P} (hs1 : Sub K K1) (hres : ∀ n, K1.res n ↔ K'.res n)
    (hblk : ∀ c, (∀ (j : Nat) (ao : AO), (j, ao) ∈ pd → hasB X' j = true → β (Nat.add b j) ≠ some c) → K1.blk c = K'.blk c)
    {v cv : Value} {w' : AW} {β' : Ren} {cw' : World} (hl : Le β β') (hrel : Rel K1 β' w' cw') (hv : VR β' v cv) :
    Ma K N ls b f0 (Nat.lor D (bit i)) X' (upd V i v) ((pd.filter fun x => !hasB X' x.1).reverse ++ []) w' (L.setIfInBounds i true) β' K1 (a.put p.o.dst cv) cw' := by
  have hneL : ∀ j, Ls L j → j ≠ i := fun j hj e => hiL (e ▸ hj)
  obtain ⟨f1, f2⟩ := hm.frame1 hg hp hiL hdN hl (V' := upd V i v) (fun j hj => upd_ne V v (hneL j hj)) (cv := cv) (.inr (by rw [upd_at]; exact hv))
  have old : ∀ (j : Nat) (ao : AO), (j, ao) ∈ (pd.filter fun x => !hasB X' x.1).reverse ++ [] → Ls (L.setIfInBounds i true) j → (j, ao) ∈ pd ∧ hasB X' j = false ∧ Ls L j := by
    intro j ao hin hj
    obtain ⟨g1, g2⟩ := mem_left.1 hin
    refine ⟨g1, g2, ?_⟩
    rcases (ls_set hi).1 hj with rfl | hj
    · rw [hXi] at g2; cases g2
    · exact hj
  exact { sz := by rw [Array.size_setIfInBounds]; exact hm.sz
          closed := hm.closed1 hp hr hi
          xl := fun j hj => (ls_set hi).2 (hXL j hj)
          ld := fun j hj => by
            rcases (ls_set hi).1 hj with rfl | hj
            · exact lor_bit.2 (.inl rfl)
            · exact lor_bit.2 (.inr (hm.ld j hj))
          size := by rw [put_size]; exact hm.size
          wr := fun j q d hq hj hd => f1 j q d hq ((ls_set hi).1 hj) hd
          nw := fun t ht hn => f2 t ht fun j q hq hj => hn j q hq ((ls_set hi).2 hj)
          defers := by rw [Go.Ek.put_defers]; exact hm.defers
          rel := hrel
          sub := hs1
          low := hm.low
          pend := fun j ao hin hj => by
            obtain ⟨g1, g2, g3⟩ := old j ao hin hj
            obtain ⟨c, co, p1, p2, p3, p4, p5, p6⟩ := hm.pend j ao g1 g3
            refine ⟨c, co, (hl _ _ p1).1, ?_, p3, p4.mono hl, by rw [(hl _ _ p1).2]; exact p5, p6⟩
            rw [hblk c]
            · exact p2
            · intro j2 ao2 h2 hx2 hb2
              have hl2 : Ls L j2 := by
                rcases hXL j2 hx2 with rfl | h
                · rw [(he.pds j2 ao2 h2).1] at hD; cases hD
                · exact h
              have := hm.dist j2 j ao2 ao c h2 g1 hl2 g3 hb2 p1
              subst this
              rw [hx2] at g2
              cases g2
          dist := fun i1 i2 x y c hin1 hin2 hj1 hj2 hc1 hc2 => by
            obtain ⟨g1, g2, g3⟩ := old i1 x hin1 hj1
            obtain ⟨g1', g2', g3'⟩ := old i2 y hin2 hj2
            obtain ⟨c1, _, p1, _⟩ := hm.pend i1 x g1 g3
            obtain ⟨c2, _, p2, _⟩ := hm.pend i2 y g1' g3'
            have e1 := Option.some.inj ((hl _ _ p1).1.symm.trans hc1)
            have e2 := Option.some.inj ((hl _ _ p2).1.symm.trans hc2)
            subst e1 e2
            exact hm.dist i1 i2 x y _ g1 g1' g3 g3' p1 p2
          res := fun j q hq hk hj => (hres _).2 (hm.res j q hq hk fun h => hj ((ls_set hi).2 (.inr h))) }
theorem main_wp {ops : Array Oper} (hops : OpsOk P) (hc : CallOk P call) (hls : ls = ops.toList.map (mkPt P ops.toList)) (hg : Good ls) (hN : N ≤ 16000) (hall : ops.toList.all (okOp N) = true) {k : Fr → AW → R} {Q : Exit → Act → World → Prop} :
    ∀ (fuel : Nat) (S : List Nat) (D X : Nat) (V : Nat → Value) (fr : Fr) (pd : Pd) (w : AW) (L : Array Bool) (β : Ren) (K' : Keep P) (a : Act) (cw : World) (U : List Nat),
    Ev P ops.toList ls call b f0 D X V fr pd w → Ma K N ls b f0 D X V pd w L β K' a cw → Parked ls S → (compP P ops.toList ls S D X).run call b fr pd w k = true → Stands K N β k (Q .normal) →
    (∀ i, i < L.size → ¬ Ls L i → i ∈ U) → U.length ≤ fuel → wpAny P .any ops Q fuel L a cw := by
  intro fuel
  have hbadd : ∀ i j, Nat.add b i = Nat.add b j → i = j := fun i j h => by
    have h : b + i = b + j := h
    omega
  have hdone : ∀ (S : List Nat) (D X : Nat) (V : Nat → Value) (fr : Fr) (pd : Pd) (w : AW) (L : Array Bool) (β : Ren) (K' : Keep P) (a : Act) (cw : World),
      Ev P ops.toList ls call b f0 D X V fr pd w → Ma K N ls b f0 D X V pd w L β K' a cw → Parked ls S → (compP P ops.toList ls S D X).run call b fr pd w k = true → Stands K N β k (Q .normal) → Region.ready .any ops L = [] → Q .normal a cw := by
    intro S D X V fr pd w L β K' a cw he hm hpk h hk hrd
    have hszo : L.size = ops.size := by rw [hm.sz, hls]; simp
    have all : ∀ i, i < L.size → Ls L i := by
      intro i
      induction i using Nat.strongRecOn with
      | _ i ih =>
        intro hi
        rcases Classical.em (Ls L i) with hl | hn
        · exact hl
        · exfalso
          have ho : ops[i]? = some (ops[i]'(by omega)) := Array.getElem?_eq_getElem (by omega)
          have hin : i ∈ Region.ready .any ops L := by
            refine mem_ready.2 ⟨unls_of hi hn, _, ho, fun e he' hb => ?_⟩
            have hlt := hg.back i _ e.on (by rw [hls]; exact pt_at ho) (emk_ok (l := (ops[i]'(by omega)).after.toList) (by simpa using he') hb)
            exact ih e.on hlt (by omega)
          rw [hrd] at hin
          cases hin
    rcases hpk with rfl | ⟨i, S', p, rfl, hp, _, _⟩
    · unfold compP at h
      cases hall2 : allI (fun i _ => hasB D i) ls 0 with
      | false => rw [hall2] at h; cases h
      | true =>
        rw [hall2, cond_true] at h
        have hlay : layK D b pd w (fun _ w => k fr w) = true := h
        obtain ⟨w', K'', g1, g2, g3, _, _⟩ := lay_ok (K := K) (m := D) (k := fun _ w => k fr w) hbadd pd [] w K' hlay hm.rel hm.sub
          (fun j ao hin _ => hm.pend j ao hin (all j (by
            obtain ⟨_, _, q, hq, _⟩ := he.pds j ao hin
            rw [hm.sz]
            exact (List.getElem?_eq_some_iff.1 hq).1))) he.nod
          (fun i j x y c hi _ hj _ h1 h2 => by
            have li : ∀ (j : Nat) (ao : AO), (j, ao) ∈ pd → Ls L j := fun j ao hin => all j (by
              obtain ⟨_, _, q, hq, _⟩ := he.pds j ao hin
              rw [hm.sz]
              exact (List.getElem?_eq_some_iff.1 hq).1)
            exact hm.dist i j x y c hi hj (li i x hi) (li j y hj) h1 h2)
        refine hk β fr w' a cw (Le.refl β) ⟨g2.less g3, ⟨hm.size, fun t ht => ?_⟩, hm.defers⟩ g1
        have ht2 : t < 16000 := Nat.lt_of_lt_of_le ht hN
        rcases Classical.em (∃ (i : Nat) (p : Pt), ls[i]? = some p ∧ p.o.dst = some t) with ⟨i, p, h1, h2⟩ | hn
        · have hl := all i (by rw [hm.sz]; exact (List.getElem?_eq_some_iff.1 h1).1)
          rw [he.wr.wr i p t h1 (hm.ld i hl) h2]
          exact hm.wr i p t h1 hl h2
        · rw [he.wr.nw t ht2 fun i p h1 _ h2 => hn ⟨i, p, h1, h2⟩]
          exact hm.nw t ht fun i p h1 _ h2 => hn ⟨i, p, h1, h2⟩
    · obtain ⟨_, _, hD, _⟩ := compP_step h
      have := hm.ld i (all i (by rw [hm.sz]; exact (List.getElem?_eq_some_iff.1 hp).1))
      rw [this] at hD
      cases hD
  induction fuel with
  | zero =>
    intro S D X V fr pd w L β K' a cw U he hm hpk h hk hU hlen
    have hr : Region.ready .any ops L = [] := by
      rw [List.eq_nil_iff_forall_not_mem]
      intro i hi
      obtain ⟨h1, h2, _⟩ := in_ready hls hi
      have := hU i h1 h2
      rw [List.length_eq_zero_iff.1 (Nat.le_zero.1 hlen)] at this
      cases this
    exact ⟨hr, hdone S D X V fr pd w L β K' a cw he hm hpk h hk hr⟩
  | succ fuel ih =>
    intro S D X V fr pd w L β K' a cw U he hm hpk h hk hU hlen
    refine ⟨hdone S D X V fr pd w L β K' a cw he hm hpk h hk, fun i hi => ?_⟩
    obtain ⟨h1, h2, o, ho, hp, hr⟩ := in_ready hls hi
    have hiU := hU i h1 h2
    have hU' : ∀ j, j < (L.setIfInBounds i true).size → ¬ Ls (L.setIfInBounds i true) j → j ∈ U.erase i := by
      intro j hj hl
      rw [Array.size_setIfInBounds] at hj
      have hji : j ≠ i := fun e => hl ((ls_set h1).2 (.inl e))
      exact (List.mem_erase_of_ne hji).2 (hU j hj fun h => hl ((ls_set h1).2 (.inr h)))
    have hlen' : (U.erase i).length ≤ fuel := by
      rw [List.length_erase_of_mem hiU]
      omega
    have hok : okOp N o = true := List.all_eq_true.1 hall o (by rw [← Array.getElem?_toList] at ho; exact List.mem_of_getElem? ho)
    cases hD : hasB D i with
    | true =>
      have hX : hasB X i = false := by
        cases hx : hasB X i with
        | false => rfl
        | true => exact absurd (hm.xl i hx) h2
      rcases he.eff i _ hp hD hX with h0 | h0
      · refine step_flt hls hg hN hall he hm hi hD (fun q hq => by obtain rfl := Option.some.inj (hp.symm.trans hq); exact h0) fun a' hm' => ?_
        exact ih S D X V fr pd w _ β K' a' cw _ he hm' hpk h hk hU' hlen'
      · refine step_alc hls hg hN hall he hm hi hD (fun q hq => by obtain rfl := Option.some.inj (hp.symm.trans hq); exact h0) fun β' K'' a' cw' hl hm' => ?_
        exact ih S D X V fr pd w _ β' K'' a' cw' _ he hm' hpk h (hk.mono hl) hU' hlen'
    | false =>
      rcases hpk with rfl | ⟨i0, S', p0, rfl, hp0, hk0, hk1⟩
      · exfalso
        unfold compP at h
        cases hall2 : allI (fun i _ => hasB D i) ls 0 with
        | false => rw [hall2] at h; cases h
        | true =>
          have := allI_ok hall2 hp
          rw [Nat.zero_add, hD] at this
          cases this
      · obtain ⟨p1, hp1, hD0, s1, s2, s3⟩ := compP_step h
        obtain rfl := Option.some.inj (hp0.symm.trans hp1)
        rcases s3 with ⟨e, _⟩ | ⟨e, _⟩ | ⟨_, _, s3⟩
        · exact absurd e hk0
        · exact absurd e hk1
        obtain ⟨t1, t2, t3⟩ := compE_step s3
        have hii : i = i0 := by
          rcases t1 i _ hp with e | e | e
          · exact e
          · rw [hD] at e; cases e
          · obtain ⟨x, hx1, hx2⟩ := subB_no e
            rw [hm.ld x (hr x hx1)] at hx2
            cases hx2
        subst hii
        obtain rfl := Option.some.inj (hp.symm.trans hp0)
        generalize hX' : Nat.lor X (closeM (revI ls 0 []) (Nat.lor (mkPt P ops.toList o).em (bit i))) = X' at t2 t3
        have hXX : ∀ j, hasB X j = true → hasB X' j = true := fun j hj => by rw [← hX', hasB_or, hj]; rfl
        have hXi : hasB X' i = true := by
          rw [← hX', hasB_or, closeM_in, Bool.or_true]
          exact lor_bit.2 (.inl rfl)
        have hXL : ∀ j, hasB X' j = true → j = i ∨ Ls L j := by
          intro j hj
          rw [← hX', hasB_or, Bool.or_eq_true] at hj
          rcases hj with hj | hj
          · exact .inr (hm.xl j hj)
          · refine closeM_ok (L := fun j => j = i ∨ Ls L j) ?_ ?_ j hj
            · intro c m hcm hcl e hem
              rcases revI_ok hcm with ⟨j2, q, hq, rfl, rfl⟩ | hcm
              · rw [Nat.zero_add] at hcl
                rcases hcl with e2 | hcl
                · rw [e2] at hq
                  obtain rfl := Option.some.inj (hp.symm.trans hq)
                  exact .inr (hr e hem)
                · exact .inr (hm.closed j2 q e hq hcl hem)
              · cases hcm
            · intro c hcc
              rcases lor_bit.1 hcc with e | hcc
              · exact .inl e
              · exact .inr (hr c hcc)
        have pdL : ∀ (j : Nat) (ao : AO), (j, ao) ∈ pd → hasB X' j = true → Ls L j := by
          intro j ao hin hx
          rcases hXL j hx with e | hl
          · rw [e] at hin
            rw [(he.pds i ao hin).1] at hD
            cases hD
          · exact hl
        obtain ⟨w1, K1, g1, g2, g3, g4, g5⟩ := lay_ok (K := K) (m := X') hbadd pd [] w K' t3 hm.rel hm.sub (fun j ao hin hx => hm.pend j ao hin (pdL j ao hin hx)) he.nod
          (fun i1 i2 x y c hi1 hx1 hi2 hx2 hc1 hc2 => hm.dist i1 i2 x y c hi1 hi2 (pdL i1 x hi1 hx1) (pdL i2 y hi2 hx2) hc1 hc2)
        have hlk := look_of hg he.wr hp (fun e hh => subB_ok s1 hh) s2
        have hs := hm.sees hN hp h2 hr hlk
        have hF : isF ops.toList o fr = false := by
          cases hf : isF ops.toList o fr with
          | false => rfl
          | true =>
            have g1 : cond (isF ops.toList o fr) false _ = true := g1
            rw [hf] at g1
            cases g1
        have g1 : cond (isF ops.toList o fr) false _ = true := g1
        rw [hF, cond_false] at g1
        have hw := guard_of (o := o) hall hm.size hF hs
        have fin : ∀ v w' β' cv cw', Le β β' → Rel K1 β' w' cw' → VR β' v cv → ((put o.dst).run v fr fun fr => (chkC P ops.toList (openF D X' ls 0)).run call fr w' ((compP P ops.toList ls S' (Nat.lor D (bit i)) X').run call b fr ((pd.filter fun x => !hasB X' x.1).reverse ++ []) w' k)) = true →
            wpAny P .any ops Q fuel (L.setIfInBounds i true) (a.put o.dst cv) cw' := by
          intro v w' β' cv cw' hl hrel hv hrun
          rw [put_run] at hrun
          obtain ⟨r1, r2⟩ := chkC_ok _ hrun
          have he' := eff_ev hg he hp hD s1 hXX hXi t2 v w' rfl r2
          have hm' := eff_ma hg he hm hp hD h1 h2 hr (dst_lt hok) hXi hXL g3 g4 g5 hl hrel hv
          obtain ⟨S2, D2, V2, fr2, pd2, q1, q2, q3, q4⟩ := adv hg hls S' _ _ _ _ he' hm' r1
          exact ih S2 D2 X' V2 fr2 pd2 w' _ β' K1 _ cw' _ q2 q3 q1 q4 (hk.mono hl) hU' hlen'
        unfold wpOp
        simp only [ho, hw]
        have g1 : cond (wantF ops.toList o fr) ((compOp P o).run call fr w1 fun v w => (put o.dst).run v fr fun fr => (chkC P ops.toList (openF D X' ls 0)).run call fr w ((compP P ops.toList ls S' (Nat.lor D (bit i)) X').run call b fr ((pd.filter fun x => !hasB X' x.1).reverse ++ []) w k))
          ((put o.dst).run undef fr fun fr => (chkC P ops.toList (openF D X' ls 0)).run call fr w1 ((compP P ops.toList ls S' (Nat.lor D (bit i)) X').run call b fr ((pd.filter fun x => !hasB X' x.1).reverse ++ []) w1 k)) = true := g1
        cases hwf : wantF ops.toList o fr with
        | true =>
          simp only [if_true]
          rw [hwf, cond_true] at g1
          refine .inl (hops call o K1 β w1 cw fr a _ hc g2 g1 (tmps_of hok hs) _ _ ?_)
          intro v w' β' cv cw' hl hrel hv hrun
          exact fin v w' β' cv cw' hl hrel hv hrun
        | false =>
          simp only [Bool.false_eq_true, if_false]
          rw [hwf, cond_false] at g1
          exact fin undef w1 β undef cw (Le.refl β) g2 undef_ok g1
end Go.Ek
namespace Go.Ek
set_option linter.unusedVariables false
set_option linter.unusedSimpArgs false
variable {P : Program}
theorem Rel.reserve {K : Keep P} {β : Ren} {w : AW} {cw : World} (h : Rel K β w cw) (n d : Nat) : ∃ K' : Keep P, Sub K K' ∧ (∀ m, w.nx ≤ m → m < w.nx + n → K'.res m) ∧ Rel K' β ⟨w.h, Nat.add w.nx n⟩ { cw with drawn := d } := by
  refine ⟨⟨K.tape, K.os, K.output, K.blk, K.fix, K.fixed, fun m => K.res m ∨ (w.nx ≤ m ∧ m < w.nx + n)⟩, ⟨rfl, rfl, rfl, fun _ _ h => h, rfl, fun _ h => .inl h⟩, fun m h1 h2 => .inr ⟨h1, h2⟩, ?_⟩
  refine ⟨h.tape, h.os, h.output, h.keep, h.obj, h.inj, fun m hm => h.fresh m (by
    have hm : w.nx + n ≤ m := hm
    omega), h.glob, h.room, fun m hm => ?_⟩
  show m < w.nx + n ∧ β m = none
  rcases hm with hm | ⟨h1, h2⟩
  · obtain ⟨h1, h2⟩ := h.res m hm
    exact ⟨by omega, h2⟩
  · exact ⟨h2, h.fresh m h1⟩
theorem drawOk (hmix : P.follows .mixedOrders = true) (hops : OpsOk P) : DrawOk P := by
  intro call K N β id ops fr w a cw Q k hc hN hall hs h hk
  refine wp_region_any hmix ?_
  generalize hls : ops.toList.map (mkPt P ops.toList) = ls at h
  unfold compR at h
  cases hg : okG ls with
  | false => rw [hg] at h; cases h
  | true =>
    rw [hg, cond_true] at h
    simp only [natK_eq] at h
    have good := good_of hg
    obtain ⟨K', h1, h2, h3⟩ := hs.rel.reserve (cntA ls) (cw.drawn + 1)
    have hz : ∀ i, hasB 0 i = true → False := fun i hi => by rw [hasB_zero] at hi; cases hi
    have hlz : ∀ i, Ls (Array.replicate ops.size false) i → False := fun i hi => by
      simp only [Ls, Array.getD_eq_getD_getElem?, Array.getElem?_replicate] at hi
      split at hi <;> cases hi
    have he : Ev P ops.toList ls call w.nx fr 0 0 (fun _ => undef) fr [] ⟨w.h, Nat.add w.nx (cntA ls)⟩ :=
      { wr := ⟨fun i p d _ hi _ => (hz i hi).elim, fun _ _ _ => rfl⟩
        ems := fun j p e _ hj _ => (hz j hj).elim
        eff := fun j p _ hj _ => (hz j hj).elim
        fl := fun j p _ hj _ _ => (hz j hj).elim
        al := fun j p _ hj _ _ => (hz j hj).elim
        pds := fun j ao hin => by cases hin
        nod := List.Pairwise.nil }
    have hsz : ls.length = ops.size := by rw [← hls]; simp
    have hm : Ma K N ls w.nx fr 0 0 (fun _ => undef) [] ⟨w.h, Nat.add w.nx (cntA ls)⟩ (Array.replicate ops.size false) β K' a { cw with drawn := cw.drawn + 1 } :=
      { sz := by rw [Array.size_replicate, hsz]
        closed := fun i p e _ hi _ => (hlz i hi).elim
        xl := fun i hi => (hz i hi).elim
        ld := fun i hi => (hlz i hi).elim
        size := hs.frame.size
        wr := fun i p d _ hi _ => (hlz i hi).elim
        nw := fun t ht _ => hs.frame.get t ht
        defers := hs.defers
        rel := h3
        sub := h1
        low := fun n hn => (hs.rel.res n hn).1
        pend := fun j ao hin => by cases hin
        dist := fun i j x y c hin => by cases hin
        res := fun j p hp hk _ => by
          have hj : j < ls.length := (List.getElem?_eq_some_iff.1 hp).1
          have hc : cntA ls = ls.length := by
            unfold cntA
            cases ha : allI (fun _ p => !Nat.beq p.kd 1) ls 0 with
            | false => rfl
            | true =>
              have := allI_ok ha hp
              rw [hk] at this
              cases this
          have e : Nat.add w.nx j = w.nx + j := rfl
          rw [e]
          exact h2 _ (by omega) (by omega) }
    obtain ⟨S, D, V, fr', pd, g1, g2, g3, g4⟩ := adv good hls.symm _ _ _ _ _ he hm h
    exact main_wp hops hc hls.symm good hN hall ops.size S D 0 V fr' pd _ _ β K' a _ (List.range ops.size) g2 g3 g1 g4 hk (fun i hi _ => by
      rw [Array.size_replicate] at hi
      exact List.mem_range.2 hi) (by simp)
end Go.Ek
namespace Go.Ek
set_option linter.unusedVariables false
set_option linter.unusedSimpArgs false
variable {P : Program}
/-- A hook, at one function. -/
def HookAt (P : Program) (f : FuncId) (h : List Value → AW → (Value → AW → R) → R) : Prop := ∀ args w k, h args w k = true →
    ∀ (K : Keep P) (β : Ren) (cargs : Array Value) (cw : World) (R : Value → World → Prop), Rel K β w cw → VRs β args cargs.toList →
      (∀ v w' β' cv cw', Le β β' → Rel K β' w' cw' → VR β' v cv → k v w' = true → R cv cw') → Went P f cargs cw R
theorem hookOk_none : HookOk P (fun _ => none) := fun f h hf => by cases hf
theorem hookOk_cons {H : Hooks} {g : FuncId} {h : List Value → AW → (Value → AW → R) → R} (h1 : HookAt P g h) (h2 : HookOk P H) : HookOk P (fun f => cond (Nat.beq f g) (some h) (H f)) := by
  intro f h' hf
  have hf : cond (Nat.beq f g) (some h) (H f) = some h' := hf
  rw [beq_n] at hf
  by_cases e : f = g
  · subst e
    simp only [decide_true, cond_true, Option.some.injEq] at hf
    subst hf
    exact h1
  · simp only [e, decide_false, cond_false] at hf
    exact h2 f h' hf
theorem cargs_one {β : Ren} {x : Value} {cargs : Array Value} (h : VRs β [x] cargs.toList) : ∃ cx, cargs = #[cx] ∧ VR β x cx := by
  obtain ⟨cx, ws, h1, h2, h3⟩ := h.uncons
  cases h3
  exact ⟨cx, by apply Array.ext'; simpa using h1, h2⟩
/-- internal/abi.NoEscape. -/
theorem hSame_ok {f : FuncId} {fn : Func} (hf : P.funcs[f]? = some fn) (hname : (fn.name == "runtime.NumGoroutine") = false) (hb : fn.body.isNone = true) (hn : Extern.findNext fn = none) (he : Extern.find fn = some Extern.AbiNoEscape.same) : HookAt P f hSame := by
  intro args w k h K β cargs cw R hr hv hk
  unfold hSame at h
  split at h
  · obtain ⟨cx, rfl, hx⟩ := cargs_one hv
    refine .inr ⟨cx, cw, ?_, hk _ w β cx cw (Le.refl β) hr hx h⟩
    rw [run_callFunc_extern hf hname hb hn he, Lib.run_noEscape]
    rfl
  · cases h
theorem digits_get : ∀ (n t : Nat) (acc : Array Value) (i : Nat), i < acc.size + n → (∀ j, j < acc.size → ∃ m, acc[j]? = some (.int .u8 m)) → ∃ m, (Extern.BytealgMakeNoZero.digits n t acc)[i]? = some (.int .u8 m)
  | 0, t, acc, i, hi, h => by
    rw [Extern.BytealgMakeNoZero.digits]
    exact h i (by omega)
  | n + 1, t, acc, i, hi, h => by
    rw [Extern.BytealgMakeNoZero.digits]
    refine digits_get n (t / 256) _ i (by simp; omega) fun j hj => ?_
    simp at hj
    by_cases e : j = acc.size
    · subst e
      exact ⟨Int.ofNat (t % 256), by simp⟩
    · obtain ⟨m, hm⟩ := h j (by omega)
      exact ⟨m, by rw [Array.getElem?_push_lt (by omega)]; rw [Array.getElem?_eq_getElem (by omega)] at hm; exact hm⟩
theorem run_mnz (w : World) (ps : Array TypeId) (t e : TypeId) (ht : P.underlying t = some (.slice e)) (n : Nat) (hn : n ≤ 281474976710656) :
    ∃ cs : Array Value, (Extern.BytealgMakeNoZero.makeNoZero ps #[t] #[.int .i64 n]).run P w = .ok (.slice (some ⟨w.heap.size, 0, none⟩) n cs.size) (w.drew.drew.alloc (.cells cs e)) ∧ n ≤ cs.size ∧ ∀ i, i < cs.size → ∃ m, cs[i]? = some (.int .u8 m) := by
  have hdef : Extern.BytealgMakeNoZero.makeNoZero ps #[t] #[.int .i64 n] =
      (do
        let .slice elem ← underlying t | stuck "bytealg.MakeNoZero: slice type expected"
        if (n : Int) < 0 || (n : Int) > 2 ^ 48 then runtimePanic (.error "makeslice: len out of range")
        let cap ← choose (.appendCap (n : Int).toNat 0 elem)
        askRoom cap
        let bytes ← choose (.extern "internal/bytealg.MakeNoZero.bytes" 0)
        let a ← newRow elem (Extern.BytealgMakeNoZero.digits cap bytes #[])
        pure (.slice (some a) (n : Int).toNat cap)) := rfl
  refine ⟨Extern.BytealgMakeNoZero.digits (grownCap w n 0 e) ((Question.extern "internal/bytealg.MakeNoZero.bytes" 0).cut (w.tape (w.drawn + 1) (.extern "internal/bytealg.MakeNoZero.bytes" 0))) #[], ?_, ?_, ?_⟩
  · rw [hdef]
    have h1 : ¬ (n : Int) < 0 := by omega
    have h2 : ¬ (281474976710656 : Int) < (n : Int) := by omega
    simp [run_underlying ht, h1, h2, Question.forced, newRow, Lib.size_digits, grownCap]
  · rw [Lib.size_digits]
    simpa using grownCap_ge w n 0 e
  · intro i hi
    rw [Lib.size_digits] at hi
    exact digits_get _ _ _ i hi fun j hj => by simp at hj
theorem repL_one (v : Value) : ∀ n, repL [v] n = List.replicate n v
  | 0 => rfl
  | n + 1 => by simp [repL, repL_one v n, List.replicate_succ]
/-- internal/bytealg.MakeNoZero. -/
theorem hMakeNoZero_ok {f : FuncId} {fn : Func} {ps : Array TypeId} {t e : TypeId} (hf : P.funcs[f]? = some fn) (hname : (fn.name == "runtime.NumGoroutine") = false) (hb : fn.body.isNone = true) (hn : Extern.findNext fn = none)
    (he : Extern.find fn = some (Extern.BytealgMakeNoZero.makeNoZero ps #[t])) (ht : P.underlying t = some (.slice e)) (hce : P.cellsOf e = 1) : HookAt P f (hMakeNoZero e) := by
  intro args w k h K β cargs cw R hr hv hk
  unfold hMakeNoZero at h
  split at h
  · obtain ⟨cx, rfl, hx⟩ := cargs_one hv
    obtain ⟨j, n, h1, h2⟩ := idxK_ok h hx
    cases hx
    rename_i m _
    have h2 : Value.int .i64 m = .int j (.ofNat n) := h2
    obtain ⟨rfl, rfl⟩ := Value.int.inj h2
    rw [ble_n] at h1
    by_cases hle : n ≤ 1000000
    · simp only [hle, decide_true, cond_true, repK_eq, repL_one] at h1
      obtain ⟨cs, g1, g2, g3⟩ := run_mnz (P := P) cw ps t e ht n (by omega)
      have hr2 : Rel K β w cw.drew.drew := (hr.drew _).drew _
      obtain ⟨b, w', β', h4, h5, h6, h7, h8⟩ := newR_ok (o := .cells (List.replicate n (anyI .u8)) e 0 0) (co := .cells cs e (0, 0)) cs.size hr2 h1 rfl ⟨rfl, fun i v hi => by
        have hin : i < n := by simpa using (List.getElem?_eq_some_iff.1 hi).1
        obtain ⟨m, hm⟩ := g3 i (by omega)
        refine ⟨_, hm, ?_⟩
        have hvv : v = anyI .u8 := by
          rw [List.getElem?_replicate, if_pos hin] at hi
          exact (Option.some.inj hi).symm
        rw [hvv]
        exact .anyInt .u8 m .nil, fz0⟩ (fun vs e2 lo hi C e' f' h1 h2 => by
          cases h1
          cases h2
          rw [hce, Nat.mul_one]
          exact Nat.le_refl _)
      refine .inr ⟨_, _, ?_, hk _ w' β' (.slice (some ⟨cw.heap.size, 0, none⟩) n cs.size) _ h5 h6 (.slice 0 n h7 ?_ ?_ .nil) h4⟩
      · rw [run_callFunc_extern hf hname hb hn he]
        have g1 : (Extern.BytealgMakeNoZero.makeNoZero ps #[t] #[.int .i64 (Int.ofNat n)]).run P cw = _ := g1
        rw [g1]
        rfl
      · unfold CapR
        have e1 : Nat.add n big = n + big := rfl
        rw [if_pos (by rw [e1]; omega), e1]
        omega
      · intro _ _
        rw [h8]
        exact Nat.le_refl _
    · simp only [hle, decide_false, cond_false] at h1
      cases h1
  · cases h
end Go.Ek
namespace Go.Ek
open Go.RowKit
set_option linter.unusedVariables false
set_option linter.unusedSimpArgs false
variable {P : Program}
/-- Names of the variables alone. -/
def ren0 : Ren := ⟨fun n => if n < 64 then some n else none, fun _ => 0⟩
/-- All is kept. -/
def keepAll (W : World) (fix : Nat → Bool) (h : ∀ c, fix c = true → ∃ o, W.heap[c]? = some o) : Keep P := ⟨W.tape, W.os, W.output, fun c => W.heap[c]?, fix, h, fun _ => False⟩
/-- The evaluator's world at the start: tables that stay. -/
def Tabs (w : AW) (W : World) : Prop := w.nx = 64 ∧ ∀ n o, w.h.get (n + 1) = some o → n < 64 ∧ ∃ (vs : List Value) (C : Array Value) (e : TypeId) (f : Nat × Nat), o = .ro vs ∧ W.heap[n]? = some (.cells C e f) ∧ ∀ (i : Nat) (v : Value), vs[i]? = some v → C[i]? = some v ∧ plain1 v = true
def fixOf (w : AW) (c : Nat) : Bool := (w.h.get (c + 1)).isSome
theorem rel0 {w : AW} {W : World} (h : Tabs w W) : ∃ K : Keep P, (∀ c, K.blk c = W.heap[c]?) ∧ K.tape = W.tape ∧ K.os = W.os ∧ K.output = W.output ∧ Rel K ren0 w W := by
  have hf : ∀ c, fixOf w c = true → ∃ o, W.heap[c]? = some o := by
    intro c hc
    unfold fixOf at hc
    obtain ⟨o, ho⟩ := Option.isSome_iff_exists.1 hc
    obtain ⟨_, vs, C, e, f, _, h2, _⟩ := h.2 c o ho
    exact ⟨_, h2⟩
  refine ⟨keepAll W (fixOf w) hf, fun _ => rfl, rfl, rfl, rfl, rfl, rfl, rfl, fun c o ho => ho, ?_, ?_, ?_, ?_, ?_, fun _ h => h.elim⟩
  · intro n o hn ha
    obtain ⟨h1, vs, C, e, f, rfl, h2, h3⟩ := h.2 n o hn
    refine ⟨n, .cells C e f, if_pos h1, h2, fun i v hv => ?_, .inl ⟨rfl, ?_⟩⟩
    · obtain ⟨h4, h5⟩ := h3 i v hv
      exact ⟨v, h4, plain1_ok h5⟩
    · show fixOf w n = true
      unfold fixOf
      rw [hn]
      rfl
  · intro n m a b c hn hm _ _ h1 h2
    obtain ⟨g1, _⟩ := h.2 n a hn
    obtain ⟨g2, _⟩ := h.2 m b hm
    have e1 : (some n : Option Nat) = some c := by rw [← h1]; exact (if_pos g1).symm
    have e2 : (some m : Option Nat) = some c := by rw [← h2]; exact (if_pos g2).symm
    exact Option.some.inj (e1.trans e2.symm)
  · intro n hn
    rw [h.1] at hn
    exact if_neg (by omega)
  · intro g hg
    exact if_pos hg
  · intro n vs e lo hi c C e' f hn
    obtain ⟨_, vs', _, _, _, h1, _⟩ := h.2 n _ hn
    cases h1
theorem below_of {K : Keep P} {W W' : World} {β : Ren} {w' : AW} (hK : ∀ c, K.blk c = W.heap[c]?) (ht : K.tape = W.tape) (ho : K.os = W.os) (hu : K.output = W.output) (h : Rel K β w' W') : Below W.heap.size W W' := by
  refine ⟨h.os.trans ho, h.tape.trans ht, h.output.trans hu, ?_, ?_⟩
  · rcases Nat.eq_zero_or_pos W.heap.size with h0 | h0
    · omega
    · have h1 : W.heap[W.heap.size - 1]? = some (W.heap[W.heap.size - 1]'(by omega)) := Array.getElem?_eq_getElem (by omega)
      have h2 := h.keep _ _ ((hK _).trans h1)
      have h3 := (Array.getElem?_eq_some_iff.1 h2).1
      omega
  · intro k hk
    have h1 : W.heap[k]? = some (W.heap[k]'hk) := Array.getElem?_eq_getElem hk
    rw [h1]
    exact h.keep _ _ ((hK _).trans h1)
theorem isTrue_ok {β : Ren} {v cv : Value} (h : isTrue v = true) (hv : VR β v cv) : cv = .bool true := by
  cases hv with
  | bool b _ =>
    have : b = true := h
    rw [this]
  | _ => cases h
theorem calls_of_went {f : FuncId} {args : Array Value} {W : World} {R : Value → World → Prop} {fn : Func} (hf : P.funcs[f]? = some fn) (hb : fn.body.isSome = true) (hn : (fn.name == "runtime.NumGoroutine") = false) (h : Went P f args W R) :
    Calls P f args W fun e w' => ∃ v, e = .returned v ∧ R v w' := by
  rcases h with ⟨_, h⟩ | ⟨v, w', h1, h2⟩
  · exact h
  · rw [run_callFunc ⟨fn, hf, hb, hn⟩] at h1
    cases h1
/-- FROM THE EVALUATOR'S YES TO THE CALL. -/
theorem calls_of_ev (hmix : P.follows .mixedOrders = true) {H : Hooks} (hH : HookOk P H) {n : Nat} {f : FuncId} {fn : Func} (hf : P.funcs[f]? = some fn) (hb : fn.body.isSome = true) (hn : (fn.name == "runtime.NumGoroutine") = false)
    {args : List Value} {cargs : Array Value} {w : AW} {W : World} (hw : Tabs w W) (hv : VRs ren0 args cargs.toList) (h : evF P H n f args w (fun v _ => isTrue v) = true) :
    Calls P f cargs W fun e W' => e = .returned (.bool true) ∧ Below W.heap.size W W' := by
  obtain ⟨K, h1, h2, h3, h4, h5⟩ := rel0 (P := P) hw
  have hgo := ev_ok opsOk (drawOk hmix opsOk) hH n f args w _ h K ren0 cargs W (fun v W' => v = .bool true ∧ Below W.heap.size W W') h5 hv (by
    intro v w' β' cv cw' hl hr hv hk
    exact ⟨isTrue_ok hk hv, below_of h1 h2 h3 h4 hr⟩)
  refine (calls_of_went hf hb hn hgo).mono fun e W' he => ?_
  obtain ⟨v, rfl, rfl, hbel⟩ := he
  exact ⟨rfl, hbel⟩
theorem plain_list {zs : List Int} {k : IntKind} : ∀ (i : Nat) (v : Value), (zs.map fun z => Value.int k z)[i]? = some v → plain1 v = true := by
  intro i v hv
  rw [List.getElem?_map] at hv
  cases hz : zs[i]? with
  | none => rw [hz] at hv; cases hv
  | some z => rw [hz] at hv; obtain rfl := Option.some.inj hv; rfl
/-- A table of the program's, as it is listed. -/
theorem tab_heap {W : World} {name : String} {k : IntKind} {zs : List Int} {g : Nat} (hg : P.globalNamed name = some g) (h : Lib.TabIs P W name k zs) : ∃ e f, W.heap[g]? = some (.cells (zs.map fun z => Value.int k z).toArray e f) := by
  unfold Lib.TabIs World.var? at h
  rw [hg] at h
  simp only [Option.bind_some] at h
  split at h
  · rename_i cs e f hh
    obtain rfl := Option.some.inj h
    exact ⟨e, f, hh⟩
  · cases h
/-- Tables laid, one by one. -/
noncomputable def tabK : List (Nat × List Value) → AW → (AW → R) → R
  | [], w, k => k w
  | x :: r, w, k => w.put x.1 (.ro x.2) fun w => tabK r w k
def TabIn (W : World) (x : Nat × List Value) : Prop := x.1 < 64 ∧ ∃ (C : Array Value) (e : TypeId) (f : Nat × Nat), W.heap[x.1]? = some (.cells C e f) ∧ ∀ (i : Nat) (v : Value), x.2[i]? = some v → C[i]? = some v ∧ plain1 v = true
theorem tabK_ok {W : World} {k : AW → R} : ∀ (l : List (Nat × List Value)) (w : AW), (∀ x ∈ l, TabIn W x) → Tabs w W → tabK l w k = true → ∃ w', k w' = true ∧ Tabs w' W
  | [], w, _, hw, h => ⟨w, h, hw⟩
  | x :: r, w, hx, hw, h => by
    obtain ⟨w1, h1, h2, h3⟩ := aw_put h
    refine tabK_ok r w1 (fun y hy => hx y (List.mem_cons_of_mem _ hy)) ⟨h3.trans hw.1, fun n o hn => ?_⟩ h1
    rw [h2] at hn
    by_cases e : n + 1 = x.1 + 1
    · rw [if_pos e] at hn
      obtain rfl := Option.some.inj hn
      obtain ⟨g1, C, e', f, g2, g3⟩ := hx x (List.mem_cons_self ..)
      have e : n = x.1 := by omega
      subst e
      exact ⟨g1, x.2, C, e', f, rfl, g2, g3⟩
    · rw [if_neg e] at hn
      exact hw.2 n o hn
theorem tabs_none (W : World) : Tabs ⟨.lf, 64⟩ W := ⟨rfl, fun n o hn => by cases hn⟩
theorem tabIn_of {W : World} {name : String} {k : IntKind} {zs : List Int} {g : Nat} (hlt : g < 64) (hg : P.globalNamed name = some g) (h : Lib.TabIs P W name k zs) : TabIn W (g, zs.map fun z => Value.int k z) := by
  obtain ⟨e, f, h1⟩ := tab_heap hg h
  exact ⟨hlt, _, e, f, h1, fun i v hv => ⟨by simpa using hv, plain_list i v hv⟩⟩
/-- FROM THE EVALUATOR'S YES TO THE CALL, tables laid. -/
theorem calls_of_tab (hmix : P.follows .mixedOrders = true) {H : Hooks} (hH : HookOk P H) {n : Nat} {f : FuncId} {fn : Func} (hf : P.funcs[f]? = some fn) (hb : fn.body.isSome = true) (hn : (fn.name == "runtime.NumGoroutine") = false)
    {args : List Value} {cargs : Array Value} {tabs : List (Nat × List Value)} {W : World} (ht : ∀ x ∈ tabs, TabIn W x) (hv : VRs ren0 args cargs.toList) (h : tabK tabs ⟨.lf, 64⟩ (fun w => evF P H n f args w (fun v _ => isTrue v)) = true) :
    Calls P f cargs W fun e W' => e = .returned (.bool true) ∧ Below W.heap.size W W' := by
  obtain ⟨w, h1, h2⟩ := tabK_ok tabs _ ht (tabs_none W) h
  exact calls_of_ev hmix hH hf hb hn h2 hv h1
end Go.Ek
