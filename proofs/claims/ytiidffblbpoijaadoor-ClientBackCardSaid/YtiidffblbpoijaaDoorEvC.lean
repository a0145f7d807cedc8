/-
  The evaluator: a program that runs the program's own code on values, and the proof that where it says yes the call goes as it says; part C of 5.
-/
import Derived.Test.YtiidffblbpoijaaDoorEvB
import Derived.Laws.MakeOwn
import Derived.Laws.IdiomCopy
import Derived.Lib.AppendStr
import Derived.Lib.UnsafeStr
import Derived.Laws.BytesString
import Derived.Lib.Builder
import Derived.MapKept
namespace Go.Ek
set_option linter.unusedVariables false
set_option linter.unusedSimpArgs false
variable {P : Program} {K : Keep P} {β : Ren} {w : AW} {cw : World} {fr : Fr} {a : Act} {call : CallT}
section
variable {dst : Option Tmp} {ty : TypeId} {pos : String} {af : Array Edge} {gd : Option (Nat × Bool)} {k : Value → AW → R}
theorem made_rep {z : Value} (hz : plain z = true) (c : Nat) : (madeCells z.cells (c * z.cells.size)).toList = repL (cellsL z) c := by
  rw [cells_plain hz]
  by_cases h : z.cells.size = 0
  · have : z.cells = #[] := Array.eq_empty_of_size_eq_zero h
    simp only [this]
    have e : ∀ n, repL ([] : List Value) n = [] := fun n => by induction n with | zero => rfl | succ n ih => simp [repL, ih]
    simp [e, madeCells]
  · exact rep_eq (by omega)
theorem op_makeSlice {t : TypeId} {l c : Operand} (hr : Rel K β w cw) (h : (compOp P ⟨dst, .makeSlice t l c, ty, pos, af, gd⟩).run call fr w k = true) (ht : TmpR β fr a [l, c]) : Gives P K β a ⟨dst, .makeSlice t l c, ty, pos, af, gd⟩ cw k := by
  simp only [compOp] at h
  cases hd : P.underlying t with
  | none => rw [hd] at h; cases h
  | some d =>
    rw [hd] at h
    cases d with
    | slice e =>
      simp only at h
      cases hz : zeroB P e with
      | none => rw [hz] at h; cases h
      | some z =>
        cases hi : P.info? e with
        | none => rw [hz, hi] at h; cases h
        | some i =>
          rw [hz, hi] at h
          obtain ⟨hz1, hz2⟩ := zeroB_ok hz
          rw [hi] at hz1
          have hz1 : i.zero = some z := hz1
          simp only [beq_n, ble_n] at h
          cases hcnd : (decide ((cellsL z).length = i.size) && decide (i.bytes ≤ 1000000)) with
          | false => rw [hcnd] at h; cases h
          | true =>
            rw [hcnd] at h
            simp only [cond_true] at h
            simp only [Bool.and_eq_true, decide_eq_true_eq] at hcnd
            obtain ⟨vl, h1, h2⟩ := opd_ok hr h (ht.of_sub (sub1 (x := l) (y := l) (by simp)))
            obtain ⟨vc, h3, h4⟩ := opd_ok hr h1 (ht.of_sub (sub1 (x := c) (y := l) (by simp)))
            obtain ⟨jl, nl, h5, h6⟩ := idxK_ok h3 h2
            obtain ⟨jc, nc, h7, h8⟩ := idxK_ok h5 h4
            cases hc2 : (decide (nl ≤ nc) && decide (nc ≤ 100000)) with
            | false => rw [hc2] at h7; cases h7
            | true =>
              rw [hc2] at h7
              simp only [cond_true, repK_eq] at h7
              simp only [Bool.and_eq_true, decide_eq_true_eq] at hc2
              have hrun := run_make (P := P) cw t e i z hd hi hz1 jl jc (nl : Int) (nc : Int) (by omega) (by omega)
                (by have : i.bytes * nc ≤ 1000000 * 100000 := Nat.mul_le_mul hcnd.2 hc2.2
                    have h : ((i.bytes * nc : Nat) : Int) ≤ 281474976710656 := by omega
                    rwa [Int.natCast_mul] at h) (by omega)
              simp only [Int.toNat_natCast] at hrun
              have hsz : i.size = z.cells.size := by rw [← hcnd.1, cells_plain hz2]; simp
              obtain ⟨b, w', β', g4, g5, g6, g7⟩ := new_ok (co := .cells (madeCells z.cells (nc * i.size)) e (0, 0)) hr h7 rfl ⟨rfl, fun j v hj => by
                have hp : VRs β (repL (cellsL z) nc) (madeCells z.cells (nc * i.size)).toList := by
                  rw [hsz, made_rep hz2]
                  have := (zero_ok (β := β) hz2).rep nc
                  rw [← cells_plain hz2] at this
                  exact this
                obtain ⟨cv, g1, g2⟩ := hp.get hj
                exact ⟨cv, by simpa using g1, g2⟩, fz0⟩
              refine ⟨_, w', β', .slice (some ⟨cw.heap.size, 0, none⟩) nl nc, _, g4, g5, g6, .slice 0 nl g7 ?_ (RmR.small (by unfold big; omega)) .nil, .inl ?_⟩
              · unfold CapR
                rw [if_neg]
                unfold big
                omega
              · simp only [execOp, h6, h8]
                have e1 : (Int.ofNat nl) = (nl : Int) := rfl
                have e2 : (Int.ofNat nc) = (nc : Int) := rfl
                rw [e1, e2]
                simp only [Sem.run_bind, hrun, Result.andThen_ok, Sem.run_pure]
    | _ => cases h
/-- A builtin's call. -/
theorem run_bi {b : Builtin} {args : Array Operand} {ats : Array TypeId} (s : Sem Value) (hb : ∀ cs, builtin b ats ty cs (args.map a.eval) = (do pure (.value (← s)))) :
    (execOp a.eval ⟨dst, .call ⟨.builtin b, args, ats⟩, ty, pos, af, gd⟩).run P cw = (do pure (Next.value (← s)) : Sem Next).run P cw := by
  simp [execOp, resolve, invoke, hb]
theorem run_bi_ok {b : Builtin} {args : Array Operand} {ats : Array TypeId} {s : Sem Value} (hb : ∀ cs, builtin b ats ty cs (args.map a.eval) = (do pure (.value (← s)))) {v : Value} {w' : World} (hs : s.run P cw = .ok v w') :
    (execOp a.eval ⟨dst, .call ⟨.builtin b, args, ats⟩, ty, pos, af, gd⟩).run P cw = .ok (.value v) w' := by
  rw [run_bi s hb]
  simp [hs]
end
end Go.Ek
namespace Go.Ek
set_option linter.unusedVariables false
set_option linter.unusedSimpArgs false
variable {P : Program} {K : Keep P} {β : Ren} {w : AW} {cw : World} {fr : Fr} {a : Act} {call : CallT}
/-- A block of which the evaluator says no more. -/
theorem Rel.kill {w' : AW} {n : Nat} (h : Rel K β w cw) (hget : ∀ m, w'.h.get m = if m = n + 1 then some .dead else w.h.get m) (hnx : w'.nx = w.nx) : Rel K β w' cw := by
  have old : ∀ m o, w'.h.get (m + 1) = some o → o.alive = true → w.h.get (m + 1) = some o := by
    intro m o hm ha
    rw [hget] at hm
    by_cases e : m + 1 = n + 1
    · rw [if_pos e] at hm
      cases hm
      cases ha
    · rw [if_neg e] at hm
      exact hm
  exact ⟨h.tape, h.os, h.output, h.keep, fun m o hm ha => h.obj m o (old m o hm ha) ha, fun n m a b c h1 h2 h3 h4 => h.inj n m a b c (old _ _ h1 h3) (old _ _ h2 h4) h3 h4,
    fun m hm => h.fresh m (by omega), h.glob, fun m vs e lo hi c C e' f h1 => h.room m vs e lo hi c C e' f (old _ _ h1 rfl), fun m hm => by rw [hnx]; exact h.res m hm⟩
/-- A block of the machine's gets a new name. -/
theorem Rel.name {w' : AW} {cw' : World} (h : Rel K β w cw) {o : AO} {co : Obj} {c : Nat} (hoa : o.alive = true) (hof : o.fixed = false)
    (hget : ∀ m, w'.h.get m = if m = w.nx + 1 then some o else w.h.get m) (hnx : w'.nx = w.nx + 1) (hc : cw'.heap[c]? = some co) (hw2 : ∀ d, d ≠ c → cw'.heap[d]? = cw.heap[d]?)
    (ht : cw'.tape = cw.tape) (hos : cw'.os = cw.os) (hou : cw'.output = cw.output) (ho : OR β o co) (hkb : K.blk c = none) (hfree : ∀ m a, w.h.get (m + 1) = some a → a.alive = true → β m ≠ some c)
    (r : Nat) (hroom : ∀ vs e lo hi C e' f, o = .cells vs e lo hi → co = .cells C e' f → r * P.cellsOf e ≤ C.size) :
    Le β ⟨fun m => if m = w.nx then some c else β m, fun m => if m = w.nx then r else β.rm m⟩ ∧ Rel K ⟨fun m => if m = w.nx then some c else β m, fun m => if m = w.nx then r else β.rm m⟩ w' cw' := by
  have hle : Le β ⟨fun m => if m = w.nx then some c else β m, fun m => if m = w.nx then r else β.rm m⟩ := fun n d hn => by
    have : n ≠ w.nx := fun e => by rw [e, h.fresh _ (Nat.le_refl _)] at hn; cases hn
    simp only [this, if_false]
    exact ⟨hn, trivial⟩
  refine ⟨hle, ht.trans h.tape, hos.trans h.os, hou.trans h.output, ?_, ?_, ?_, ?_, ?_, ?_, ?_⟩
  · intro d o' hd
    have : d ≠ c := fun e => by rw [e, hkb] at hd; cases hd
    rw [hw2 d this]
    exact h.keep d o' hd
  · intro n o' hn ha
    rw [hget] at hn
    by_cases e : n = w.nx
    · rw [if_pos (by omega)] at hn
      obtain rfl := Option.some.inj hn
      exact ⟨c, co, by simp [e], hc, ho.mono hle, .inr hkb⟩
    · rw [if_neg (by omega)] at hn
      obtain ⟨d, co', h1, h2, h3, h4⟩ := h.obj n o' hn ha
      have : d ≠ c := fun e2 => hfree n o' hn ha (e2 ▸ h1)
      exact ⟨d, co', (hle _ _ h1).1, by rw [hw2 d this]; exact h2, h3.mono hle, h4⟩
  · intro n m x y d hn hm ha hb h1 h2
    rw [hget] at hn hm
    by_cases e : n = w.nx
    · by_cases e2 : m = w.nx
      · omega
      · rw [if_neg (by omega)] at hm
        simp only [e, e2, if_true, if_false, Option.some.injEq] at h1 h2
        subst h1
        exact (hfree m y hm hb h2).elim
    · rw [if_neg (by omega)] at hn
      by_cases e2 : m = w.nx
      · simp only [e, e2, if_true, if_false, Option.some.injEq] at h1 h2
        subst h2
        exact (hfree n x hn ha h1).elim
      · rw [if_neg (by omega)] at hm
        simp only [e, e2, if_false] at h1 h2
        exact h.inj n m x y d hn hm ha hb h1 h2
  · intro n hn
    have : n ≠ w.nx := by omega
    simp only [this, if_false]
    exact h.fresh n (by omega)
  · intro g hg
    exact (hle _ _ (h.glob g hg)).1
  · intro n vs e lo hi d C e' f hn hb hd
    rw [hget] at hn
    by_cases hen : n = w.nx
    · rw [if_pos (by omega)] at hn
      simp only [hen, if_true, Option.some.injEq] at hb ⊢
      subst hb
      rw [hc] at hd
      exact hroom vs e lo hi C e' f (Option.some.inj hn) (Option.some.inj hd)
    · rw [if_neg (by omega)] at hn
      simp only [hen, if_false] at hb ⊢
      have : d ≠ c := fun e2 => hfree n _ hn rfl (e2 ▸ hb)
      rw [hw2 d this] at hd
      exact h.room n vs e lo hi d C e' f hn hb hd
  · intro n hn
    obtain ⟨h1, h2⟩ := h.res n hn
    refine ⟨by omega, ?_⟩
    have : n ≠ w.nx := by omega
    simp only [this, if_false]
    exact h2
/-! ### append -/
theorem lenV_ok {x cx : Value} {k : Nat → R} (h : lenV x k = true) (hx : VR β x cx) : ∃ n, k n = true ∧ ∀ W, (Builtin.lenOf cx).run P W = .ok n W := by
  cases hx with
  | sliceN n _ _ => exact ⟨n, h, fun W => rfl⟩
  | slice o n _ _ _ _ => exact ⟨n, h, fun W => rfl⟩
  | anyEmp a m _ => exact ⟨0, h, fun W => rfl⟩
  | string s _ =>
    have h : lenK s.data.toList k = true := h
    rw [lenK_eq] at h
    exact ⟨s.size, by simpa using h, fun W => rfl⟩
  | _ => cases h
theorem cell_heap {W : World} (h : W.heap = cw.heap) (x : Addr) : W.cell? x = cw.cell? x := by
  simp [World.cell?, h]
theorem firstK_ok {size n : Nat} {x cx : Value} {k : List Value → R} (hr : Rel K β w cw) (h : firstK size n w x k = true) (hx : VR β x cx) :
    ∃ vs cvs, k vs = true ∧ VRs β vs cvs ∧ (∀ W, W.heap = cw.heap → (Builtin.firstCells size n cx).run P W = .ok cvs.toArray W) ∧
      ∀ b o l c' c, x = .slice (some ⟨b, o, none⟩) l c' → β b = some c → vs.length = n * size ∧ ∀ (j : Nat) v, cvs[j]? = some v → cw.cell? ⟨c, o + j, none⟩ = some v := by
  cases hx with
  | sliceN m _ _ => exact ⟨[], [], h, .nil, fun W _ => run_firstCells_none W _ _ _ _, fun _ _ _ _ _ e => by cases e⟩
  | slice o m hb _ _ _ =>
    obtain ⟨vs, cvs, h1, h2, h3, h4⟩ := loadN_ok hr h hb
    exact ⟨vs, cvs, h1, h2, fun W hW => run_firstCells_some W size n _ _ _ cvs (by rw [← h2.length, h3]; rfl) fun j v hj => by rw [cell_heap hW]; exact h4 j v hj, fun b2 o2 l2 c2 d2 e e2 => by
      cases e
      obtain rfl := Option.some.inj (hb.symm.trans e2)
      exact ⟨h3, fun j v hj => by rw [← add_plain]; exact h4 j v hj⟩⟩
  | anyEmp a m _ =>
    have h : cond (Nat.beq n 0) (k []) false = true := h
    rw [beq_n] at h
    by_cases h0 : n = 0
    · simp only [h0, decide_true, cond_true] at h
      subst h0
      exact ⟨[], [], h, .nil, fun W _ => run_firstCells_some W size 0 _ _ _ [] (by simp) (fun j v hj => by simp at hj), fun _ _ _ _ _ e => by cases e⟩
    · simp only [h0, decide_false, cond_false] at h
      cases h
  | string s _ =>
    have h : takeK s.data.toList n (fun l => byteL l k) = true := h
    obtain ⟨h1, h2⟩ := takeK_ok _ _ _ h
    unfold byteL at h2
    rw [mapK_eq] at h2
    refine ⟨_, (s.data.toList.take n).map fun b => Value.int .u8 (.ofNat b.toNat), h2, ?_, fun W _ => ?_, fun _ _ _ _ _ e => by cases e⟩
    · generalize s.data.toList.take n = l
      induction l with
      | nil => exact .nil
      | cons x l ih => exact .int _ _ ih
    · simp only [Builtin.firstCells, Sem.run_pure]
      congr 1
      apply Array.ext'
      simp [ByteArray.extract, ByteArray.copySlice]
  | _ => cases h


/-- Which appends take a number (of a make). -/
theorem intT_ok {ats : Array TypeId} {st : TypeId} {xt : List TypeId} {b : Bool} (h : ats.toList = st :: xt) (hi : intT P xt = some b) : ats[0]? = some st ∧
    ((ats[1]? = none ∧ b = false) ∨ ∃ u d, ats[1]? = some u ∧ P.underlying u = some d ∧ ((b = true ∧ ∃ j, d = .int j) ∨ (b = false ∧ ∀ j, d ≠ .int j))) := by
  have e : ∀ i, ats[i]? = (st :: xt)[i]? := fun i => by rw [← h, Array.getElem?_toList]
  refine ⟨by rw [e]; rfl, ?_⟩
  cases xt with
  | nil =>
    refine .inl ⟨by rw [e]; rfl, ?_⟩
    cases hi
    rfl
  | cons u l =>
    refine .inr ⟨u, ?_⟩
    dsimp only [intT] at hi
    cases hd : P.underlying u with
    | none => rw [hd] at hi; cases hi
    | some d =>
      rw [hd] at hi
      refine ⟨d, by rw [e]; rfl, rfl, ?_⟩
      cases d <;> first | (cases hi; exact .inr ⟨rfl, fun j hj => by cases hj⟩) | (cases hi; exact .inl ⟨rfl, _, rfl⟩)
section
variable {ty : TypeId}
/-- An append with room. -/
theorem run_append_room {ats : Array TypeId} {st e : TypeId} {xt : List TypeId} {i : TypeInfo} (hats : ats.toList = st :: xt) (hint : intT P xt = some false) (hs : P.underlying st = some (.slice e)) (hi : P.info? e = some i)
    {base : Option Addr} {sLen sCap n : Nat} {x : Value} {news : Array Value} {W W' : World} (hlen : ∀ W, (Builtin.lenOf x).run P W = .ok n W) (hn : (Builtin.firstCells i.size n x).run P W = .ok news W) (hroom : sLen + n ≤ sCap)
    (hst : (match base with | some a => storeCells (a.add (sLen * i.size)) news.toList | none => pure ()).run P W = .ok () W') :
    (Builtin.append_ ats ty #[.slice base sLen sCap, x]).run P W = .ok (.slice base (sLen + n) sCap) W' := by
  obtain ⟨h0, h1⟩ := intT_ok hats hint
  cases base with
  | none =>
    simp only [Sem.run_pure] at hst
    cases hst
    rcases h1 with ⟨h1, _⟩ | ⟨u, d, h1, h2, ⟨h3, _⟩ | ⟨_, h3⟩⟩
    · simp [Builtin.append_, h0, h1, run_und hs, sizeOf, typeInfo, hi, hlen, hroom, hn]
    · cases h3
    · have : (match d with | .int _ => true | _ => false) = false := by cases d <;> first | rfl | exact absurd rfl (h3 _)
      simp [Builtin.append_, h0, h1, run_und hs, run_und h2, this, sizeOf, typeInfo, hi, hlen, hroom, hn]
  | some a =>
    simp only at hst
    rcases h1 with ⟨h1, _⟩ | ⟨u, d, h1, h2, ⟨h3, _⟩ | ⟨_, h3⟩⟩
    · simp [Builtin.append_, h0, h1, run_und hs, sizeOf, typeInfo, hi, hlen, hroom, hn, hst]
    · cases h3
    · have : (match d with | .int _ => true | _ => false) = false := by cases d <;> first | rfl | exact absurd rfl (h3 _)
      simp [Builtin.append_, h0, h1, run_und hs, run_und h2, this, sizeOf, typeInfo, hi, hlen, hroom, hn, hst]
theorem run_append_grows {ats : Array TypeId} {st e : TypeId} {xt : List TypeId} {i : TypeInfo} {z : Value} (hats : ats.toList = st :: xt) (hint : intT P xt = some false) (hs : P.underlying st = some (.slice e)) (hi : P.info? e = some i) (hz : i.zero = some z)
    {base : Option Addr} {sLen sCap n : Nat} {x : Value} {olds news : Array Value} {W : World} (hlen : ∀ W, (Builtin.lenOf x).run P W = .ok n W) (hn : (Builtin.firstCells i.size n x).run P W.drew = .ok news W.drew) (ho : (Builtin.firstCells i.size sLen (.slice base sLen sCap)).run P W.drew = .ok olds W.drew)
    (hg : sCap < sLen + n) (h63 : sLen + n ≤ 9223372036854775807) (hfit : (sLen + n) * i.bytes ≤ 140737488355328) :
    (Builtin.append_ ats ty #[.slice base sLen sCap, x]).run P W = .ok (.slice (some ⟨W.heap.size, 0, none⟩) (sLen + n) (grownCap W (sLen + n) sCap e)) (W.drew.alloc (.cells (olds ++ news ++ Builtin.zeroCells z.cells (grownCap W (sLen + n) sCap e - (sLen + n))) e)) := by
  obtain ⟨h0, h1⟩ := intT_ok hats hint
  have hn1 : ¬ (sLen + n ≤ sCap) := by omega
  have h63' : ¬ (9223372036854775807 < ((sLen : Int) + (n : Int))) := by omega
  have h48' : ¬ (281474976710656 < Builtin.nextslicecap (sLen + n) sCap * i.bytes) := Nat.not_lt.2 (growslice_fits hg hfit)
  rcases h1 with ⟨h1, _⟩ | ⟨u, d, h1, h2, ⟨h3, _⟩ | ⟨_, h3⟩⟩
  · simp [Builtin.append_, h0, h1, run_und hs, sizeOf, typeInfo, zeroValue, hi, hz, hlen, hn1, h63', h48', Question.forced, hn, ho, newRow, grownCap]
  · cases h3
  · have : (match d with | .int _ => true | _ => false) = false := by cases d <;> first | rfl | exact absurd rfl (h3 _)
    simp [Builtin.append_, h0, h1, run_und hs, run_und h2, this, sizeOf, typeInfo, zeroValue, hi, hz, hlen, hn1, h63', h48', Question.forced, hn, ho, newRow, grownCap]
/-- The new cells behind a slice's: an append. -/
theorem putNews_ok {k : Value → AW → R} {e : TypeId} {i : TypeInfo} {z : Value} (hi : P.info? e = some i) (hz : zeroB P e = some z) (hzl : (cellsL z).length = i.size) (hcs : P.cellsOf e = i.size)
    {base cbase : Option Addr} {len cap cap' n : Nat} {news : List Value} {cnews : List Value} (hr : Rel K β w cw) (hv : VR β (.slice base len cap) (.slice cbase len cap')) (hnews : VRs β news cnews) (h : putNews i.size e i.bytes base len cap n news w k = true)
    (run : Value → World → Prop)
    (hroom : len + n ≤ cap' → ∀ W', (match cbase with | some a => storeCells (a.add (len * i.size)) cnews | none => pure ()).run P cw = .ok () W' → run (.slice cbase (len + n) cap') W')
    (hgrow : cap' < len + n → len + n ≤ 9223372036854775807 → (len + n) * i.bytes ≤ 140737488355328 → ∀ olds : Array Value, (Builtin.firstCells i.size len (.slice cbase len cap')).run P cw.drew = .ok olds cw.drew →
      run (.slice (some ⟨cw.heap.size, 0, none⟩) (len + n) (grownCap cw (len + n) cap' e)) (cw.drew.alloc (.cells (olds ++ cnews.toArray ++ Builtin.zeroCells z.cells (grownCap cw (len + n) cap' e - (len + n))) e))) :
    ∃ v w' β' cv cw', k v w' = true ∧ Le β β' ∧ Rel K β' w' cw' ∧ VR β' v cv ∧ run cv cw' := by
  unfold putNews at h
  rw [natK_eq, ble_n] at h
  have eN : Nat.add len n = len + n := rfl
  rw [eN] at h
  have hcap : CapR cap cap' := by
    cases hv with
    | sliceN _ hm _ => exact (CapR.small hm).1
    | slice o m hb hm hrm _ => exact hm
  by_cases hle : len + n ≤ capLow cap
  · simp only [hle, decide_true, cond_true] at h
    have hle' : len + n ≤ cap' := Nat.le_trans hle (capLow_le hcap)
    cases hv with
    | sliceN _ hm _ => exact ⟨_, w, β, _, cw, h, Le.refl β, hr, .sliceN _ hm .nil, hroom hle' cw rfl⟩
    | slice o m hb hm hrm _ =>
      have h : storeN w ⟨_, o + len * i.size, none⟩ news (fun w => k (.slice (some ⟨_, o, none⟩) (len + n) cap) w) = true := h
      obtain ⟨w', cw', h1, h2, h3⟩ := storeN_ok (P := P) hr h hb hnews
      exact ⟨_, w', β, _, cw', h1, Le.refl β, h2, .slice o _ hb hm hrm .nil, hroom hle' cw' (by simp only [add_plain]; exact h3)⟩
  · simp only [hle, decide_false, cond_false] at h
    unfold growNews at h
    have eM : Nat.mul (len + n) i.bytes = (len + n) * i.bytes := rfl
    have eM2 : Nat.mul (len + n) i.size = (len + n) * i.size := rfl
    rw [ble_n, ble_n, eM] at h
    cases hc : (decide ((len + n) * i.bytes ≤ 1000000000000) && decide (len + n ≤ 1000000000000)) with
    | false => rw [hc] at h; cases h
    | true =>
      rw [hc, cond_true] at h
      simp only [Bool.and_eq_true, decide_eq_true_eq] at hc
      obtain ⟨olds, colds, h1, h2, h3, h3b⟩ := firstK_ok hr h hv
      simp only [appK_eq, lenK_eq, beq_n, eM2] at h1
      by_cases hlen : (olds ++ news).length = (len + n) * i.size
      · simp only [hlen, decide_true, cond_true] at h1
        obtain ⟨hz1, hz2⟩ := zeroB_ok hz
        have hzs : z.cells.size = i.size := by rw [← hzl, cells_plain hz2]; simp
        have hcl : VRs β (olds ++ news) (colds ++ cnews) := h2.append hnews
        have hln2 : colds.length + cnews.length = (len + n) * i.size := by rw [← List.length_append, ← hcl.length]; exact hlen
        -- a new block
        have grown : ∀ {w1 : AW} (lo hi : Nat), Rel K β w1 cw → cap' < len + n → w1.new (.cells (olds ++ news) e lo hi) (fun b w => k (.slice (some ⟨b, 0, none⟩) (len + n) (Nat.add (len + n) big)) w) = true →
            ∃ v w' β' cv cw', k v w' = true ∧ Le β β' ∧ Rel K β' w' cw' ∧ VR β' v cv ∧ run cv cw' := by
          intro w1 lo hi hr1 hlt hnew
          have hge := grownCap_ge cw (len + n) cap' e
          obtain ⟨b, w', β', g1, g2, g3, g4, g5⟩ := newR_ok (co := .cells (colds.toArray ++ cnews.toArray ++ Builtin.zeroCells z.cells (grownCap cw (len + n) cap' e - (len + n))) e (0, 0)) (grownCap cw (len + n) cap' e) (hr1.drew (cw.drawn + 1)) hnew rfl
            ⟨rfl, fun j v hj => by
              obtain ⟨cv, q1, q2⟩ := hcl.get hj
              refine ⟨cv, ?_, q2⟩
              have hj2 : j < (colds ++ cnews).length := (List.getElem?_eq_some_iff.1 q1).1
              rw [Array.getElem?_append_left (by simpa using hj2)]
              simpa using q1, fz0⟩
            (fun vs e2 lo2 hi2 C e3 f3 q1 q2 => by
              cases q1
              cases q2
              rw [hcs]
              simp only [Array.size_append, List.size_toArray, size_zeroCells, hzs]
              rw [hln2, ← Nat.add_mul]
              exact Nat.mul_le_mul_right _ (by omega))
          refine ⟨_, w', β', _, _, g1, g2, g3, .slice 0 _ g4 ?_ ?_ .nil, hgrow hlt (by omega) (by omega) _ (h3 _ rfl)⟩
          · have e1 : Nat.add (len + n) big = len + n + big := rfl
            unfold CapR
            rw [e1]
            generalize big = B
            rw [if_pos (by omega)]
            omega
          · intro _ _
            rw [g5]
            exact Nat.le_refl _
        rw [inexact_if] at h1
        by_cases hx : big ≤ cap
        · simp only [hx, decide_true, cond_true] at h1
          cases hv with
          | sliceN _ hm _ => exact absurd hx (Nat.not_le.2 hm)
          | slice o m hb hm hrm hnil =>
            clear hnil
            rename_i b c
            unfold growIn at h1
            obtain ⟨ob, g1, g2⟩ := aw_get h1
            cases ob with
            | cells vs e' lo up =>
              simp only [beq_n, ble_n] at g2
              cases hcc : (decide (o = 0) && (decide (e' = e) && (decide (up ≤ lo) || (decide (up ≤ Nat.mul len i.size) || decide (Nat.mul (len + n) i.size ≤ lo))))) with
              | false => rw [hcc] at g2; cases g2
              | true =>
                rw [hcc, cond_true] at g2
                simp only [Bool.and_eq_true, Bool.or_eq_true, decide_eq_true_eq] at hcc
                obtain ⟨q1, q2, q3⟩ := hcc
                subst q1 q2
                obtain ⟨q4, g3⟩ := flat_ok _ _ g2
                obtain ⟨w1, g4, g5, g6⟩ := aw_put g3
                have hr1 := hr.kill g5 g6
                obtain ⟨c', co, x1, x2, x3, x4⟩ := hr.obj b _ g1 rfl
                obtain rfl := Option.some.inj (hb.symm.trans x1)
                by_cases hin : len + n ≤ cap'
                · cases co with
                  | cells C e2 f =>
                    obtain ⟨fl, fu⟩ := f
                    obtain ⟨rfl, y1, y2⟩ := x3
                    have hrm' : cap' ≤ β.rm b := hrm hx rfl
                    have hroomC := hr.room b vs e2 lo up c C e2 (fl, fu) g1 hb x2
                    rw [hcs] at hroomC
                    have hfit : (len + n) * i.size ≤ C.size := Nat.le_trans (Nat.mul_le_mul_right _ (Nat.le_trans hin hrm')) hroomC
                    have hnl : len * i.size + n * i.size = (len + n) * i.size := (Nat.add_mul _ _ _).symm
                    obtain ⟨z1, z2⟩ := h3b b 0 _ _ c rfl hb
                    have z1 : colds.length = len * i.size := by rw [← h2.length]; exact z1
                    have z3 : cnews.length = n * i.size := by omega
                    have eL : Nat.mul len i.size = len * i.size := rfl
                    rw [eL, eM2] at q3
                    obtain ⟨W', C', r1, r2, r3, r4, r5, r6, r7⟩ := run_stores P c (0 + len * i.size) e2 (fl, fu) cnews 0 cw C x2 (hnews.one q4) (.inr (by omega)) (fun j hj hfj => by
                      have := y2.2 (0 + len * i.size + 0 + j) hfj.1 hfj.2
                      omega)
                    obtain ⟨w2, s1, s2, s3⟩ := aw_new g4
                    have hsz : C.size ≤ C'.size := by
                      rcases Nat.lt_or_ge C'.size C.size with hlt | hge
                      · exfalso
                        have := r3 C'.size
                        rw [Array.getElem?_eq_none (Nat.le_refl _)] at this
                        by_cases hin : 0 + len * i.size + 0 ≤ C'.size ∧ C'.size < 0 + len * i.size + 0 + cnews.length
                        · rw [if_pos hin, List.getElem?_eq_getElem (by omega)] at this
                          cases this
                        · rw [if_neg hin, Array.getElem?_eq_getElem hlt] at this
                          cases this
                      · exact hge
                    obtain ⟨s4, s5⟩ := hr1.name (co := .cells C' e2 (fl, fu)) rfl rfl s2 s3 r2 r4 r5 r6 r7 ⟨rfl, fun j v hj => by
                      obtain ⟨cv, p1, p2⟩ := hcl.get hj
                      refine ⟨cv, ?_, p2⟩
                      rw [r3]
                      by_cases hjl : j < len * i.size
                      · rw [if_neg (by omega)]
                        rw [List.getElem?_append_left (by omega)] at p1
                        have := z2 j cv p1
                        rw [cell_of x2, Nat.zero_add] at this
                        exact this
                      · have hj2 : j < (colds ++ cnews).length := (List.getElem?_eq_some_iff.1 p1).1
                        rw [List.length_append] at hj2
                        rw [if_pos (by omega)]
                        rw [List.getElem?_append_right (by omega), z1] at p1
                        rw [← p1]
                        congr 1
                        omega, y2⟩ (x4.resolve_left (fun e => by cases e.1)) (fun m a hm ha hmc => by
                        rw [g5] at hm
                        by_cases hmb : m + 1 = b + 1
                        · rw [if_pos hmb] at hm
                          cases hm
                          cases ha
                        · rw [if_neg hmb] at hm
                          exact hmb (by rw [hr.inj m b a _ c hm g1 ha rfl hmc hb])) (β.rm b) (fun vs2 e3 lo2 hi2 D e4 f4 t1 t2 => by
                        cases t1
                        cases t2
                        exact Nat.le_trans (hr.room b _ _ _ _ c C e2 (fl, fu) g1 hb x2) hsz)
                    refine ⟨_, w2, _, _, W', s1, s4, s5, .slice 0 _ (c := c) (m' := cap') ?_ ?_ ?_ .nil, hroom hin W' (by simp only [add_plain]; exact r1)⟩
                    · simp
                    · have e1 : Nat.add (len + n) big = len + n + big := rfl
                      unfold CapR
                      rw [e1]
                      generalize big = B
                      rw [if_pos (by omega)]
                      omega
                    · intro _ _
                      simp only [if_true]
                      exact hrm'
                  | _ => exact x3.elim
                · exact grown lo up hr1 (by omega) g4
            | _ => cases g2
        · simp only [hx, decide_false, cond_false] at h1
          refine grown 0 0 hr ?_ h1
          rw [capLow_if] at hle
          unfold CapR at hcap
          generalize big = B at *
          rw [if_neg hx] at hle hcap
          omega
      · simp only [hlen, decide_false, cond_false] at h1
        cases h1
end
end Go.Ek
namespace Go.Ek
set_option linter.unusedVariables false
set_option linter.unusedSimpArgs false
variable {P : Program} {K : Keep P} {β : Ren} {w : AW} {cw : World} {fr : Fr} {a : Act} {call : CallT}
section
variable {dst : Option Tmp} {ty : TypeId} {pos : String} {af : Array Edge} {gd : Option (Nat × Bool)} {k : Value → AW → R}
theorem args2 {args : Array Operand} {x y : Operand} (h : args.toList = [x, y]) : args.map a.eval = #[a.eval x, a.eval y] := by
  have : args = #[x, y] := by apply Array.ext'; exact h
  rw [this]; simp
theorem args1 {args : Array Operand} {x : Operand} (h : args.toList = [x]) : args.map a.eval = #[a.eval x] := by
  have : args = #[x] := by apply Array.ext'; exact h
  rw [this]; simp
theorem zeroCells_rep {z : Value} (hz : plain z = true) (n : Nat) : (Builtin.zeroCells z.cells n).toList = repL (cellsL z) n := by
  rw [cells_plain hz]
  by_cases h : z.cells.size = 0
  · have : z.cells = #[] := Array.eq_empty_of_size_eq_zero h
    simp only [this]
    have e : ∀ n, repL ([] : List Value) n = [] := fun n => by induction n with | zero => rfl | succ n ih => simp [repL, ih]
    simp [e, Builtin.zeroCells]
  · exact rep_eq (by omega)
theorem run_append_roomZ {ats : Array TypeId} {st e : TypeId} {xt : List TypeId} {i : TypeInfo} {z : Value} (hats : ats.toList = st :: xt) (hint : intT P xt = some true) (hs : P.underlying st = some (.slice e)) (hi : P.info? e = some i) (hz : i.zero = some z) (hzs : z.cells.size = i.size)
    {base : Option Addr} {sLen sCap n : Nat} {j : IntKind} {W W' : World} (hn : n ≤ 1000000) (hnb : n * i.bytes ≤ 1000000000000) (hroom : sLen + n ≤ sCap)
    (hst : (match base with | some a => storeCells (a.add (sLen * i.size)) (Builtin.zeroCells z.cells n).toList | none => pure ()).run P W = .ok () W') :
    (Builtin.append_ ats ty #[.slice base sLen sCap, .int j (.ofNat n)]).run P W = .ok (.slice base (sLen + n) sCap) W' := by
  obtain ⟨h0, h1⟩ := intT_ok hats hint
  have wl : IntKind.i64.wrap (n : Int) = (n : Int) := by rw [IntKind.wrap_i64]; omega
  have n2 : ¬ ((n : Int) < 0) := by omega
  have n3 : ¬ (281474976710656 < (n : Int) * (i.bytes : Int)) := by
    have h : ((n * i.bytes : Nat) : Int) ≤ 1000000000000 := by omega
    rw [Int.natCast_mul] at h
    omega
  have hz0 : n * i.size = 0 → Builtin.zeroCells z.cells n = #[] := fun h => Array.eq_empty_of_size_eq_zero (by rw [size_zeroCells, hzs, h])
  have e0 : Int.ofNat n = (n : Int) := rfl
  rw [e0]
  rcases h1 with ⟨_, h1⟩ | ⟨u, d, h1, h2, ⟨_, jd, rfl⟩ | ⟨h3, _⟩⟩
  · cases h1
  · by_cases h : n * i.size = 0
    · rw [hz0 h] at hst
      cases base with
      | none =>
        simp only [Sem.run_pure] at hst
        cases hst
        simp [Builtin.append_, h0, h1, run_und hs, run_und h2, sizeOf, typeInfo, hi, hroom, asInt, asIntOf, wl, n2, n3, h]
      | some a =>
        simp only at hst
        simp [Builtin.append_, h0, h1, run_und hs, run_und h2, sizeOf, typeInfo, hi, hroom, asInt, asIntOf, wl, n2, n3, h]
        rw [show ([] : List Value) = (#[] : Array Value).toList from rfl, hst]
        simp
    · cases base with
      | none =>
        simp only [Sem.run_pure] at hst
        cases hst
        simp [Builtin.append_, h0, h1, run_und hs, run_und h2, sizeOf, typeInfo, zeroValue, hz, hi, hroom, asInt, asIntOf, wl, n2, n3, h]
      | some a =>
        simp only at hst
        simp [Builtin.append_, h0, h1, run_und hs, run_und h2, sizeOf, typeInfo, zeroValue, hz, hi, hroom, asInt, asIntOf, wl, n2, n3, h, hst]
  · cases h3
theorem run_append_growsZ {ats : Array TypeId} {st e : TypeId} {xt : List TypeId} {i : TypeInfo} {z : Value} (hats : ats.toList = st :: xt) (hint : intT P xt = some true) (hs : P.underlying st = some (.slice e)) (hi : P.info? e = some i) (hz : i.zero = some z) (hzs : z.cells.size = i.size)
    {base : Option Addr} {sLen sCap n : Nat} {j : IntKind} {olds : Array Value} {W : World} (hn : n ≤ 1000000) (hnb : n * i.bytes ≤ 1000000000000) (ho : (Builtin.firstCells i.size sLen (.slice base sLen sCap)).run P W.drew = .ok olds W.drew)
    (hg : sCap < sLen + n) (h63 : sLen + n ≤ 9223372036854775807) (hfit : (sLen + n) * i.bytes ≤ 140737488355328) :
    (Builtin.append_ ats ty #[.slice base sLen sCap, .int j (.ofNat n)]).run P W = .ok (.slice (some ⟨W.heap.size, 0, none⟩) (sLen + n) (grownCap W (sLen + n) sCap e)) (W.drew.alloc (.cells (olds ++ Builtin.zeroCells z.cells n ++ Builtin.zeroCells z.cells (grownCap W (sLen + n) sCap e - (sLen + n))) e)) := by
  obtain ⟨h0, h1⟩ := intT_ok hats hint
  have wl : IntKind.i64.wrap (n : Int) = (n : Int) := by rw [IntKind.wrap_i64]; omega
  have n2 : ¬ ((n : Int) < 0) := by omega
  have n3 : ¬ (281474976710656 < (n : Int) * (i.bytes : Int)) := by
    have h : ((n * i.bytes : Nat) : Int) ≤ 1000000000000 := by omega
    rw [Int.natCast_mul] at h
    omega
  have hz0 : n * i.size = 0 → Builtin.zeroCells z.cells n = #[] := fun h => Array.eq_empty_of_size_eq_zero (by rw [size_zeroCells, hzs, h])
  have e0 : Int.ofNat n = (n : Int) := rfl
  have hn1 : ¬ (sLen + n ≤ sCap) := by omega
  have h63' : ¬ (9223372036854775807 < ((sLen : Int) + (n : Int))) := by omega
  have h48' : ¬ (281474976710656 < Builtin.nextslicecap (sLen + n) sCap * i.bytes) := Nat.not_lt.2 (growslice_fits hg hfit)
  rw [e0]
  rcases h1 with ⟨_, h1⟩ | ⟨u, d, h1, h2, ⟨_, jd, rfl⟩ | ⟨h3, _⟩⟩
  · cases h1
  · by_cases h : n * i.size = 0
    · rw [hz0 h]
      simp [Builtin.append_, h0, h1, run_und hs, run_und h2, sizeOf, typeInfo, zeroValue, hz, hi, hn1, asInt, asIntOf, wl, n2, n3, h, h63', h48', Question.forced, ho, newRow, grownCap]
    · simp [Builtin.append_, h0, h1, run_und hs, run_und h2, sizeOf, typeInfo, zeroValue, hz, hi, hn1, asInt, asIntOf, wl, n2, n3, h, h63', h48', Question.forced, ho, newRow, grownCap]
  · cases h3
theorem op_append {args : Array Operand} {ats : Array TypeId} {st : TypeId} {xt : List TypeId} {s x : Operand} (hats : ats.toList = st :: xt) (hargs : args.toList = [s, x]) (hr : Rel K β w cw)
    (h : (bi P .append (st :: xt) [s, x]).run call fr w k = true) (ht : TmpR β fr a [s, x]) : Gives P K β a ⟨dst, .call ⟨.builtin .append, args, ats⟩, ty, pos, af, gd⟩ cw k := by
  simp only [bi] at h
  cases hd : P.underlying st with
  | none => rw [hd] at h; cases h
  | some d =>
    rw [hd] at h
    cases d with
    | slice e =>
      simp only at h
      cases hi : P.info? e with
      | none => rw [hi] at h; cases h
      | some i =>
        cases hz : zeroB P e with
        | none => rw [hi, hz] at h; cases h
        | some z =>
          cases hin : intT P xt with
          | none => rw [hi, hz, hin] at h; cases h
          | some b =>
            rw [hi, hz, hin] at h
            simp only [beq_n] at h
            cases hc : (decide ((cellsL z).length = i.size) && decide (P.cellsOf e = i.size)) with
            | false => rw [hc] at h; cases h
            | true =>
              rw [hc] at h
              simp only [Bool.and_eq_true, decide_eq_true_eq] at hc
              simp only [cond_true] at h
              cases b with
              | false =>
                simp only [cond_false] at h
                obtain ⟨vs, h1, h2⟩ := opd_ok hr h (ht.of_sub (sub1 (x := s) (y := s) (by simp)))
                obtain ⟨vx, h3, h4⟩ := opd_ok hr h1 (ht.of_sub (sub1 (x := x) (y := s) (by simp)))
                have main : ∀ base len cap cbase cap', vs = .slice base len cap → a.eval s = .slice cbase len cap' → Gives P K β a ⟨dst, .call ⟨.builtin .append, args, ats⟩, ty, pos, af, gd⟩ cw k := by
                  intro base len cap cbase cap' e1 e2
                  rw [e1] at h3 h2
                  rw [e2] at h2
                  simp only [appendK] at h3
                  obtain ⟨n, h5, h6⟩ := lenV_ok h3 h4
                  obtain ⟨news, cnews, h7, h8, h9, _⟩ := firstK_ok hr h5 h4
                  obtain ⟨v, w', β', cv, cw', g1, g2, g3, g4, g5⟩ := putNews_ok hi hz hc.1 hc.2 hr h2 h8 h7
                    (fun cv cw' => (Builtin.append_ ats ty #[.slice cbase len cap', a.eval x]).run P cw = .ok cv cw')
                    (fun q1 W' q2 => run_append_room hats hin hd hi h6 (h9 cw rfl) q1 (by cases cbase <;> exact q2))
                    (fun q1 q2 q3 olds q4 => run_append_grows hats hin hd hi (by have := (zeroB_ok hz).1; rw [hi] at this; exact this) h6 (h9 _ rfl) q4 q1 q2 q3)
                  exact ⟨v, w', β', cv, cw', g1, g2, g3, g4, .inl (run_bi_ok (s := Builtin.append_ ats ty (args.map a.eval)) (fun cs => rfl) (by rw [args2 hargs, e2]; exact g5))⟩
                generalize hs : a.eval s = cs at h2
                cases h2 with
                | sliceN n hm _ => exact main _ _ _ _ _ rfl hs
                | slice o n hb hm hrm _ => exact main _ _ _ _ _ rfl hs
                | _ => cases h3
              | true =>
                simp only [cond_true] at h
                obtain ⟨vs, h1, h2⟩ := opd_ok hr h (ht.of_sub (sub1 (x := s) (y := s) (by simp)))
                obtain ⟨vx, h3, h4⟩ := opd_ok hr h1 (ht.of_sub (sub1 (x := x) (y := s) (by simp)))
                have hz1 : i.zero = some z := by have := (zeroB_ok hz).1; rw [hi] at this; exact this
                have hz2 := (zeroB_ok hz).2
                have hzs : z.cells.size = i.size := by rw [← hc.1, cells_plain hz2]; simp
                have main : ∀ base len cap cbase cap', vs = .slice base len cap → a.eval s = .slice cbase len cap' → Gives P K β a ⟨dst, .call ⟨.builtin .append, args, ats⟩, ty, pos, af, gd⟩ cw k := by
                  intro base len cap cbase cap' e1 e2
                  rw [e1] at h3 h2
                  rw [e2] at h2
                  simp only [appendZ] at h3
                  obtain ⟨j, n, h5, h6⟩ := idxK_ok h3 h4
                  have eM : Nat.mul n i.bytes = n * i.bytes := rfl
                  simp only [ble_n, eM] at h5
                  cases hcc : (decide (n ≤ 1000000) && decide (n * i.bytes ≤ 1000000000000)) with
                  | false => rw [hcc] at h5; cases h5
                  | true =>
                    rw [hcc] at h5
                    simp only [Bool.and_eq_true, decide_eq_true_eq] at hcc
                    simp only [cond_true, repK_eq] at h5
                    obtain ⟨v, w', β', cv, cw', g1, g2, g3, g4, g5⟩ := putNews_ok (cnews := (Builtin.zeroCells z.cells n).toList) hi hz hc.1 hc.2 hr h2
                      (by rw [zeroCells_rep hz2, cells_plain hz2]; have := (zero_ok (β := β) hz2).rep n; rw [cells_plain hz2] at this; exact this) h5
                      (fun cv cw' => (Builtin.append_ ats ty #[.slice cbase len cap', a.eval x]).run P cw = .ok cv cw')
                      (fun q1 W' q2 => by rw [h6]; exact run_append_roomZ hats hin hd hi hz1 hzs hcc.1 hcc.2 q1 (by cases cbase <;> exact q2))
                      (fun q1 q2 q3 olds q4 => by rw [h6]; exact run_append_growsZ hats hin hd hi hz1 hzs hcc.1 hcc.2 q4 q1 q2 q3)
                    exact ⟨v, w', β', cv, cw', g1, g2, g3, g4, .inl (run_bi_ok (s := Builtin.append_ ats ty (args.map a.eval)) (fun cs => rfl) (by rw [args2 hargs, e2]; exact g5))⟩
                generalize hs : a.eval s = cs at h2
                cases h2 with
                | sliceN n hm _ => exact main _ _ _ _ _ rfl hs
                | slice o n hb hm hrm _ => exact main _ _ _ _ _ rfl hs
                | _ => cases h3
    | _ => cases h
end
end Go.Ek
namespace Go.Ek
open Go.Lib
set_option linter.unusedVariables false
set_option linter.unusedSimpArgs false
variable {P : Program} {K : Keep P} {β : Ren} {w : AW} {cw : World} {fr : Fr} {a : Act} {call : CallT}
section
variable {dst : Option Tmp} {ty : TypeId} {pos : String} {af : Array Edge} {gd : Option (Nat × Bool)} {k : Value → AW → R}
theorem ats0 {ats : Array TypeId} {st : TypeId} {xt : List TypeId} (h : ats.toList = st :: xt) : ats[0]? = some st := by
  rw [← Array.getElem?_toList, h]; rfl
theorem run_getObj' {r c : Nat} {es : Array MapEntry} (h : cw.heap[r]? = some (.map es c)) : (getObj r).run P cw = .ok (.map es c) cw := by
  simp [getObj, Sem.run, h]
theorem op_len {args : Array Operand} {ats : Array TypeId} {st : TypeId} {xt : List TypeId} {x : Operand} (hats : ats.toList = st :: xt) (hargs : args.toList = [x]) (hr : Rel K β w cw)
    (h : (bi P .len (st :: xt) [x]).run call fr w k = true) (ht : TmpR β fr a [x]) : GivesF P β w a ⟨dst, .call ⟨.builtin .len, args, ats⟩, ty, pos, af, gd⟩ cw k := by
  have fin : ∀ (n : Nat), (Builtin.len_ ats ty #[a.eval x]).run P cw = .ok (goInt n) cw → k (.int .i64 (.ofNat n)) w = true → GivesF P β w a ⟨dst, .call ⟨.builtin .len, args, ats⟩, ty, pos, af, gd⟩ cw k := by
    intro n h1 h2
    exact .val hr h2 (.int _ _ .nil) (run_bi_ok (s := Builtin.len_ ats ty (args.map a.eval)) (fun cs => rfl) (by rw [args1 hargs, h1]; rfl))
  have h0 := ats0 hats
  simp only [bi] at h
  cases hd : P.underlying st with
  | none => rw [hd] at h; cases h
  | some d =>
    rw [hd] at h
    cases d with
    | string =>
      simp only at h
      obtain ⟨v, h1, h2⟩ := opd_ok hr h ht
      generalize hx : a.eval x = cx at h2 fin
      cases h2 with
      | string s _ =>
        have h1 : lenK s.data.toList (fun n => k (.int .i64 (.ofNat n)) w) = true := h1
        rw [lenK_eq] at h1
        exact fin s.size (by simp [Builtin.len_, h0, run_und hd]) (by simpa using h1)
      | anyStr s _ =>
        exact .val hr h1 (.anyInt .i64 (s.size : Nat) .nil) (run_bi_ok (s := Builtin.len_ ats ty (args.map a.eval)) (fun cs => rfl) (by rw [args1 hargs, hx]; simp [Builtin.len_, h0, run_und hd]; rfl))
      | _ => cases h1
    | slice e =>
      simp only at h
      obtain ⟨v, h1, h2⟩ := opd_ok hr h ht
      generalize hx : a.eval x = cx at h2 fin
      cases h2 with
      | sliceN n _ _ => exact fin n (by simp [Builtin.len_, h0, run_und hd]) h1
      | slice o n _ _ _ _ => exact fin n (by simp [Builtin.len_, h0, run_und hd]) h1
      | anyEmp a m _ => exact fin 0 (by simp [Builtin.len_, h0, run_und hd]) h1
      | _ => cases h1
    | map kt e =>
      simp only at h
      obtain ⟨v, h1, h2⟩ := opd_ok hr h ht
      generalize hx : a.eval x = cx at h2 fin
      cases h2 with
      | mapN _ => exact fin 0 (by simp [Builtin.len_, h0, run_und hd]) h1
      | map hb _ =>
        obtain ⟨o, h3, h4⟩ := aw_get h1
        cases o with
        | map es c =>
          obtain ⟨c', co, h5, h6, h7, _⟩ := hr.obj _ _ h3 rfl
          obtain rfl := Option.some.inj (hb.symm.trans h5)
          cases co with
          | map fs d =>
            obtain ⟨_, h7⟩ := h7
            simp only [lenK_eq] at h4
            have : ∀ {l m : List MapEntry}, ER β l m → l.length = m.length := fun h => by
              induction h with
              | nil => rfl
              | cons _ _ _ _ ih => simp [ih]
            have hl : fs.size = es.length := by rw [this h7]; simp
            exact fin fs.size (by simp [Builtin.len_, h0, run_und hd, run_getObj' h6]) (by rw [hl]; exact h4)
          | _ => exact h7.elim
        | _ => cases h4
      | _ => cases h1
    | array n e => exact fin n (by simp [Builtin.len_, h0, run_und hd]) h
    | pointer t =>
      simp only at h
      cases hd2 : P.underlying t with
      | none => rw [hd2] at h; cases h
      | some d2 =>
        rw [hd2] at h
        cases d2 with
        | array n e => exact fin n (by simp [Builtin.len_, h0, run_und hd, run_und hd2]) h
        | _ => cases h
    | _ => cases h
theorem op_cap {args : Array Operand} {ats : Array TypeId} {st : TypeId} {xt : List TypeId} {x : Operand} (hats : ats.toList = st :: xt) (hargs : args.toList = [x]) (hr : Rel K β w cw)
    (h : (bi P .cap (st :: xt) [x]).run call fr w k = true) (ht : TmpR β fr a [x]) : GivesF P β w a ⟨dst, .call ⟨.builtin .cap, args, ats⟩, ty, pos, af, gd⟩ cw k := by
  have fin : ∀ (n : Nat), (Builtin.cap_ ats ty #[a.eval x]).run P cw = .ok (goInt n) cw → k (.int .i64 (.ofNat n)) w = true → GivesF P β w a ⟨dst, .call ⟨.builtin .cap, args, ats⟩, ty, pos, af, gd⟩ cw k := by
    intro n h1 h2
    exact .val hr h2 (.int _ _ .nil) (run_bi_ok (s := Builtin.cap_ ats ty (args.map a.eval)) (fun cs => rfl) (by rw [args1 hargs, h1]; rfl))
  have h0 := ats0 hats
  simp only [bi] at h
  cases hd : P.underlying st with
  | none => rw [hd] at h; cases h
  | some d =>
    rw [hd] at h
    cases d with
    | slice e =>
      simp only at h
      obtain ⟨v, h1, h2⟩ := opd_ok hr h ht
      generalize hx : a.eval x = cx at h2 fin
      have key : ∀ (b : Option Addr) n m m', CapR m m' → capSl (.slice b n m) (fun v => k v w) = true → m' = m ∧ k (.int .i64 (.ofNat m)) w = true := by
        intro b n m m' hm h1
        simp only [capSl, inexact_if] at h1
        unfold CapR at hm
        by_cases hb : big ≤ m
        · simp only [hb, decide_true, cond_true] at h1
          cases h1
        · simp only [hb, decide_false, cond_false] at h1
          rw [if_neg hb] at hm
          exact ⟨hm, h1⟩
      cases h2 with
      | sliceN n hm _ =>
        obtain ⟨_, g2⟩ := key _ _ _ _ (CapR.small hm).1 h1
        exact fin _ (by simp [Builtin.cap_, h0, run_und hd]) g2
      | slice o n _ hm _ _ =>
        obtain ⟨g1, g2⟩ := key _ _ _ _ hm h1
        exact fin _ (by simp [Builtin.cap_, h0, run_und hd, g1]) g2
      | _ => cases h1
    | array n e => exact fin n (by simp [Builtin.cap_, h0, run_und hd]) h
    | _ => cases h
theorem op_copy {args : Array Operand} {ats : Array TypeId} {st : TypeId} {xt : List TypeId} {d x : Operand} (hats : ats.toList = st :: xt) (hargs : args.toList = [d, x]) (hr : Rel K β w cw)
    (h : (bi P .copy (st :: xt) [d, x]).run call fr w k = true) (ht : TmpR β fr a [d, x]) : Gives P K β a ⟨dst, .call ⟨.builtin .copy, args, ats⟩, ty, pos, af, gd⟩ cw k := by
  have h0 := ats0 hats
  simp only [bi] at h
  cases hd : P.underlying st with
  | none => rw [hd] at h; cases h
  | some dd =>
    rw [hd] at h
    cases dd with
    | slice e =>
      simp only at h
      cases hz : szB P e with
      | none => rw [hz] at h; cases h
      | some sz =>
        rw [hz] at h
        obtain ⟨vd, h1, h2⟩ := opd_ok hr h (ht.of_sub (sub1 (x := d) (y := d) (by simp)))
        obtain ⟨vx, h3, h4⟩ := opd_ok hr h1 (ht.of_sub (sub1 (x := x) (y := d) (by simp)))
        have main : ∀ base n m cbase m', vd = .slice base n m → a.eval d = .slice cbase n m' → VR β (.slice base n m) (.slice cbase n m') → Gives P K β a ⟨dst, .call ⟨.builtin .copy, args, ats⟩, ty, pos, af, gd⟩ cw k := by
          intro base n m cbase m' e1 e2 hv
          rw [e1] at h3
          simp only [copyK] at h3
          obtain ⟨sl, h5, h6⟩ := lenV_ok (P := P) h3 h4
          rw [natK_eq] at h5
          obtain ⟨vs, cvs, h7, h8, h9, _⟩ := firstK_ok hr h5 h4
          cases hv with
          | sliceN _ hm _ =>
            refine ⟨_, w, β, goInt ((Nat.min sl n : Nat) : Int), cw, h7, Le.refl β, hr, .int _ _ .nil, .inl (run_bi_ok (s := Builtin.copy_ ats ty (args.map a.eval)) (fun cs => rfl) ?_)⟩
            rw [args2 hargs, e2]
            have := h9 cw rfl
            simp [Builtin.copy_, h0, run_und hd, run_sz hz, h6, this]
          | slice o _ hb hm hrm _ =>
            obtain ⟨w', cw', g1, g2, g3⟩ := storeN_ok (P := P) hr h7 hb h8
            refine ⟨_, w', β, goInt ((Nat.min sl n : Nat) : Int), cw', g1, Le.refl β, g2, .int _ _ .nil, .inl (run_bi_ok (s := Builtin.copy_ ats ty (args.map a.eval)) (fun cs => rfl) ?_)⟩
            rw [args2 hargs, e2]
            have := h9 cw rfl
            simp [Builtin.copy_, h0, run_und hd, run_sz hz, h6, this, g3]
        generalize hs : a.eval d = cs at h2
        cases h2 with
        | sliceN n hm _ => exact main _ _ _ _ _ rfl hs (.sliceN n hm .nil)
        | slice o n hb hm hrm _ => exact main _ _ _ _ _ rfl hs (.slice o n hb hm hrm .nil)
        | _ => cases h3
    | _ => cases h
theorem op_data {args : Array Operand} {ats : Array TypeId} {l : List TypeId} {x : Operand} (hargs : args.toList = [x]) (hr : Rel K β w cw)
    (h : (bi P .unsafeSliceData l [x]).run call fr w k = true) (ht : TmpR β fr a [x]) : GivesF P β w a ⟨dst, .call ⟨.builtin .unsafeSliceData, args, ats⟩, ty, pos, af, gd⟩ cw k := by
  have h : ((opd x).run fr fun x => dataSl x fun v => k v w) = true := by cases l <;> exact h
  obtain ⟨v, h1, h2⟩ := opd_ok hr h ht
  generalize hx : a.eval x = cx at h2
  cases h2 with
  | sliceN n _ _ => exact .val hr h1 (.ptrN .nil) (run_bi_ok (s := Builtin.unsafeSliceData_ ats ty (args.map a.eval)) (fun cs => rfl) (by rw [args1 hargs, hx]; exact run_unsafeSliceData_nil _ _ _ _ _))
  | slice o n hb hm _ _ =>
    rename_i m m' _ _
    simp only [dataSl, beq_n] at h1
    have hl := capLow_le hm
    cases hc : (decide (capLow m = 0)) with
    | true => rw [hc] at h1; cases h1
    | false =>
      rw [hc] at h1
      simp only [decide_eq_false_iff_not] at hc
      exact .val hr h1 (.ptr o hb .nil) (run_bi_ok (s := Builtin.unsafeSliceData_ ats ty (args.map a.eval)) (fun cs => rfl) (by rw [args1 hargs, hx]; exact run_unsafeSliceData_row _ _ _ _ _ _ (by omega)))
  | _ => cases h1
end
end Go.Ek
namespace Go.Ek
open Go.Lib
set_option linter.unusedVariables false
set_option linter.unusedSimpArgs false
variable {P : Program} {K : Keep P} {β : Ren} {w : AW} {cw : World} {fr : Fr} {a : Act} {call : CallT}
section
variable {dst : Option Tmp} {ty : TypeId} {pos : String} {af : Array Edge} {gd : Option (Nat × Bool)} {k : Value → AW → R}
theorem unbyte_ok : ∀ (l : List Value) (cl : List Value) (k : List UInt8 → R), VRs β l cl → unbyte l k = true → ∃ bs, k bs = true ∧ cl = bs.map fun b => Value.int .u8 (b.toNat : Int)
  | [], cl, k, hv, h => by cases hv; exact ⟨[], h, rfl⟩
  | v :: l, cl, k, hv, h => by
    obtain ⟨c, cl', rfl, h1, h2⟩ := hv.uncons
    cases h1 with
    | int j n _ =>
      cases j <;> first | (cases h; done) | skip
      cases n with
      | negSucc m => cases h
      | ofNat m =>
        have h : cond (Nat.blt m 256) (unbyte l fun r => k (UInt8.ofNat m :: r)) false = true := h
        rw [blt_n] at h
        by_cases hm : m < 256
        · simp only [hm, decide_true, cond_true] at h
          obtain ⟨bs, h3, h4⟩ := unbyte_ok l cl' _ h2 h
          refine ⟨UInt8.ofNat m :: bs, h3, ?_⟩
          rw [h4, List.map_cons]
          have : (UInt8.ofNat m).toNat = m := by simp [UInt8.toNat_ofNat]; omega
          rw [this]
          rfl
        · simp only [hm, decide_false, cond_false] at h
          cases h
    | _ => cases h
theorem freeze_heap {c n : Nat} (hn : n ≠ 0) {C : Array Value} {e l h : Nat} (hc : cw.heap[c]? = some (.cells C e (l, h))) :
    (cw.freeze ⟨c, 0, none⟩ n).heap[c]? = some (.cells C e (if l == h then (0, n) else (min l 0, max h n))) ∧ (∀ d, d ≠ c → (cw.freeze ⟨c, 0, none⟩ n).heap[d]? = cw.heap[d]?) ∧
      (cw.freeze ⟨c, 0, none⟩ n).tape = cw.tape ∧ (cw.freeze ⟨c, 0, none⟩ n).os = cw.os ∧ (cw.freeze ⟨c, 0, none⟩ n).output = cw.output := by
  unfold World.freeze
  rw [if_neg hn]
  refine ⟨?_, fun d hd => ?_, rfl, rfl, rfl⟩
  · simp [Array.getElem?_modify, hc]
  · simp [Array.getElem?_modify, Ne.symm hd]
theorem op_ustring {args : Array Operand} {ats : Array TypeId} {pt it : TypeId} {x n : Operand} (hats : ats.toList = [pt, it]) (hargs : args.toList = [x, n]) (hr : Rel K β w cw)
    (h : (bi P .unsafeString [pt, it] [x, n]).run call fr w k = true) (ht : TmpR β fr a [x, n]) : Gives P K β a ⟨dst, .call ⟨.builtin .unsafeString, args, ats⟩, ty, pos, af, gd⟩ cw k := by
  have hat : ats = #[pt, it] := by apply Array.ext'; exact hats
  simp only [bi] at h
  cases hd : P.underlying pt with
  | none => rw [hd] at h; cases h
  | some d =>
    rw [hd] at h
    cases d with
    | pointer e =>
      simp only [beq_n] at h
      by_cases hce : P.cellsOf e = 1
      · simp only [hce, decide_true, cond_true] at h
        obtain ⟨vx, h1, h2⟩ := opd_ok hr h (ht.of_sub (sub1 (x := x) (y := x) (by simp)))
        obtain ⟨vn, h3, h4⟩ := opd_ok hr h1 (ht.of_sub (sub1 (x := n) (y := x) (by simp)))
        have fin : ∀ (v : Value) (w' : World), (Builtin.unsafeString_ #[pt, it] ty #[a.eval x, a.eval n]).run P cw = .ok v w' → (execOp a.eval ⟨dst, .call ⟨.builtin .unsafeString, args, ats⟩, ty, pos, af, gd⟩).run P cw = .ok (.value v) w' := fun v w' h =>
          run_bi_ok (s := Builtin.unsafeString_ ats ty (args.map a.eval)) (fun cs => rfl) (by rw [args2 hargs, hat]; exact h)
        generalize hx : a.eval x = cx at h2 fin
        generalize hn : a.eval n = cn at h4 fin
        cases h4 with
        | int j m _ =>
          cases j <;> first | (cases h3; done) | skip
          cases m with
          | negSucc m => cases h3
          | ofNat m =>
            simp only [unsafeStr, natK_eq] at h3
            cases m with
            | zero =>
              have main : ∀ p q, VR β (.pointer p) (.pointer q) → cx = .pointer q → k (.string ⟨#[]⟩) w = true → Gives P K β a ⟨dst, .call ⟨.builtin .unsafeString, args, ats⟩, ty, pos, af, gd⟩ cw k := fun p q hpq hq hk =>
                ⟨_, w, β, .string ⟨#[]⟩, cw, hk, Le.refl β, hr, .string _ .nil, .inl (fin _ _ (by rw [hq]; exact run_unsafeString_none _ _ _ _ _))⟩
              cases h2 with
              | ptrN _ => exact main _ _ (.ptrN .nil) rfl h3
              | ptr o hb _ => exact main _ _ (.ptr o hb .nil) rfl h3
              | _ => cases h3
            | succ m =>
              obtain ⟨b, c, o, h5, h6, h7⟩ := ptrK_ok h3 h2
              obtain ⟨vs, cvs, h8, h9, h10, h11⟩ := loadN_ok hr h5 h6
              obtain ⟨bs, h12, h13⟩ := unbyte_ok _ _ _ h9 h8
              rw [blt_n] at h12
              by_cases hmb : m < 1000000000
              · simp only [hmb, decide_true, cond_true] at h12
                obtain ⟨ob, g1, g2⟩ := aw_get h12
                cases ob with
                | cells cs t lo hi =>
                  simp only [beq_n] at g2
                  cases hcc : (decide (o = 0) && decide (t = e)) with
                  | false => rw [hcc] at g2; cases g2
                  | true =>
                    rw [hcc, cond_true] at g2
                    simp only [Bool.and_eq_true, decide_eq_true_eq] at hcc
                    obtain ⟨rfl, rfl⟩ := hcc
                    obtain ⟨c', co, x1, x2, x3, x4⟩ := hr.obj b _ g1 rfl
                    obtain rfl := Option.some.inj (h6.symm.trans x1)
                    cases co with
                    | cells C e2 f =>
                      obtain ⟨fl, fu⟩ := f
                      obtain ⟨rfl, y1, y2⟩ := x3
                      obtain ⟨w', g3, g4, g5⟩ := aw_put g2
                      obtain ⟨f1, f2, f3, f4, f5⟩ := freeze_heap (n := m + 1) (by omega) x2
                      have hlen : bs.length = m + 1 := by
                        have := h9.length
                        rw [h13, List.length_map] at this
                        omega
                      have hcell : ∀ j x, bs[j]? = some x → cw.cell? ((⟨c, 0, none⟩ : Addr).add j) = some (.int .u8 (x.toNat : Int)) := fun j x hj => h11 j _ (by rw [h13]; simp [hj])
                      have hbig : bs.length ≤ C.size := by
                        rcases Nat.lt_or_ge C.size bs.length with hlt | hge
                        · have := hcell C.size bs[C.size] (List.getElem?_eq_getElem hlt)
                          rw [add_plain, cell_of x2] at this
                          simp at this
                        · exact hge
                      have hrun := run_unsafeString_row (P := P) cw pt it ty e2 hd hce c C.size (by simp [World.shape?, x2]) bs (fun e => by rw [e] at hlen; simp at hlen) hbig (by omega) hcell
                      rw [hlen] at hrun
                      refine ⟨_, w', β, .string ⟨⟨bs⟩⟩, _, g3, Le.refl β, ?_, .string _ .nil, .inl (fin _ _ (by rw [h7]; exact hrun))⟩
                      refine hr.upd g1 rfl rfl h6 g4 g5 f1 f2 f3 f4 f5 (fun _ => ⟨⟨rfl, y1, ?_⟩, rfl⟩) (fun vs e3 lo3 hi3 D e4 f6 q1 q2 => by
                        cases q1
                        cases q2
                        exact hr.room b _ _ _ _ c C e2 (fl, fu) g1 h6 x2)
                      obtain ⟨y2, y3⟩ := y2
                      have eX : Nat.max hi (m + 1) = max hi (m + 1) := rfl
                      rw [ble_n, eX]
                      have tw : ∀ l h, (if (fl == fu) = true then (0, m + 1) else (min fl 0, max fu (m + 1))) = (l, h) → FzR (bif decide (hi ≤ lo) then 0 else 0) (bif decide (hi ≤ lo) then m + 1 else max hi (m + 1)) l h := by
                        intro l h hlh
                        by_cases hff : fl = fu
                        · rw [if_pos (by simpa using hff)] at hlh
                          cases hlh
                          refine ⟨by omega, fun i h1 h2 => ?_⟩
                          by_cases hhl : hi ≤ lo
                          · simp only [hhl, decide_true, cond_true]; omega
                          · simp only [hhl, decide_false, cond_false]; omega
                        · rw [if_neg (by simpa using hff)] at hlh
                          cases hlh
                          have z1 := y3 fl (Nat.le_refl _) (by omega)
                          have z2 := y3 (fu - 1) (by omega) (by omega)
                          have hhl : ¬ hi ≤ lo := by omega
                          refine ⟨by omega, fun i h1 h2 => ?_⟩
                          simp only [hhl, decide_false, cond_false]
                          omega
                      exact tw (if (fl == fu) = true then (0, m + 1) else (min fl 0, max fu (m + 1))).1 (if (fl == fu) = true then (0, m + 1) else (min fl 0, max fu (m + 1))).2 rfl
                    | _ => exact x3.elim
                | _ => cases g2
              · simp only [hmb, decide_false, cond_false] at h12
                cases h12
        | _ => cases h3
      · simp only [hce, decide_false, cond_false] at h
        cases h
    | _ => cases h
theorem maxmin_ok (mx : Bool) : ∀ (l cl : List Value) (v cv : Value) (k : Value → R), VRs β l cl → VR β v cv → maxmin mx l v k = true →
    ∃ u cu, k u = true ∧ VR β u cu ∧ ∀ W, (cl.foldlM (if mx then Builtin.max2 else Builtin.min2) cv).run P W = .ok cu W
  | [], cl, v, cv, k, hv, h1, h => by cases hv; exact ⟨v, cv, h, h1, fun W => rfl⟩
  | x :: l, cl, v, cv, k, hv, h1, h => by
    obtain ⟨c, cl', rfl, h2, h3⟩ := hv.uncons
    have step : ∀ {j i : IntKind} {m n : Int} {u : Value} (hcv : cv = .int j m) (hc : c = .int i n), VR β u (.int j (if mx then (if m < n then n else m) else (if n < m then n else m))) → maxmin mx l u k = true →
        ∃ u cu, k u = true ∧ VR β u cu ∧ ∀ W, ((c :: cl').foldlM (if mx then Builtin.max2 else Builtin.min2) cv).run P W = .ok cu W := by
      intro j i m n u hcv hc hu hk
      subst hcv hc
      obtain ⟨u', cu, g1, g2, g3⟩ := maxmin_ok mx l cl' _ _ k h3 hu hk
      refine ⟨u', cu, g1, g2, fun W => ?_⟩
      cases mx with
      | true =>
        by_cases hlt : m < n
        · simpa [List.foldlM_cons, Builtin.max2, hlt] using g3 W
        · simpa [List.foldlM_cons, Builtin.max2, hlt] using g3 W
      | false =>
        by_cases hlt : n < m
        · simpa [List.foldlM_cons, Builtin.min2, hlt] using g3 W
        · simpa [List.foldlM_cons, Builtin.min2, hlt] using g3 W
    have bnd : ∀ {b q : Nat} {m : Int} {i : IntKind} {n : Int} (hcv : cv = .int .i64 m) (hc : c = .int i n), VR β (.complex .f32 b q) (.int .i64 m) → Bnd b q m →
        cond (mx && Nat.beq b 1 && leI n (.ofNat q)) (maxmin mx l (.complex .f32 b q) k) (cond (mx && Nat.beq b 0 && leI (.ofNat q) n) (maxmin mx l (.int .i64 n) k) (maxmin mx l (anyI .i64) k)) = true →
        ∃ u cu, k u = true ∧ VR β u cu ∧ ∀ W, ((c :: cl').foldlM (if mx then Builtin.max2 else Builtin.min2) cv).run P W = .ok cu W := by
      intro b q m i n hcv hc hv0 hb hk
      rw [leI_eq, leI_eq, beq_n, beq_n] at hk
      have eq1 : Int.ofNat q = (q : Int) := rfl
      cases h1 : (mx && decide (b = 1) && decide (n ≤ Int.ofNat q)) with
      | true =>
        rw [h1, cond_true] at hk
        simp only [Bool.and_eq_true, decide_eq_true_eq] at h1
        obtain ⟨⟨rfl, hb1⟩, hle⟩ := h1
        have hge := hb.ge hb1
        have hno : ¬ m < n := by omega
        refine step hcv hc ?_ hk
        simp only [if_true, hno, if_false]
        exact hv0
      | false =>
        rw [h1, cond_false] at hk
        cases h2 : (mx && decide (b = 0) && decide (Int.ofNat q ≤ n)) with
        | true =>
          rw [h2, cond_true] at hk
          simp only [Bool.and_eq_true, decide_eq_true_eq] at h2
          obtain ⟨⟨rfl, hb0⟩, hle⟩ := h2
          have hlt := hb.lt hb0
          have hyes : m < n := by omega
          refine step hcv hc ?_ hk
          simp only [if_true, hyes]
          exact .int _ _ .nil
        | false =>
          rw [h2, cond_false] at hk
          exact step hcv hc (.anyInt .i64 _ .nil) hk
    cases h1 with
    | int j m _ =>
      cases h2 with
      | int i n _ =>
        have h : cond (cond mx (ltI m n) (ltI n m)) (maxmin mx l (.int j n) k) (maxmin mx l (.int j m) k) = true := h
        rw [ltI_eq, ltI_eq] at h
        have e : (if mx then (if m < n then n else m) else (if n < m then n else m)) = if cond mx (decide (m < n)) (decide (n < m)) then n else m := by cases mx <;> simp
        cases hc : cond mx (decide (m < n)) (decide (n < m)) with
        | true =>
          rw [hc, cond_true] at h
          exact step rfl rfl (by rw [e, hc]; exact .int j n .nil) h
        | false =>
          rw [hc, cond_false] at h
          exact step rfl rfl (by rw [e, hc]; exact .int j m .nil) h
      | anyInt i n _ => exact step rfl rfl (.anyInt j _ .nil) h
      | _ => cases h
    | anyInt j m _ =>
      cases h2 with
      | int i n _ => exact step rfl rfl (.anyInt j _ .nil) h
      | anyInt i n _ => exact step rfl rfl (.anyInt j _ .nil) h
      | _ => cases h
    | anyLt q m hb _ =>
      cases h2 with
      | int i n _ => exact bnd rfl rfl (.anyLt q m hb .nil) (Bnd.ltB hb) h
      | _ => cases h
    | anyGe q m hb _ =>
      cases h2 with
      | int i n _ => exact bnd rfl rfl (.anyGe q m hb .nil) (Bnd.geB hb) h
      | _ => cases h
    | anyIn lo hi m hb hb2 _ =>
      cases h2 with
      | int i n _ => exact bnd rfl rfl (.anyIn lo hi m hb hb2 .nil) (Bnd.inB hb hb2) h
      | _ => cases h
    | _ => cases h
theorem op_max {args : Array Operand} {ats : Array TypeId} {l : List TypeId} {x : Operand} {xs : List Operand} (hargs : args.toList = x :: xs) (hr : Rel K β w cw)
    (h : (bi P .max l (x :: xs)).run call fr w k = true) (ht : TmpR β fr a (x :: xs)) : GivesF P β w a ⟨dst, .call ⟨.builtin .max, args, ats⟩, ty, pos, af, gd⟩ cw k := by
  have h : ((opd x).run fr fun v => (opds xs).run fr fun l => maxmin true l v fun v => k v w) = true := by cases l <;> exact h
  obtain ⟨v, h1, h2⟩ := opd_ok hr h (ht.of_sub (sub1 (x := x) (y := x) (by simp)))
  obtain ⟨vs, h3, h4⟩ := opds_ok hr h1 (ht.of_sub fun y hy => List.mem_cons_of_mem _ hy)
  obtain ⟨u, cu, g1, g2, g3⟩ := maxmin_ok (P := P) true _ _ _ _ _ h4 h2 h3
  refine .val hr g1 g2 (run_bi_ok (s := Builtin.max_ ats ty (args.map a.eval)) (fun cs => rfl) ?_)
  unfold Builtin.max_
  rw [Array.toList_map, hargs, List.map_cons]
  exact g3 cw
theorem op_min {args : Array Operand} {ats : Array TypeId} {l : List TypeId} {x : Operand} {xs : List Operand} (hargs : args.toList = x :: xs) (hr : Rel K β w cw)
    (h : (bi P .min l (x :: xs)).run call fr w k = true) (ht : TmpR β fr a (x :: xs)) : GivesF P β w a ⟨dst, .call ⟨.builtin .min, args, ats⟩, ty, pos, af, gd⟩ cw k := by
  have h : ((opd x).run fr fun v => (opds xs).run fr fun l => maxmin false l v fun v => k v w) = true := by cases l <;> exact h
  obtain ⟨v, h1, h2⟩ := opd_ok hr h (ht.of_sub (sub1 (x := x) (y := x) (by simp)))
  obtain ⟨vs, h3, h4⟩ := opds_ok hr h1 (ht.of_sub fun y hy => List.mem_cons_of_mem _ hy)
  obtain ⟨u, cu, g1, g2, g3⟩ := maxmin_ok (P := P) false _ _ _ _ _ h4 h2 h3
  refine .val hr g1 g2 (run_bi_ok (s := Builtin.min_ ats ty (args.map a.eval)) (fun cs => rfl) ?_)
  unfold Builtin.min_
  rw [Array.toList_map, hargs, List.map_cons]
  exact g3 cw
end
end Go.Ek
namespace Go.Ek
open Go.Lib
set_option linter.unusedVariables false
set_option linter.unusedSimpArgs false
variable {P : Program} {K : Keep P} {β : Ren} {w : AW} {cw : World} {fr : Fr} {a : Act} {call : CallT}
section
variable {dst : Option Tmp} {ty : TypeId} {pos : String} {af : Array Edge} {gd : Option (Nat × Bool)} {k : Value → AW → R}
theorem bytes_fold : ∀ (bs : List UInt8) (r : ByteArray), (bs.map fun b => ((b.toNat : Nat) : Int)).foldl (fun r n => r.push (UInt8.ofNat n.toNat)) r = ⟨r.data ++ bs.toArray⟩
  | [], r => by simp
  | b :: bs, r => by
    rw [List.map_cons, List.foldl_cons, bytes_fold bs]
    simp [ByteArray.push]
theorem byteVs (l : List UInt8) : VRs β (l.map fun b => Value.int .u8 (.ofNat b.toNat)) (l.map fun b => Value.int .u8 (.ofNat b.toNat)) := by
  induction l with
  | nil => exact .nil
  | cons x l ih => exact .int _ _ ih
theorem run_toBytes (e : TypeId) (s : ByteArray) (W : World) : (Conv.stringToBytes e s).run P W = .ok (.slice (some ⟨W.heap.size, 0, none⟩) s.size (grownCap W s.size 0 e))
    (W.drew.alloc (.cells ((s.data.map fun b => Value.int .u8 b.toNat) ++ Array.replicate (grownCap W s.size 0 e - s.size) (.int .u8 0)) e (grownCap W s.size 0 e, grownCap W s.size 0 e + 1))) := by
  have hge := grownCap_ge W s.size 0 e
  have hsz : ((s.data.map fun b => Value.int .u8 b.toNat) ++ Array.replicate (grownCap W s.size 0 e - s.size) (Value.int .u8 0)).size = grownCap W s.size 0 e := by
    have : s.data.size = s.size := rfl
    simp [this]
    omega
  have hsh : (W.drew.alloc (.cells ((s.data.map fun b => Value.int .u8 b.toNat) ++ Array.replicate (grownCap W s.size 0 e - s.size) (.int .u8 0)) e)).shape? W.heap.size = some (e, grownCap W s.size 0 e) := by
    unfold World.shape?
    have := heap_alloc_new W.drew (.cells ((s.data.map fun b => Value.int .u8 b.toNat) ++ Array.replicate (grownCap W s.size 0 e - s.size) (.int .u8 0)) e)
    have e1 : W.drew.heap.size = W.heap.size := rfl
    rw [e1] at this
    rw [this]
    simp [hsz]
  have hfz : (W.drew.alloc (.cells ((s.data.map fun b => Value.int .u8 b.toNat) ++ Array.replicate (grownCap W s.size 0 e - s.size) (.int .u8 0)) e)).freeze ⟨W.heap.size, grownCap W s.size 0 e, none⟩ 1 =
      W.drew.alloc (.cells ((s.data.map fun b => Value.int .u8 b.toNat) ++ Array.replicate (grownCap W s.size 0 e - s.size) (.int .u8 0)) e (grownCap W s.size 0 e, grownCap W s.size 0 e + 1)) := by
    generalize ((s.data.map fun b => Value.int .u8 b.toNat) ++ Array.replicate (grownCap W s.size 0 e - s.size) (Value.int .u8 0)) = C
    unfold World.freeze World.alloc
    simp only [Nat.one_ne_zero, if_false]
    congr 1
    apply Array.ext
    · simp
    · intro i h1 h2
      have e1 : W.drew.heap = W.heap := rfl
      simp only [e1, Array.getElem_modify, Array.getElem_push]
      by_cases hi : i < W.heap.size
      · rw [if_neg (by omega), dif_pos hi, dif_pos hi]
      · rw [if_pos (by simp at h1; omega), dif_neg hi, dif_neg hi]
        simp
  have hdef : (markStringish ⟨W.heap.size, 0, none⟩).run P (W.drew.alloc (.cells ((s.data.map fun b => Value.int .u8 b.toNat) ++ Array.replicate (grownCap W s.size 0 e - s.size) (.int .u8 0)) e)) = .ok ()
      (W.drew.alloc (.cells ((s.data.map fun b => Value.int .u8 b.toNat) ++ Array.replicate (grownCap W s.size 0 e - s.size) (.int .u8 0)) e (grownCap W s.size 0 e, grownCap W s.size 0 e + 1))) := by
    rw [← hfz]
    simp [markStringish, hsh]
  have hch : (choose (.appendCap s.size 0 e)).run P W = .ok (grownCap W s.size 0 e) W.drew := by
    simp [Question.forced, grownCap]
  unfold Conv.stringToBytes
  simp only [Sem.run_bind, hch, Result.andThen_ok]
  generalize hG : grownCap W s.size 0 e = G at *
  have hnr : ∀ C : Array Value, (newRow e C).run P W.drew = .ok ⟨W.heap.size, 0, none⟩ (W.drew.alloc (.cells C e)) := fun C => by simp [newRow]
  simp only [hnr, Result.andThen_ok]
  simp only [hdef, Result.andThen_ok, Sem.run_pure]
theorem lies_self {e n : Nat} (hc : P.cellsOf e ≠ 0) (hn : 0 < n) : liesAt P P.depth e n 0 e 1 = true := by
  have hd : ∃ d, P.depth = d + 1 := ⟨_, rfl⟩
  obtain ⟨d, hd⟩ := hd
  have hs : sameLayout P P.depth e e = true := by rw [hd]; simp [sameLayout]
  rw [hd]
  simp only [liesAt]
  rw [hd] at hs ⊢
  simp only [rowAt, hc, if_false, Nat.zero_div, Nat.zero_mod, Nat.zero_add, hs]
  simp
  exact .inl (.inl hn)
/-- The conversions that build no block. -/
theorem op_convertF {s d : TypeId} {x : Operand} (hf : convF P s d = true) (hr : Rel K β w cw) (h : (compOp P ⟨dst, .convert s d x, ty, pos, af, gd⟩).run call fr w k = true) (ht : TmpR β fr a [x]) : GivesF P β w a ⟨dst, .convert s d x, ty, pos, af, gd⟩ cw k := by
  simp only [compOp] at h
  split at h
  · rename_i e hs hd
    simp only [convF, hs, hd] at hf
    cases hf
  · rename_i e hs hd
    split at h
    · rename_i he
      obtain ⟨v, h1, h2⟩ := opd_ok hr h ht
      generalize hx : a.eval x = cx at h2
      have fin : ∀ u, (∃ b n m, cx = .slice b n m) → (Conv.bytesToString cx).run P cw = .ok u cw → (execOp a.eval ⟨dst, .convert s d x, ty, pos, af, gd⟩).run P cw = .ok (.value u) cw := by
        intro u hcx hu
        obtain ⟨b, n, m, rfl⟩ := hcx
        simp only [execOp, convert, hx, Sem.run_bind, run_und hs, run_und hd, run_und he, Result.andThen_ok, hu, Sem.run_pure]
      cases h2 with
      | sliceN n _ _ => exact .val hr h1 (.string _ .nil) (fin _ ⟨_, _, _, rfl⟩ rfl)
      | slice o n hb hm _ _ =>
        obtain ⟨vs, cvs, h3, h4, h5, h6⟩ := loadN_ok hr h1 hb
        obtain ⟨bs, h7, h8⟩ := unbyte_ok _ _ _ h4 h3
        refine .val hr h7 (.string _ .nil) (fin _ ⟨_, _, _, rfl⟩ ?_)
        have hl := run_loadCells_list (P := P) cw _ cvs h6
        rw [← h4.length, h5, h8] at hl
        rw [run_bytesToString (P := P) cw _ n _ (bs.map fun b => ((b.toNat : Nat) : Int)) (by rw [hl]; simp), bytes_fold]
        simp
      | _ => cases h1
    · cases h
  · rename_i i j hs hd
    exact op_convInt (call := call) hs hd hr (by simp only [compOp, hs, hd]; exact h) ht
  · rename_i e hs hd
    cases hj : P.info? e with
    | none => rw [hj] at h; cases h
    | some j =>
      rw [hj] at h
      simp only [beq_n] at h
      by_cases hz : j.size = 0
      · simp only [hz, decide_true, cond_true] at h; cases h
      · simp only [hz, decide_false, cond_false] at h
        obtain ⟨v, h1, h2⟩ := opd_ok hr h ht
        obtain ⟨b, c, o, h3, h4, h5⟩ := ptrK_ok h1 h2
        obtain ⟨vs, C, ty', f, h6, h7, h8⟩ := cells_ok hr h3 h4
        obtain ⟨u, h9, h10⟩ := nthK_ok _ _ h6
        obtain ⟨cu, h11, _⟩ := h8 _ _ h9
        refine .val hr h10 (.ptr o h4 .nil) ?_
        have hsh : cw.shape? c = some (ty', C.size) := by simp [World.shape?, h7]
        have := Lib.run_to_unsafe (w := cw) ⟨c, o, none⟩ hs hd hj hz hsh (Array.getElem?_eq_some_iff.1 h11).1
        simp only [execOp, h5, Sem.run_bind, this, Result.andThen_ok, Sem.run_pure]
  · rename_i u hs hd
    cases hj : P.info? u with
    | none => rw [hj] at h; cases h
    | some j =>
      rw [hj] at h
      obtain ⟨v, h1, h2⟩ := opd_ok hr h ht
      obtain ⟨b, c, o, h3, h4, h5⟩ := ptrK_ok h1 h2
      rw [beq_n] at h3
      by_cases ho : o = 0
      · subst ho
        simp only [decide_true, cond_true] at h3
        obtain ⟨ao, h6, h7⟩ := aw_get h3
        cases ao with
        | cells vs e lo hi =>
          simp only [lenK_eq, beq_n, ble_n] at h7
          cases hcnd : (decide (e = u) && (decide (P.cellsOf u ≤ vs.length) && !decide (P.cellsOf u = 0))) with
          | false => rw [hcnd] at h7; cases h7
          | true =>
            rw [hcnd] at h7
            simp only [Bool.and_eq_true, decide_eq_true_eq, Bool.not_eq_true', decide_eq_false_iff_not] at hcnd
            obtain ⟨rfl, hc2, hc3⟩ := hcnd
            obtain ⟨c', co, g1, g2, g3, _⟩ := hr.obj b _ h6 rfl
            obtain rfl := Option.some.inj (h4.symm.trans g1)
            cases co with
            | cells C e' f =>
              obtain ⟨rfl, g4, g5⟩ := g3
              have hlen : P.cellsOf e' ≤ C.size := by
                have hl : vs.length - 1 < vs.length := by omega
                obtain ⟨cv, g6, _⟩ := g4 (vs.length - 1) _ (List.getElem?_eq_getElem hl)
                have := (Array.getElem?_eq_some_iff.1 g6).1
                omega
              have hsh : cw.shape? c = some (e', C.size) := by simp [World.shape?, g2]
              have hlies : liesAt P P.depth e' (C.size / P.cellsOf e') 0 e' 1 = true := lies_self hc3 (Nat.div_pos hlen (by omega))
              refine .val hr h7 (.ptr 0 h4 .nil) ?_
              have := Lib.run_from_unsafe (w := cw) ⟨c, 0, none⟩ hs hd hj hsh hlies
              simp only [execOp, h5, Sem.run_bind, this, Result.andThen_ok, Sem.run_pure]
            | _ => exact g3.elim
        | _ => cases h7
      · simp only [ho, decide_false, cond_false] at h3
        cases h3
  · obtain ⟨v, h1, h2⟩ := opd_ok hr h ht
    cases hp : plain1 v with
    | false => rw [hp] at h1; cases h1
    | true =>
      rw [hp] at h1
      obtain ⟨u, h3, h4, h5⟩ := pureK_ok (β := β) h1
      refine .val hr h3 h4 ?_
      simp only [execOp, plain1_eq h2 hp, Sem.run_bind, h5, Result.andThen_ok, Sem.run_pure]
theorem op_convertS {s d : TypeId} {x : Operand} (hf : convF P s d = false) (hr : Rel K β w cw) (h : (compOp P ⟨dst, .convert s d x, ty, pos, af, gd⟩).run call fr w k = true) (ht : TmpR β fr a [x]) : Gives P K β a ⟨dst, .convert s d x, ty, pos, af, gd⟩ cw k := by
  simp only [convF] at hf
  split at hf
  · rename_i e hs hd
    simp only [compOp, hs, hd] at h
    split at h
    · rename_i he
      rw [beq_n] at h
      by_cases hce : P.cellsOf e = 1
      · simp only [hce, decide_true, cond_true] at h
        obtain ⟨v, h1, h2⟩ := opd_ok hr h ht
        generalize hx : a.eval x = cx at h2
        cases h2 with
        | string b _ =>
          simp only [toBytes, byteL, mapK_eq, lenK_eq, List.length_map, ble_n] at h1
          have hbl : b.data.toList.length = b.size := by simp
          rw [hbl] at h1
          by_cases hle : b.size ≤ 1000000000
          · simp only [hle, decide_true, cond_true] at h1
            have hge := grownCap_ge cw b.size 0 e
            have hcm := grownCap_le_maxLen cw b.size 0 e (by simp only [maxLen]; omega)
            simp only [maxLen] at hcm
            obtain ⟨n, w', β', g1, g2, g3, g4, g5⟩ := newR_ok (co := .cells ((b.data.map fun b => Value.int .u8 b.toNat) ++ Array.replicate (grownCap cw b.size 0 e - b.size) (.int .u8 0)) e (grownCap cw b.size 0 e, grownCap cw b.size 0 e + 1)) (grownCap cw b.size 0 e) (hr.drew (cw.drawn + 1)) h1 rfl
              ⟨rfl, fun j v hj => by
                obtain ⟨cv, q1, q2⟩ := (byteVs (β := β) b.data.toList).get hj
                refine ⟨cv, ?_, q2⟩
                have hj2 : j < (b.data.toList.map fun b => Value.int .u8 (.ofNat b.toNat)).length := (List.getElem?_eq_some_iff.1 q1).1
                rw [Array.getElem?_append_left (by simpa using hj2)]
                simpa using q1, ⟨by omega, fun i q1 q2 => by
                  have e1 : Nat.add b.size 36893488147419103232 = b.size + 36893488147419103232 := rfl
                  rw [e1]
                  omega⟩⟩
              (fun vs e2 lo2 hi2 C e3 f3 q1 q2 => by
                cases q1
                cases q2
                have e1 : b.data.size = b.size := rfl
                simp [hce, e1]
                omega)
            refine ⟨_, w', β', .slice (some ⟨cw.heap.size, 0, none⟩) b.size (grownCap cw b.size 0 e), _, g1, g2, g3, .slice 0 _ g4 ?_ ?_ .nil, .inl ?_⟩
            · have e1 : Nat.add b.size big = b.size + big := rfl
              unfold CapR
              rw [e1]
              generalize big = B
              rw [if_pos (by omega)]
              omega
            · intro _ _
              rw [g5]
              exact Nat.le_refl _
            · have := run_toBytes (P := P) e b cw
              simp only [execOp, convert, hx, Sem.run_bind, run_und hs, run_und hd, run_und he, Result.andThen_ok, this, Sem.run_pure]
              rfl
          · simp only [hle, decide_false, cond_false] at h1
            cases h1
        | _ => cases h1
      · simp only [hce, decide_false, cond_false] at h
        cases h
    · cases h
  · cases hf
end
end Go.Ek
namespace Go.Ek
open Go.Lib
set_option linter.unusedVariables false
set_option linter.unusedSimpArgs false
variable {P : Program} {K : Keep P} {β : Ren} {w : AW} {cw : World} {fr : Fr} {a : Act} {call : CallT}
section
variable {dst : Option Tmp} {ty : TypeId} {pos : String} {af : Array Edge} {gd : Option (Nat × Bool)} {k : Value → AW → R}
theorem run_getO {r : Nat} {o : Obj} (h : cw.heap[r]? = some o) (hn : ∀ C e f, o ≠ .cells C e f) : (getObj r).run P cw = .ok o cw := by
  cases o <;> first | exact absurd rfl (hn _ _ _) | simp [getObj, Sem.run, h]
theorem op_range {t : TypeId} {x : Operand} (hr : Rel K β w cw) (h : (compOp P ⟨dst, .range t x, ty, pos, af, gd⟩).run call fr w k = true) (ht : TmpR β fr a [x]) : Gives P K β a ⟨dst, .range t x, ty, pos, af, gd⟩ cw k := by
  simp only [compOp] at h
  have fin : ∀ (o : AO) (co : Obj), OR β o co → o.alive = true → (Instr.range t (a.eval x)).run P cw = .ok (.pointer (some ⟨cw.heap.size, 0, none⟩)) (cw.alloc co) → (w.new o fun n w => k (.pointer (some ⟨n, 0, none⟩)) w) = true → Gives P K β a ⟨dst, .range t x, ty, pos, af, gd⟩ cw k := by
    intro o co h1 h2 h3 h4
    obtain ⟨n, w', β', g1, g2, g3, g4⟩ := new_ok hr h4 h2 h1
    exact ⟨_, w', β', _, _, g1, g2, g3, .ptr 0 g4 .nil, .inl (by simp only [execOp, Sem.run_bind, h3, Result.andThen_ok, Sem.run_pure])⟩
  cases hd : P.underlying t with
  | none => rw [hd] at h; cases h
  | some d =>
    rw [hd] at h
    cases d with
    | string =>
      simp only at h
      obtain ⟨v, h1, h2⟩ := opd_ok hr h ht
      generalize hx : a.eval x = cx at h2 fin
      cases h2 with
      | string s _ => exact fin (.siter s 0) (.stringIter s 0) ⟨rfl, rfl⟩ rfl (by simp [Instr.range, run_und hd]) h1
      | _ => cases h1
    | map kt e =>
      simp only at h
      obtain ⟨v, h1, h2⟩ := opd_ok hr h ht
      generalize hx : a.eval x = cx at h2 fin
      cases h2 with
      | mapN _ => exact fin (.iter none 0 [] 0) (.mapIter none 0 #[] 0) ⟨rfl, rfl, rfl, rfl⟩ rfl (by simp [Instr.range, run_und hd]) h1
      | map hb _ =>
        obtain ⟨o, h3, h4⟩ := aw_get h1
        cases o with
        | map es c =>
          obtain ⟨c', co, h5, h6, h7, _⟩ := hr.obj _ _ h3 rfl
          obtain rfl := Option.some.inj (hb.symm.trans h5)
          cases co with
          | map fs d =>
            obtain ⟨rfl, h7⟩ := h7
            exact fin (.iter (some _) d [] d) (.mapIter (some _) d #[] d) ⟨⟨_, hb, rfl⟩, rfl, rfl, rfl⟩ rfl (by simp [Instr.range, run_und hd, run_getObj' h6]) h4
          | _ => exact h7.elim
        | _ => cases h4
      | _ => cases h1
    | _ => cases h
theorem setObj_heap {r : Nat} {o co : Obj} (h : cw.heap[r]? = some o) (hn : ∀ C e f, o ≠ .cells C e f) : ∃ cw', (setObj r co).run P cw = .ok () cw' ∧ cw'.heap[r]? = some co ∧ (∀ d, d ≠ r → cw'.heap[d]? = cw.heap[d]?) ∧ cw'.tape = cw.tape ∧ cw'.os = cw.os ∧ cw'.output = cw.output := by
  have hlt : r < cw.heap.size := by
    rcases Nat.lt_or_ge r cw.heap.size with hh | hh
    · exact hh
    · rw [Array.getElem?_eq_none hh] at h; cases h
  have e : (setObj r co).run P cw = .ok () { cw with heap := cw.heap.setIfInBounds r co } := by
    cases o <;> first | exact absurd rfl (hn _ _ _) | simp [setObj, Sem.run, h]
  refine ⟨_, e, ?_, fun d hd => ?_, rfl, rfl, rfl⟩
  · simp [hlt]
  · simp [Array.getElem?_setIfInBounds_ne (Ne.symm hd)]
theorem op_nextS {x : Operand} (hr : Rel K β w cw) (h : (compOp P ⟨dst, .next x true, ty, pos, af, gd⟩).run call fr w k = true) (ht : TmpR β fr a [x]) : Gives P K β a ⟨dst, .next x true, ty, pos, af, gd⟩ cw k := by
  have h : ((opd x).run fr fun vx => nextS w vx k) = true := h
  obtain ⟨v, h1, h2⟩ := opd_ok hr h ht
  obtain ⟨b, c, o, h3, h4, h5⟩ := ptrK_ok h1 h2
  simp only [beq_n] at h3
  by_cases ho : o = 0
  · subst ho
    simp only [decide_true, cond_true] at h3
    obtain ⟨ob, g1, g2⟩ := aw_get h3
    cases ob with
    | siter s p =>
      obtain ⟨c', co, x1, x2, x3, x4⟩ := hr.obj b _ g1 rfl
      obtain rfl := Option.some.inj (h4.symm.trans x1)
      cases co with
      | stringIter s2 p2 =>
        obtain ⟨rfl, rfl⟩ := x3
        have hg := run_getO (P := P) x2 (fun _ _ _ e => by cases e)
        simp only [blt_n] at g2
        by_cases hlt : p2 < s2.size
        · simp only [hlt, decide_true, cond_true] at g2
          generalize hdc : Utf8.decode s2 p2 = q at g2
          obtain ⟨ch, n⟩ := q
          obtain ⟨w', g3, g4, g5⟩ := aw_put g2
          obtain ⟨cw', f1, f2, f3, f4, f5, f6⟩ := setObj_heap (P := P) (co := .stringIter s2 (p2 + n)) x2 (fun _ _ _ e => by cases e)
          refine ⟨_, w', β, .tuple #[.bool true, goInt p2, .int .i32 ch], cw', g3, Le.refl β, ?_, .tuple (.bool true (.int _ _ (.int _ _ .nil))) .nil, .inl ?_⟩
          · exact hr.upd g1 rfl rfl h4 g4 g5 f2 f3 f4 f5 f6 (fun _ => ⟨⟨rfl, rfl⟩, rfl⟩) (fun _ _ _ _ _ _ _ q => by cases q)
          · simp [execOp, Instr.next, h5, hg, hlt, hdc, f1]
        · simp only [hlt, decide_false, cond_false] at g2
          refine ⟨_, w, β, .tuple #[.bool false], cw, g2, Le.refl β, hr, .tuple (.bool false .nil) .nil, .inl ?_⟩
          simp [execOp, Instr.next, h5, hg, hlt]
      | _ => exact x3.elim
    | _ => cases g2
  · simp only [ho, decide_false, cond_false] at h3
    cases h3
theorem hasN_eq (n : Nat) (k : Bool → R) : ∀ (l : List Nat), hasN l n k = k (l.contains n)
  | [] => rfl
  | x :: l => by
    show cond (Nat.beq x n) (k true) (hasN l n k) = _
    rw [hasN_eq n k l, beq_n, List.contains_cons]
    by_cases e : x = n
    · subst e; simp
    · have e2 : (n == x) = false := by simpa using fun h => e h.symm
      simp only [e, decide_false, cond_false, e2, Bool.false_or]
theorem leftK_eq (seen : List Nat) : ∀ (es : List MapEntry) (k : List MapEntry → R), leftK es seen k = k (es.filter fun e => !seen.contains e.born)
  | [], k => rfl
  | e :: es, k => by
    show hasN seen e.born (fun b => cond b (leftK es seen k) (leftK es seen fun r => k (e :: r))) = _
    rw [hasN_eq, leftK_eq seen es, leftK_eq seen es, List.filter_cons]
    cases seen.contains e.born <;> rfl
theorem ER.filter {p : Nat → Bool} {a b : List MapEntry} (h : ER β a b) : ER β (a.filter fun e => p e.born) (b.filter fun e => p e.born) := by
  induction h with
  | nil => exact .nil
  | cons h1 h2 h3 _ ih =>
    rename_i e f es fs _
    rw [List.filter_cons, List.filter_cons, h3]
    cases p f.born with
    | true => exact .cons h1 h2 h3 ih
    | false => exact ih
theorem ER.len {a b : List MapEntry} (h : ER β a b) : a.length = b.length := by
  induction h with
  | nil => rfl
  | cons _ _ _ _ ih => simp [ih]
theorem before_ok {last : Nat} {k : R} : ∀ {es fs : List MapEntry}, ER β es fs → anyBefore es last k = true → (fs.all fun e => decide (e.born ≥ last)) = false ∧ k = true
  | [], _, _, h => by cases h
  | e :: es, _, .cons (f := f) (fs := fs) h1 h2 h3 h4, h => by
    have h : cond (Nat.ble last e.born) (anyBefore es last k) k = true := h
    rw [ble_n] at h
    by_cases hl : last ≤ e.born
    · simp only [hl, decide_true, cond_true] at h
      obtain ⟨g1, g2⟩ := before_ok h4 h
      exact ⟨by rw [List.all_cons, g1, Bool.and_false], g2⟩
    · simp only [hl, decide_false, cond_false] at h
      refine ⟨?_, h⟩
      rw [List.all_cons, ← h3]
      simp [hl]
theorem fresh1_ok {last : Nat} {k : R} {seen : List Nat} {es fs : List MapEntry} (hr : ER β es fs) (h : fresh1 es seen last k = true) : (!seen.isEmpty && !fs.isEmpty && fs.all fun e => decide (e.born ≥ last)) = false ∧ k = true := by
  unfold fresh1 at h
  cases seen with
  | nil => exact ⟨rfl, h⟩
  | cons x seen =>
    cases es with
    | nil =>
      cases hr
      exact ⟨rfl, h⟩
    | cons e es =>
      have h : anyBefore (e :: es) last k = true := h
      obtain ⟨g1, g2⟩ := before_ok hr h
      exact ⟨by rw [g1, Bool.and_false], g2⟩
theorem allE_ok {f : MapEntry → R} : ∀ {l : List MapEntry}, allE f l = true → ∀ (i : Nat) (e : MapEntry), l[i]? = some e → f e = true
  | [], _, i, e, h => by simp at h
  | [x], h, i, e, hi => by
    have h : f x = true := h
    cases i with
    | zero => simp at hi; rw [← hi]; exact h
    | succ i => simp at hi
  | x :: y :: r, h, i, e, hi => by
    have h : cond (f x) (allE f (y :: r)) false = true := h
    cases hx : f x with
    | false => rw [hx] at h; cases h
    | true =>
      rw [hx, cond_true] at h
      cases i with
      | zero => simp at hi; rw [← hi]; exact hx
      | succ i => exact allE_ok h i e (by simpa using hi)
theorem ER.get' {a b : List MapEntry} (h : ER β a b) : ∀ {i : Nat} {f : MapEntry}, b[i]? = some f → ∃ e, a[i]? = some e ∧ VR β e.key f.key ∧ VR β e.val f.val ∧ e.born = f.born := by
  induction h with
  | nil => intro i f h; simp at h
  | cons h1 h2 h3 _ ih =>
    intro i f hi
    cases i with
    | zero => simp at hi; subst hi; exact ⟨_, rfl, h1, h2, h3⟩
    | succ i => obtain ⟨e, g1, g2⟩ := ih (by simpa using hi); exact ⟨e, by simpa using g1, g2⟩
theorem run_mapNext (n : Nat) (hn : 0 < n) (W : World) : ∃ j d, j < n ∧ (choose (.mapNext n)).run P W = .ok j { W with drawn := d } := by
  by_cases h : n ≤ 1
  · exact ⟨0, W.drawn, hn, by simp [Question.forced, h]⟩
  · exact ⟨(Question.mapNext n).cut (W.tape W.drawn (.mapNext n)), W.drawn + 1, Nat.mod_lt _ hn, by simp [Question.forced, h]⟩
theorem op_nextM {x : Operand} (hr : Rel K β w cw) (h : ((opd x).run fr fun vx => nextM w vx k) = true) (ht : TmpR β fr a [x]) : Gives P K β a ⟨dst, .next x false, ty, pos, af, gd⟩ cw k := by
  obtain ⟨v, h1, h2⟩ := opd_ok hr h ht
  obtain ⟨b, c, o, h3, h4, h5⟩ := ptrK_ok h1 h2
  simp only [beq_n] at h3
  by_cases ho : o = 0
  · subst ho
    simp only [decide_true, cond_true] at h3
    obtain ⟨ob, g1, g2⟩ := aw_get h3
    cases ob with
    | iter m since seen last =>
      obtain ⟨c', co, x1, x2, x3, x4⟩ := hr.obj b _ g1 rfl
      obtain rfl := Option.some.inj (h4.symm.trans x1)
      cases co with
      | mapIter m' since' seen' last' =>
        obtain ⟨y1, rfl, rfl, rfl⟩ := x3
        have hg := run_getO (P := P) x2 (fun _ _ _ e => by cases e)
        cases m with
        | none =>
          have y1 : m' = none := y1
          subst y1
          refine ⟨_, w, β, .tuple #[.bool false], cw, g2, Le.refl β, hr, .tuple (.bool false .nil) .nil, .inl ?_⟩
          simp [execOp, Instr.next, h5, hg]
        | some r =>
          obtain ⟨cm, y2, rfl⟩ := y1
          have g2 : (w.get r fun o => match o with
            | .map es c => fresh1 es seen'.toList last' (leftK es seen'.toList fun l => List.casesOn l (k (.tuple #[.bool false]) w) fun e r' => allE (fun e => cond (Nat.blt e.born since') (appK seen'.toList [e.born] fun seen => w.put b (.iter (some r) since' seen c) fun w => k (.tuple #[.bool true, e.key, e.val]) w) false) (e :: r'))
            | _ => false) = true := g2
          obtain ⟨om, z1, z2⟩ := aw_get g2
          cases om with
          | map es cl =>
            obtain ⟨cm', com, u1, u2, u3, _⟩ := hr.obj r _ z1 rfl
            obtain rfl := Option.some.inj (y2.symm.trans u1)
            cases com with
            | map fs d =>
              obtain ⟨rfl, u4⟩ := u3
              have hgm := run_getO (P := P) u2 (fun _ _ _ e => by cases e)
              simp only at z2
              obtain ⟨v1, v2⟩ := fresh1_ok u4 z2
              rw [leftK_eq] at v2
              have v3 := u4.filter (p := fun n => !seen'.toList.contains n)
              have hgone : (!seen'.isEmpty && !fs.isEmpty && fs.all fun e => decide (e.born ≥ last')) = false := by
                have e1 : seen'.isEmpty = seen'.toList.isEmpty := by simp
                have e2 : fs.isEmpty = fs.toList.isEmpty := by simp
                rw [e1, e2, ← Array.all_toList]
                exact v1
              have hleft : (fs.filter fun e => !seen'.contains e.born).toList = fs.toList.filter fun e => !seen'.toList.contains e.born := by
                rw [Array.toList_filter]
                congr 1
                funext e
                simp
              generalize hl : (es.filter fun e => !seen'.toList.contains e.born) = l at v2 v3
              generalize hcl : (fs.toList.filter fun e => !seen'.toList.contains e.born) = cl at v3 hleft
              cases l with
              | nil =>
                cases v3
                have v2 : k (.tuple #[.bool false]) w = true := v2
                have hempty : (fs.filter fun e => !seen'.contains e.born) = #[] := by apply Array.ext'; rw [hleft]
                refine ⟨_, w, β, .tuple #[.bool false], cw, v2, Le.refl β, hr, .tuple (.bool false .nil) .nil, .inl ?_⟩
                simp only [execOp, Instr.next, h5, Sem.run_bind, hg, hgm, Result.andThen_ok, hgone, Bool.false_eq_true, if_false, hempty]
                simp [Question.forced]
              | cons e l =>
                have v2 : allE (fun e => cond (Nat.blt e.born since') (appK seen'.toList [e.born] fun seen => w.put b (.iter (some r) since' seen d) fun w => k (.tuple #[.bool true, e.key, e.val]) w) false) (e :: l) = true := v2
                have v4 := allE_ok v2
                generalize hll : (e :: l) = ll at v3 v4
                have hne : 0 < cl.length := by rw [← v3.len, ← hll]; simp
                have hold : ∀ f ∈ cl, f.born < since' := by
                  intro f hf
                  obtain ⟨i, hi⟩ := List.mem_iff_getElem?.1 hf
                  obtain ⟨e', q0, q1, q2, q3⟩ := v3.get' hi
                  have := v4 i e' q0
                  rw [blt_n] at this
                  rw [← q3]
                  by_cases hb : e'.born < since'
                  · exact hb
                  · simp [hb] at this
                have hold1 : ((fs.filter fun e => !seen'.contains e.born).filter fun e => decide (e.born < since')) = cl.toArray := by
                  apply Array.ext'
                  rw [Array.toList_filter, hleft]
                  exact List.filter_eq_self.2 fun f hf => by simpa using hold f hf
                have hnew1 : ((fs.filter fun e => !seen'.contains e.born).filter fun e => decide (e.born ≥ since')) = #[] := by
                  apply Array.ext'
                  rw [Array.toList_filter, hleft]
                  exact List.filter_eq_nil_iff.2 fun f hf => by have := hold f hf; simp; omega
                obtain ⟨j, dd, hj, hrun⟩ := run_mapNext (P := P) cl.length hne cw
                obtain ⟨f, hf⟩ : ∃ f, cl[j]? = some f := ⟨_, List.getElem?_eq_getElem hj⟩
                obtain ⟨e', q0, q1, q2, q3⟩ := v3.get' hf
                have v5 := v4 j e' q0
                have hb : e'.born < since' := by rw [q3]; exact hold f (List.mem_of_getElem? hf)
                rw [blt_n] at v5
                simp only [hb, decide_true, cond_true, appK_eq] at v5
                obtain ⟨w', p1, p2, p3⟩ := aw_put v5
                have hr2 : Rel K β w { cw with drawn := dd } := hr.drew dd
                obtain ⟨cw', f1, f2, f3, f4, f5, f6⟩ := setObj_heap (P := P) (cw := { cw with drawn := dd }) (co := .mapIter (some cm) since' (seen'.push f.born) d) x2 (fun _ _ _ e => by cases e)
                refine ⟨_, w', β, .tuple #[.bool true, f.key, f.val], cw', p1, Le.refl β, ?_, .tuple (.bool true (q1.cons (q2.cons .nil))) .nil, .inl ?_⟩
                · exact hr2.upd g1 rfl rfl h4 p2 p3 f2 f3 f4 f5 f6 (fun _ => ⟨⟨⟨cm, y2, rfl⟩, rfl, by simp [q3], rfl⟩, rfl⟩) (fun _ _ _ _ _ _ _ q => by cases q)
                · simp only [execOp, Instr.next, h5, Sem.run_bind, hg, hgm, Result.andThen_ok, hgone, Bool.false_eq_true, if_false, hold1, hnew1]
                  have hemp : cl.toArray.isEmpty = false := by
                    cases cl with
                    | nil => simp at hne
                    | cons _ _ => rfl
                  have hcand : ((#[] : Array (Option MapEntry)) ++ (cl.toArray ++ #[]).map some) = (cl.map some).toArray := by simp
                  simp only [hemp, Bool.false_eq_true, if_false, hcand, List.size_toArray, List.length_map, hrun, Result.andThen_ok, List.getElem?_toArray, List.getElem?_map, hf, Option.map_some, Sem.run_bind, f1, Sem.run_pure]
            | _ => exact u3.elim
          | _ => cases z2
      | _ => exact x3.elim
    | _ => cases g2
  · simp only [ho, decide_false, cond_false] at h3
    cases h3
end
end Go.Ek
namespace Go.Ek
open Go.Lib
open Go.MapKept (bytes_beq run_findKey run_getObj_map run_setObj_map)
set_option linter.unusedVariables false
set_option linter.unusedSimpArgs false
variable {P : Program} {K : Keep P} {β : Ren} {w : AW} {cw : World} {fr : Fr} {a : Act} {call : CallT}
abbrev EqT := Value → Value → (Bool → R) → R
/-- Keys that the evaluator can hold against one another. -/
structure KeyOk (P : Program) (β : Ren) (kt : TypeId) (d : TypeDesc) (q : KeyQ) : Prop where
  check : ∀ x cx (k : R), VR β x cx → q.chk x k = true → k = true ∧ ∀ e W, (Instr.checkKey e 10000 kt cx).run P W = .ok () W
  same : (∀ x y cx cy (k : Bool → R), VR β x cx → VR β y cy → q.eq x y k = true → ∃ b, k b = true ∧ Instr.sameNow d cx cy = some b ∧ (b = true → cx = cy ∧ Instr.sameBits 10000 cx cx = true)) ∨
    ((∀ u v, Instr.sameNow d u v = none) ∧ ∀ x y cx cy (k : Bool → R), VR β x cx → VR β y cy → q.eq x y k = true → ∃ b, k b = true ∧ (∀ W, (Op.equal kt cx cy).run P W = .ok b W) ∧ (b = true → cx = cy ∧ Instr.sameBits 10000 cx cx = true))
theorem check_ok {kt : TypeId} {d : TypeDesc} (hd : P.underlying kt = some d) (hb : (∃ j, d = .int j) ∨ d = .string ∨ d = .bool) (e : Bool) (n : Nat) (v : Value) (W : World) : (Instr.checkKey e (n + 1) kt v).run P W = .ok () W := by
  unfold Instr.checkKey
  rcases hb with ⟨j, rfl⟩ | rfl | rfl <;> simp only [Sem.run_bind, run_und hd, Result.andThen_ok] <;> cases v <;> rfl
/-- A struct's parts are there. -/
theorem chkF_ok {xs : List Value} {cxs : Array Value} {k : R} (hx : VRs β xs cxs.toList) (n : Nat) (e : Bool) : ∀ (fs : List Field), (chkF P fs).run xs k = true →
    k = true ∧ ∀ W, (forIn fs PUnit.unit (fun f (_ : PUnit) => (if f.name ≠ "_" then do Instr.checkKey e (n + 1) f.type (← part f.type cxs f.offset); pure (.yield PUnit.unit) else pure (.yield PUnit.unit) : Sem (ForInStep PUnit)))).run P W = .ok () W
  | [], h => ⟨h, fun W => by simp⟩
  | x :: r, h => by
    simp only [chkF] at h
    cases hn : (x.name == "_") with
    | true => rw [hn] at h; cases h
    | false =>
      rw [hn, cond_false] at h
      have hn' : x.name ≠ "_" := by simpa using hn
      cases hg : aggB P x.type with
      | none => rw [hg] at h; cases h
      | some bn =>
        obtain ⟨b0, m⟩ := bn
        rw [hg] at h
        cases b0 with
        | true => cases h
        | false =>
          simp only at h
          have one : (∃ d, P.underlying x.type = some d ∧ ((∃ j, d = .int j) ∨ d = .string ∨ d = .bool)) → (nthK xs x.offset fun _ => (chkF P r).run xs k) = true →
              k = true ∧ ∀ W, (forIn (x :: r) PUnit.unit (fun f (_ : PUnit) => (if f.name ≠ "_" then do Instr.checkKey e (n + 1) f.type (← part f.type cxs f.offset); pure (.yield PUnit.unit) else pure (.yield PUnit.unit) : Sem (ForInStep PUnit)))).run P W = .ok () W := by
            rintro ⟨d, hd, hb⟩ h
            obtain ⟨u, h1, h2⟩ := nthK_ok _ _ h
            obtain ⟨cu, g1, g2⟩ := hx.get h1
            rw [Array.getElem?_toList] at g1
            obtain ⟨h3, h4⟩ := chkF_ok hx n e r h2
            refine ⟨h3, fun W => ?_⟩
            simp only [List.forIn_cons, hn', ne_eq, not_false_eq_true, if_true, Sem.run_bind, run_part_one hg cxs x.offset cu g1, check_ok hd hb, Result.andThen_ok, Sem.run_pure]
            exact h4 W
          cases hd : P.underlying x.type with
          | none => rw [hd] at h; cases h
          | some dd =>
            rw [hd] at h
            cases dd with
            | int i => exact one ⟨_, hd, .inl ⟨i, rfl⟩⟩ h
            | string => exact one ⟨_, hd, .inr (.inl rfl)⟩ h
            | bool => exact one ⟨_, hd, .inr (.inr rfl)⟩ h
            | _ => cases h
theorem chkAgg_ok {kt : TypeId} {fs : Array Field} {x cx : Value} {k : R} (hd : P.underlying kt = some (.struct fs)) (hx : VR β x cx) (h : chkAgg (chkF P fs.toList) x k = true) :
    k = true ∧ ∀ e W, (Instr.checkKey e 10000 kt cx).run P W = .ok () W := by
  cases hx with
  | agg i _ =>
    refine ⟨(chkF_ok i 9998 true fs.toList h).1, fun e W => ?_⟩
    have := (chkF_ok i 9998 e fs.toList h).2 W
    unfold Instr.checkKey
    simp only [Sem.run_bind, run_und hd, Result.andThen_ok]
    rw [← Array.forIn_toList]
    simp only [bind_pure_comp, map_pure, bind_pure, bind_pure_unit] at this ⊢
    first | exact this | (simp at this ⊢; rw [this]; rfl)
  | _ => cases h
theorem sameCell_ok {x y cx cy : Value} {k : R} (hx : VR β x cx) (hy : VR β y cy) (h : sameCell x y k = true) : k = true ∧ cx = cy ∧ ∀ n, Instr.sameBits n cx cx = true := by
  cases hx with
  | int i m _ =>
    cases hy with
    | int j n _ =>
      replace h : cond (Nat.beq (kidx i) (kidx j)) (cond (eqI m n) k false) false = true := h
      cases hb : Nat.beq (kidx i) (kidx j) with
      | false => rw [hb] at h; cases h
      | true =>
        have := kidx_of hb
        subst this
        rw [hb, cond_true, eqI_eq] at h
        cases he : (m == n) with
        | false => rw [he] at h; cases h
        | true =>
          rw [he, cond_true] at h
          have : m = n := by simpa using he
          subst this
          exact ⟨h, rfl, fun n => by cases n <;> simp [Instr.sameBits]⟩
    | _ => cases h
  | string s _ =>
    cases hy with
    | string t _ =>
      replace h : beqL s.data.toList t.data.toList (fun e => cond e k false) = true := h
      rw [beqL_eq] at h
      cases he : (s.data.toList == t.data.toList) with
      | false => rw [he] at h; cases h
      | true =>
        rw [he, cond_true] at h
        have : s = t := ByteArray.ext (Array.ext' (by simpa using he))
        subst this
        exact ⟨h, rfl, fun n => by cases n <;> simp [Instr.sameBits, bytes_beq]⟩
    | _ => cases h
  | bool s _ =>
    cases hy with
    | bool t _ =>
      replace h : cond (cond s t (not t)) k false = true := h
      cases s <;> cases t <;> first | (cases h; done) | exact ⟨h, rfl, fun n => by cases n <;> simp [Instr.sameBits]⟩
    | _ => cases h
  | _ => cases h
theorem sameCs_ok {k : R} : ∀ (xs : List Value) {cxs : List Value} (ys : List Value) {cys : List Value}, VRs β xs cxs → VRs β ys cys → sameCs xs ys k = true → k = true ∧ cxs = cys ∧ ∀ n, ∀ x ∈ cxs, Instr.sameBits n x x = true
  | [], _, [], _, hx, hy, h => by
    cases hx
    cases hy
    exact ⟨h, rfl, fun n x hx => by cases hx⟩
  | [], _, _ :: _, _, hx, hy, h => by cases h
  | _ :: _, _, [], _, hx, hy, h => by cases h
  | x :: xs, _, y :: ys, _, hx, hy, h => by
    obtain ⟨cx, cxs, rfl, h1, h2⟩ := hx.uncons
    obtain ⟨cy, cys, rfl, g1, g2⟩ := hy.uncons
    obtain ⟨q1, q2, q3⟩ := sameCell_ok (k := sameCs xs ys k) h1 g1 h
    obtain ⟨h5, h6, h7⟩ := sameCs_ok xs ys h2 g2 q1
    refine ⟨h5, by rw [q2, h6], fun n x hx => ?_⟩
    rcases List.mem_cons.1 hx with rfl | hx
    · exact q3 n
    · exact h7 n x hx
theorem zip_self {α : Type} (p : α → α → Bool) : ∀ (l : List α), (∀ x ∈ l, p x x = true) → ((l.zip l).all fun (x, y) => p x y) = true
  | [], _ => rfl
  | x :: l, h => by simp only [List.zip_cons_cons, List.all_cons, h x (List.mem_cons_self), Bool.true_and]; exact zip_self p l fun y hy => h y (List.mem_cons_of_mem _ hy)
theorem keyAgg_ok {t : TypeId} {x y cx cy : Value} {k : Bool → R} (hx : VR β x cx) (hy : VR β y cy) (h : keyAgg (stEq P 8 t) x y k = true) :
    ∃ b, k b = true ∧ (∀ W, (Op.equal t cx cy).run P W = .ok b W) ∧ (b = true → cx = cy ∧ Instr.sameBits 10000 cx cx = true) := by
  cases hx with
  | agg i1 _ => cases hy with
    | agg i2 _ =>
      obtain ⟨b, h1, h2⟩ := stEq_ok 8 t _ _ _ _ _ i1 i2 h
      have h2 : ∀ W, (Op.equal t (.agg _) (.agg _)).run P W = .ok b W := h2 9991
      cases b with
      | false => exact ⟨false, h1, h2, fun e => by cases e⟩
      | true =>
        obtain ⟨h3, h4, h5⟩ := sameCs_ok _ _ i1 i2 h1
        have h4 := Array.ext' h4
        subst h4
        refine ⟨true, h3, h2, fun _ => ⟨rfl, ?_⟩⟩
        rw [Instr.sameBits]
        simp only [beq_self_eq_true, Bool.true_and]
        exact zip_self _ _ (h5 9999)
    | _ => cases h
  | _ => cases h
theorem keyB_ok {kt : TypeId} {q : KeyQ} (h : keyB P kt = some q) : ∃ d, P.underlying kt = some d ∧ ∀ β, KeyOk P β kt d q := by
  unfold keyB at h
  cases hd : P.underlying kt with
  | none => rw [hd] at h; cases h
  | some d =>
    rw [hd] at h
    refine ⟨d, rfl, fun β => ?_⟩
    cases d with
    | int j =>
      cases h
      refine ⟨fun x cx k _ h => ⟨h, fun e W => check_ok hd (.inl ⟨j, rfl⟩) e 9999 _ W⟩, .inl fun x y cx cy k hx hy h => ?_⟩
      cases hx with
      | int i m _ =>
        cases hy with
        | int i2 n _ =>
          have h' : cond (Nat.beq (kidx i) (kidx i2)) (k (eqI m n)) false = true := h
          rw [beq_n] at h'
          by_cases he : kidx i = kidx i2
          · simp only [he, decide_true, cond_true] at h'
            obtain rfl := kidx_inj he
            rw [eqI_eq] at h'
            exact ⟨m == n, h', by simp [Instr.sameNow], fun e => by
              have : m = n := by simpa using e
              subst this
              exact ⟨rfl, by simp [Instr.sameBits]⟩⟩
          · simp only [he, decide_false, cond_false] at h'
            cases h'
        | _ => cases h
      | _ => cases h
    | string =>
      cases h
      refine ⟨fun x cx k _ h => ⟨h, fun e W => check_ok hd (.inr (.inl rfl)) e 9999 _ W⟩, .inl fun x y cx cy k hx hy h => ?_⟩
      cases hx with
      | string s _ =>
        cases hy with
        | string t _ =>
          have h' : beqL s.data.toList t.data.toList k = true := h
          rw [beqL_eq] at h'
          have e : (s.data.toList == t.data.toList) = (s == t) := by
            rw [Bool.eq_iff_iff, beq_iff_eq, bytes_beq]
            constructor
            · intro e; exact ByteArray.ext (Array.ext' e)
            · intro e; rw [e]
          rw [e] at h'
          exact ⟨s == t, h', by simp [Instr.sameNow], fun e => by
            have : s = t := (bytes_beq _ _).1 e
            subst this
            exact ⟨rfl, by simp [Instr.sameBits, bytes_beq]⟩⟩
        | _ => cases h
      | _ => cases h
    | bool =>
      cases h
      refine ⟨fun x cx k _ h => ⟨h, fun e W => check_ok hd (.inr (.inr rfl)) e 9999 _ W⟩, .inl fun x y cx cy k hx hy h => ?_⟩
      cases hx with
      | bool s _ =>
        cases hy with
        | bool t _ =>
          have h : k (cond s t (not t)) = true := h
          exact ⟨_, h, by cases s <;> cases t <;> rfl, fun e => by
            cases s <;> cases t <;> first | (cases e; done) | exact ⟨rfl, by simp [Instr.sameBits]⟩⟩
        | _ => cases h
      | _ => cases h
    | struct fs =>
      cases h
      exact ⟨fun x cx k hx h => chkAgg_ok hd hx h, .inr ⟨fun u v => by cases u <;> cases v <;> rfl, fun x y cx cy k hx hy h => keyAgg_ok hx hy h⟩⟩
    | _ => cases h
/-- A key among others. -/
def Finds (P : Program) (kt : TypeId) (ck : Value) (fs : List MapEntry) (r : Option (Nat × Value)) : Prop := ∀ W, (Instr.findKey kt ck fs).run P W = .ok r W
noncomputable abbrev findR (eq : EqT) (key : Value) (k : Option (Nat × MapEntry) → R) (es : List MapEntry) (i : Nat) : R :=
  List.rec (motive := fun _ => Nat → R) (fun _ => k none) (fun e _ ih i => eq key e.key fun b => cond b (k (some (i, e))) (ih (Nat.succ i))) es i
theorem find_ok {key ck : Value} {eq : EqT} (F : List MapEntry → Nat → Option (Nat × Value) → Prop) (Q : Value → Bool → Prop)
    (h0 : ∀ i, F [] i none) (h1 : ∀ e es i, Q e.key true → F (e :: es) i (some (i, e.val))) (h2 : ∀ e es i r, Q e.key false → F es (i + 1) r → F (e :: es) i r)
    (ho : ∀ y cy (k : Bool → R), VR β y cy → eq key y k = true → ∃ b, k b = true ∧ Q cy b ∧ (b = true → ck = cy ∧ Instr.sameBits 10000 ck ck = true)) : ∀ {es fs : List MapEntry} (he : ER β es fs) (i : Nat) (k : Option (Nat × MapEntry) → R),
    findR eq key k es i = true →
    (k none = true ∧ F fs i none) ∨ ∃ j e f, k (some (i + j, e)) = true ∧ es[j]? = some e ∧ fs[j]? = some f ∧ VR β e.key f.key ∧ VR β e.val f.val ∧ e.born = f.born ∧ f.key = ck ∧ Instr.sameBits 10000 ck ck = true ∧ F fs i (some (i + j, f.val)) := by
  intro es fs he
  induction he with
  | nil => intro i k h; exact .inl ⟨h, h0 i⟩
  | @cons e f es fs g1 g2 g3 _ ih =>
    intro i k h
    obtain ⟨b, h4, h5, h6⟩ := ho _ _ _ g1 h
    cases b with
    | true =>
      obtain ⟨h7, h8⟩ := h6 rfl
      exact .inr ⟨0, e, f, h4, rfl, rfl, g1, g2, g3, h7.symm, h8, h1 _ _ _ h5⟩
    | false =>
      rcases ih (i + 1) k h4 with ⟨q1, q2⟩ | ⟨j, e', f', q1, q2, q3, q4, q5, q6, q7, q8, q9⟩
      · exact .inl ⟨q1, h2 _ _ _ _ h5 q2⟩
      · have e : i + 1 + j = i + (j + 1) := by omega
        rw [e] at q1 q9
        exact .inr ⟨j + 1, e', f', q1, by simpa using q2, by simpa using q3, q4, q5, q6, q7, q8, h2 _ _ _ _ h5 q9⟩
theorem findK_ok {kt : TypeId} {d : TypeDesc} {q : KeyQ} (hkd : P.underlying kt = some d) (ho : KeyOk P β kt d q) {key ck : Value} (hk : VR β key ck) {es fs : List MapEntry} (he : ER β es fs) {k : Option (Nat × MapEntry) → R} (h : findK q.eq key es k = true) :
    (k none = true ∧ Finds P kt ck fs none) ∨ ∃ j e f, k (some (j, e)) = true ∧ es[j]? = some e ∧ fs[j]? = some f ∧ VR β e.key f.key ∧ VR β e.val f.val ∧ e.born = f.born ∧ f.key = ck ∧ Instr.sameBits 10000 ck ck = true ∧ Finds P kt ck fs (some (j, f.val)) := by
  have use : ∀ {F : List MapEntry → Nat → Option (Nat × Value) → Prop}, (∀ r, F fs 0 r → Finds P kt ck fs r) →
      ((k none = true ∧ F fs 0 none) ∨ ∃ j e f, k (some (0 + j, e)) = true ∧ es[j]? = some e ∧ fs[j]? = some f ∧ VR β e.key f.key ∧ VR β e.val f.val ∧ e.born = f.born ∧ f.key = ck ∧ Instr.sameBits 10000 ck ck = true ∧ F fs 0 (some (0 + j, f.val))) →
      (k none = true ∧ Finds P kt ck fs none) ∨ ∃ j e f, k (some (j, e)) = true ∧ es[j]? = some e ∧ fs[j]? = some f ∧ VR β e.key f.key ∧ VR β e.val f.val ∧ e.born = f.born ∧ f.key = ck ∧ Instr.sameBits 10000 ck ck = true ∧ Finds P kt ck fs (some (j, f.val)) := by
    intro F hF h
    simp only [Nat.zero_add] at h
    rcases h with ⟨q1, q2⟩ | ⟨j, e', f', q1, q2, q3, q4, q5, q6, q7, q8, q9⟩
    · exact .inl ⟨q1, hF _ q2⟩
    · exact .inr ⟨j, e', f', q1, q2, q3, q4, q5, q6, q7, q8, hF _ q9⟩
  rcases ho.same with hs | ⟨hn, hs⟩
  · refine use (F := fun fs i r => Instr.findNow d ck fs i = some r) (fun r hr W => run_findKey hkd hr) ?_
    exact find_ok (fun fs i r => Instr.findNow d ck fs i = some r) (fun cy b => Instr.sameNow d ck cy = some b) (fun i => rfl) (fun e es i h => by simp [Instr.findNow, h]) (fun e es i r h h' => by simp [Instr.findNow, h, h']) (fun y cy k hy h => hs _ _ _ _ _ hk hy h) he 0 k h
  · refine use (F := fun fs i r => ∀ W, (Instr.findAsking kt ck fs i).run P W = .ok r W) (fun r hr W => ?_) (find_ok (fun fs i r => ∀ W, (Instr.findAsking kt ck fs i).run P W = .ok r W) (fun cy b => ∀ W, (Op.equal kt ck cy).run P W = .ok b W) (fun i W => rfl) (fun e es i h W => by simp [Instr.findAsking, h W]) (fun e es i r h h' W => by simp [Instr.findAsking, h W, h' W]) (fun y cy k hy h => hs _ _ _ _ _ hk hy h) he 0 k h)
    cases fs with
    | nil => exact (run_findKey hkd rfl).trans (hr W)
    | cons e fs => simp [Instr.findKey, run_und hkd, Instr.findNow, hn, hr W]
/-- A map that the evaluator reads. -/
theorem map_ok {r c : Nat} {o : AO} (hr : Rel K β w cw) (h : w.h.get (r + 1) = some o) (hb : β r = some c) {es : List MapEntry} {cl : Nat} (ho : o = .map es cl) :
    ∃ fs, cw.heap[c]? = some (.map fs cl) ∧ ER β es fs.toList := by
  subst ho
  obtain ⟨c', co, h5, h6, h7, _⟩ := hr.obj _ _ h rfl
  obtain rfl := Option.some.inj (hb.symm.trans h5)
  cases co with
  | map fs d =>
    obtain ⟨rfl, h7⟩ := h7
    exact ⟨fs, h6, h7⟩
  | _ => exact h7.elim
section
variable {dst : Option Tmp} {ty : TypeId} {pos : String} {af : Array Edge} {gd : Option (Nat × Bool)} {k : Value → AW → R}
theorem op_lookup {t : TypeId} {x i : Operand} {ok : Bool} (hr : Rel K β w cw) (h : (compOp P ⟨dst, .lookup t x i ok, ty, pos, af, gd⟩).run call fr w k = true) (ht : TmpR β fr a [x, i]) : GivesF P β w a ⟨dst, .lookup t x i ok, ty, pos, af, gd⟩ cw k := by
  simp only [compOp] at h
  cases hd : P.underlying t with
  | none => rw [hd] at h; cases h
  | some d =>
    rw [hd] at h
    cases d with
    | map kt e =>
      simp only at h
      cases hz : zeroB P e with
      | none => rw [hz] at h; cases h
      | some z =>
        cases hq : keyB P kt with
        | none => rw [hz, hq] at h; cases h
        | some q =>
          rw [hz, hq] at h
          obtain ⟨d, hkd, hko⟩ := keyB_ok hq
          obtain ⟨hz1, hz2⟩ := zeroB_ok hz
          obtain ⟨vx, h1, h2⟩ := opd_ok hr h (ht.of_sub (sub1 (x := x) (y := x) (by simp)))
          obtain ⟨vi, h3, h4⟩ := opd_ok hr h1 (ht.of_sub (sub1 (x := i) (y := x) (by simp)))
          obtain ⟨h3, hck'⟩ := (hko β).check _ _ _ h4 h3
          have hck : ∀ em, (Instr.checkKey em 10000 kt (a.eval i)).run P cw = .ok () cw := fun em => hck' em cw
          have fin : ∀ v cv, k (cond ok (.tuple #[v, .bool true]) v) w = true → VR β v cv → (Instr.lookup t (a.eval x) (a.eval i) ok).run P cw = .ok (if ok then .tuple #[cv, .bool true] else cv) cw → GivesF P β w a ⟨dst, .lookup t x i ok, ty, pos, af, gd⟩ cw k := by
            intro v cv g1 g2 g3
            refine .val hr g1 ?_ (by simp only [execOp, Sem.run_bind, g3, Result.andThen_ok, Sem.run_pure]; rfl)
            cases ok with
            | true => exact .tuple (g2.cons (.bool true .nil)) .nil
            | false => exact g2
          have fin0 : k (cond ok (.tuple #[z, .bool false]) z) w = true → (Instr.lookup t (a.eval x) (a.eval i) ok).run P cw = .ok (if ok then .tuple #[z, .bool false] else z) cw → GivesF P β w a ⟨dst, .lookup t x i ok, ty, pos, af, gd⟩ cw k := by
            intro g1 g3
            refine .val hr g1 ?_ (by simp only [execOp, Sem.run_bind, g3, Result.andThen_ok, Sem.run_pure]; rfl)
            cases ok with
            | true => exact .tuple ((plain_ok hz2).cons (.bool false .nil)) .nil
            | false => exact plain_ok hz2
          generalize hx : a.eval x = cx at h2 fin fin0
          cases h2 with
          | mapN _ =>
            have hf : (Instr.findKey kt (a.eval i) []).run P cw = .ok none cw := run_findKey hkd rfl
            exact fin0 h3 (by simp [Instr.lookup, run_und hd, hck, hf, run_zeroB hz])
          | map hb _ =>
            obtain ⟨o, g1, g2⟩ := aw_get h3
            cases o with
            | map es cl =>
              obtain ⟨fs, g3, g4⟩ := map_ok hr g1 hb rfl
              have hg : (getObj _).run P cw = .ok (.map fs cl) cw := run_getObj' g3
              rcases findK_ok hkd (hko β) h4 g4 g2 with ⟨g5, g6⟩ | ⟨j, e', f', g5, g6, g7, g8, g9, g10, g11, g12, g13⟩
              · exact fin0 g5 (by simp [Instr.lookup, run_und hd, hck, hg, g6 _, run_zeroB hz])
              · exact fin _ _ g5 g9 (by simp [Instr.lookup, run_und hd, hck, hg, g13 _])
            | _ => cases g2
          | _ => cases h3
    | _ => cases h
end
end Go.Ek
namespace Go.Ek
open Go.Lib
open Go.MapKept (bytes_beq run_findKey run_getObj_map run_setObj_map)
set_option linter.unusedVariables false
set_option linter.unusedSimpArgs false
variable {P : Program} {K : Keep P} {β : Ren} {w : AW} {cw : World} {fr : Fr} {a : Act} {call : CallT}
theorem ER.length {es fs : List MapEntry} (h : ER β es fs) : es.length = fs.length := by
  induction h with
  | nil => rfl
  | cons _ _ _ _ ih => simp [ih]
theorem ER.get {es fs : List MapEntry} (h : ER β es fs) : ∀ {i : Nat} {e f : MapEntry}, es[i]? = some e → fs[i]? = some f → VR β e.key f.key ∧ VR β e.val f.val ∧ e.born = f.born := by
  induction h with
  | nil => intro i e f h; simp at h
  | cons h1 h2 h3 _ ih =>
    intro i e f he hf
    cases i with
    | zero => simp at he hf; subst he hf; exact ⟨h1, h2, h3⟩
    | succ i => exact ih (by simpa using he) (by simpa using hf)
theorem ER.of_get : ∀ {es fs : List MapEntry}, es.length = fs.length → (∀ (i : Nat) (e f : MapEntry), es[i]? = some e → fs[i]? = some f → VR β e.key f.key ∧ VR β e.val f.val ∧ e.born = f.born) → ER β es fs
  | [], [], _, _ => .nil
  | [], _ :: _, h, _ => by simp at h
  | _ :: _, [], h, _ => by simp at h
  | e :: es, f :: fs, h, k => by
    obtain ⟨h1, h2, h3⟩ := k 0 e f rfl rfl
    exact .cons h1 h2 h3 (ER.of_get (by simpa using h) fun i a b ha hb => k (i + 1) a b (by simpa using ha) (by simpa using hb))
theorem ER.set {es fs r : List MapEntry} {i : Nat} {e' f' : MapEntry} (h : ER β es fs) (hl : r.length = es.length) (hr : ∀ (j : Nat), r[j]? = if i ≤ j ∧ j < i + 1 then [e'][j - i]? else es[j]?) {q : List MapEntry} (hq : q.length = fs.length) (hq2 : ∀ (j : Nat) f, q[j]? = some f → (j = i ∧ f = f') ∨ (j ≠ i ∧ fs[j]? = some f))
    (h1 : VR β e'.key f'.key) (h2 : VR β e'.val f'.val) (h3 : e'.born = f'.born) : ER β r q := by
  refine ER.of_get (by rw [hl, hq]; exact h.length) fun j e f he hf => ?_
  rw [hr] at he
  rcases hq2 j f hf with ⟨rfl, rfl⟩ | ⟨hne, hf2⟩
  · rw [if_pos (by omega)] at he
    simp at he
    subst he
    exact ⟨h1, h2, h3⟩
  · rw [if_neg (by omega)] at he
    exact h.get he hf2
theorem ER.snoc {es fs : List MapEntry} {e f : MapEntry} (h : ER β es fs) (h1 : VR β e.key f.key) (h2 : VR β e.val f.val) (h3 : e.born = f.born) : ER β (es ++ [e]) (fs ++ [f]) := by
  induction h with
  | nil => exact .cons h1 h2 h3 .nil
  | cons g1 g2 g3 _ ih => exact .cons g1 g2 g3 ih
theorem modify_get {fs : Array MapEntry} {i : Nat} {g : MapEntry → MapEntry} {f0 : MapEntry} (h0 : fs[i]? = some f0) : (fs.modify i g).toList.length = fs.toList.length ∧ ∀ (j : Nat) f, (fs.modify i g).toList[j]? = some f → (j = i ∧ f = g f0) ∨ (j ≠ i ∧ fs.toList[j]? = some f) := by
  refine ⟨by simp, fun j f hf => ?_⟩
  rw [Array.getElem?_toList, Array.getElem?_modify] at hf
  by_cases e : i = j
  · subst e
    rw [if_pos rfl, h0] at hf
    simp at hf
    exact .inl ⟨rfl, hf.symm⟩
  · rw [if_neg e] at hf
    exact .inr ⟨fun e2 => e e2.symm, by rw [Array.getElem?_toList]; exact hf⟩
/-- A map is put anew. -/
theorem setMap_ok {r c : Nat} {es es' : List MapEntry} {cl cl' : Nat} {fs fs' : Array MapEntry} (hr : Rel K β w cw) (h : w.h.get (r + 1) = some (.map es cl)) (hb : β r = some c) (hc : cw.heap[c]? = some (.map fs cl)) (he : ER β es' fs'.toList) {k : AW → R} (hk : w.put r (.map es' cl') k = true) :
    ∃ w' cw', k w' = true ∧ Rel K β w' cw' ∧ (setObj c (.map fs' cl')).run P cw = .ok () cw' := by
  obtain ⟨w', g1, g2, g3⟩ := aw_put hk
  obtain ⟨cw', f1, f2, f3, f4, f5, f6⟩ := setObj_heap (P := P) (co := .map fs' cl') hc (fun _ _ _ e => by cases e)
  exact ⟨w', cw', g1, hr.upd h rfl rfl hb g2 g3 f2 f3 f4 f5 f6 (fun _ => ⟨⟨rfl, he⟩, rfl⟩) (fun _ _ _ _ _ _ _ q => by cases q), f1⟩
section
variable {dst : Option Tmp} {ty : TypeId} {pos : String} {af : Array Edge} {gd : Option (Nat × Bool)} {k : Value → AW → R}
theorem updK_ok {t kt e : TypeId} {d : TypeDesc} {q : KeyQ} (hd : P.underlying t = some (.map kt e)) (hkd : P.underlying kt = some d) (hko : ∀ β, KeyOk P β kt d q) {m ky x cm ck cx : Value} (hr : Rel K β w cw) (hm : VR β m cm) (hk : VR β ky ck) (hx : VR β x cx)
    (h : q.chk ky (updK q.eq w m ky x k) = true) : ∃ w' cw', k undef w' = true ∧ Rel K β w' cw' ∧ (Instr.mapUpdate t cm ck cx).run P cw = .ok () cw' := by
  obtain ⟨h, hck'⟩ := (hko β).check _ _ _ hk h
  have hck : ∀ em, (Instr.checkKey em 10000 kt ck).run P cw = .ok () cw := fun em => hck' em cw
  cases hm with
  | map hb _ =>
    obtain ⟨o, g1, g2⟩ := aw_get h
    cases o with
    | map es cl =>
      obtain ⟨fs, g3, g4⟩ := map_ok hr g1 hb rfl
      have hg : (getObj _).run P cw = .ok (.map fs cl) cw := run_getObj' g3
      rcases findK_ok hkd (hko β) hk g4 g2 with ⟨g5, g6⟩ | ⟨j, e', f', g5, g6, g7, g8, g9, g10, g11, g12, g13⟩
      · simp only [appK_eq] at g5
        obtain ⟨w', cw', q1, q2, q3⟩ := setMap_ok (fs' := fs.push { key := ck, val := cx, born := cl }) hr g1 hb g3 (by rw [Array.toList_push]; exact g4.snoc hk hx rfl) g5
        exact ⟨w', cw', q1, q2, by simp [Instr.mapUpdate, run_und hd, hck, hg, g6 _, q3]⟩
      · obtain ⟨h1, r, h2, h3, h4⟩ := setK_ok _ _ _ _ g5
        have g7' : fs[j]? = some f' := by rw [← Array.getElem?_toList]; exact g7
        obtain ⟨m1, m2⟩ := modify_get (g := fun e => { e with key := ck, val := cx }) g7'
        obtain ⟨w', cw', q1, q2, q3⟩ := setMap_ok (fs' := fs.modify j fun e => { e with key := ck, val := cx }) hr g1 hb g3 (g4.set (e' := { key := ky, val := x, born := e'.born }) h3 (by simpa using h4) m1 m2 hk hx g10) h2
        have hst : (Instr.keyThatStays f'.key ck).run P cw = .ok ck cw := by simp [Instr.keyThatStays, g11, g12]
        exact ⟨w', cw', q1, q2, by simp [Instr.mapUpdate, run_und hd, hck, hg, g13 _, g7', hst, q3]⟩
    | _ => cases g2
  | _ => cases h
theorem op_mapUpdate {t : TypeId} {m i x : Operand} (hr : Rel K β w cw) (h : (compOp P ⟨dst, .mapUpdate t m i x, ty, pos, af, gd⟩).run call fr w k = true) (ht : TmpR β fr a [m, i, x]) : Gives P K β a ⟨dst, .mapUpdate t m i x, ty, pos, af, gd⟩ cw k := by
  simp only [compOp] at h
  cases hd : P.underlying t with
  | none => rw [hd] at h; cases h
  | some d =>
    rw [hd] at h
    cases d with
    | map kt e =>
      simp only at h
      cases hq : keyB P kt with
      | none => rw [hq] at h; cases h
      | some q =>
        rw [hq] at h
        obtain ⟨d, hkd, hko⟩ := keyB_ok hq
        obtain ⟨vm, h1, h2⟩ := opd_ok hr h (ht.of_sub (sub1 (x := m) (y := m) (by simp)))
        obtain ⟨vi, h3, h4⟩ := opd_ok hr h1 (ht.of_sub (sub1 (x := i) (y := m) (by simp)))
        obtain ⟨vx, h5, h6⟩ := opd_ok hr h3 (ht.of_sub (sub1 (x := x) (y := m) (by simp)))
        obtain ⟨w', cw', q1, q2, q3⟩ := updK_ok hd hkd hko hr h2 h4 h6 h5
        exact ⟨undef, w', β, undef, cw', q1, Le.refl β, q2, undef_ok, .inr ⟨by simp [execOp, q3], rfl⟩⟩
    | _ => cases h
theorem op_insert {t : TypeId} {m i x : Operand} (hr : Rel K β w cw) (h : (compOp P ⟨dst, .insert t m i x, ty, pos, af, gd⟩).run call fr w k = true) (ht : TmpR β fr a [m, i, x]) : Gives P K β a ⟨dst, .insert t m i x, ty, pos, af, gd⟩ cw k := by
  simp only [compOp] at h
  cases hd : P.underlying t with
  | none => rw [hd] at h; cases h
  | some d =>
    rw [hd] at h
    cases d with
    | map kt e =>
      simp only at h
      cases hq : keyB P kt with
      | none => rw [hq] at h; cases h
      | some q =>
        rw [hq] at h
        obtain ⟨d, hkd, hko⟩ := keyB_ok hq
        obtain ⟨vm, h1, h2⟩ := opd_ok hr h (ht.of_sub (sub1 (x := m) (y := m) (by simp)))
        obtain ⟨vi, h3, h4⟩ := opd_ok hr h1 (ht.of_sub (sub1 (x := i) (y := m) (by simp)))
        obtain ⟨vx, h5, h6⟩ := opd_ok hr h3 (ht.of_sub (sub1 (x := x) (y := m) (by simp)))
        obtain ⟨w', cw', q1, q2, q3⟩ := updK_ok hd hkd hko hr h2 h4 h6 h5
        exact ⟨undef, w', β, undef, cw', q1, Le.refl β, q2, undef_ok, .inr ⟨by simp [execOp, q3], rfl⟩⟩
    | _ => cases h
end
end Go.Ek
namespace Go.Ek
open Go.Lib
open Go.MapKept (bytes_beq run_findKey run_getObj_map run_setObj_map)
set_option linter.unusedVariables false
set_option linter.unusedSimpArgs false
variable {P : Program} {K : Keep P} {β : Ren} {w : AW} {cw : World} {fr : Fr} {a : Act} {call : CallT}
theorem dropAt_ok {α : Type} : ∀ (l : List α) (i : Nat) (k : List α → R), dropAt l i k = k (l.eraseIdx i)
  | [], i, k => rfl
  | x :: l, 0, k => rfl
  | x :: l, i + 1, k => dropAt_ok l i fun r => k (x :: r)
theorem ER.erase {es fs : List MapEntry} (h : ER β es fs) : ∀ i, ER β (es.eraseIdx i) (fs.eraseIdx i) := by
  induction h with
  | nil => intro i; exact .nil
  | cons h1 h2 h3 hh ih =>
    intro i
    cases i with
    | zero => exact hh
    | succ i => exact .cons h1 h2 h3 (ih i)
section
variable {dst : Option Tmp} {ty : TypeId} {pos : String} {af : Array Edge} {gd : Option (Nat × Bool)} {k : Value → AW → R}
theorem op_mapEntry {t : TypeId} {m i : Operand} (hr : Rel K β w cw) (h : (compOp P ⟨dst, .mapEntry t m i, ty, pos, af, gd⟩).run call fr w k = true) (ht : TmpR β fr a [m, i]) : Gives P K β a ⟨dst, .mapEntry t m i, ty, pos, af, gd⟩ cw k := by
  simp only [compOp] at h
  cases hd : P.underlying t with
  | none => rw [hd] at h; cases h
  | some d =>
    rw [hd] at h
    cases d with
    | map kt e =>
      simp only at h
      cases hz : zeroB P e with
      | none => rw [hz] at h; cases h
      | some z =>
        cases hq : keyB P kt with
        | none => rw [hz, hq] at h; cases h
        | some q =>
          rw [hz, hq] at h
          obtain ⟨d, hkd, hko⟩ := keyB_ok hq
          obtain ⟨hz1, hz2⟩ := zeroB_ok hz
          obtain ⟨vm, h1, h2⟩ := opd_ok hr h (ht.of_sub (sub1 (x := m) (y := m) (by simp)))
          obtain ⟨vi, h3, h4⟩ := opd_ok hr h1 (ht.of_sub (sub1 (x := i) (y := m) (by simp)))
          obtain ⟨h3, hck'⟩ := (hko β).check _ _ _ h4 h3
          have hck : ∀ em, (Instr.checkKey em 10000 kt (a.eval i)).run P cw = .ok () cw := fun em => hck' em cw
          generalize hm : a.eval m = cm at h2
          cases h2 with
          | map hb _ =>
            obtain ⟨o, g1, g2⟩ := aw_get h3
            cases o with
            | map es cl =>
              obtain ⟨fs, g3, g4⟩ := map_ok hr g1 hb rfl
              have hg : (getObj _).run P cw = .ok (.map fs cl) cw := run_getObj' g3
              rcases findK_ok hkd (hko β) h4 g4 g2 with ⟨g5, g6⟩ | ⟨j, e', f', g5, g6, g7, g8, g9, g10, g11, g12, g13⟩
              · simp only [appK_eq] at g5
                obtain ⟨w', cw', q1, q2, q3⟩ := setMap_ok (P := P) (fs' := fs.push { key := a.eval i, val := z, born := cl }) hr g1 hb g3 (by rw [Array.toList_push]; exact g4.snoc h4 (plain_ok hz2) rfl) g5
                refine ⟨_, w', β, .tuple #[z, goInt cl], cw', q1, Le.refl β, q2, .tuple ((plain_ok hz2).cons (.int _ _ .nil)) .nil, .inl ?_⟩
                simp [execOp, Instr.mapEntry, hm, run_und hd, hck, hg, g6 _, run_zeroB hz, q3]
              · obtain ⟨h1, r, h5, h6, h7⟩ := setK_ok _ _ _ _ g5
                have g7' : fs[j]? = some f' := by rw [← Array.getElem?_toList]; exact g7
                obtain ⟨m1, m2⟩ := modify_get (g := fun e => { e with key := a.eval i }) g7'
                obtain ⟨w', cw', q1, q2, q3⟩ := setMap_ok (P := P) (fs' := fs.modify j fun e => { e with key := a.eval i }) hr g1 hb g3 (g4.set (e' := { key := vi, val := e'.val, born := e'.born }) h6 (by simpa using h7) m1 m2 h4 g9 g10) h5
                have hst : (Instr.keyThatStays f'.key (a.eval i)).run P cw = .ok (a.eval i) cw := by simp [Instr.keyThatStays, g11, g12]
                refine ⟨_, w', β, .tuple #[f'.val, goInt f'.born], cw', q1, Le.refl β, q2, .tuple (g9.cons (by rw [g10]; exact .int _ _ .nil)) .nil, .inl ?_⟩
                simp [execOp, Instr.mapEntry, hm, run_und hd, hck, hg, g13 _, g7', hst, q3]
            | _ => cases g2
          | _ => cases h3
    | _ => cases h
theorem bornK_ok {b : Nat} : ∀ {es fs : List MapEntry} (h : ER β es fs) (i : Nat) (k : Nat → MapEntry → R), List.rec (motive := fun _ => Nat → R) (fun _ => false) (fun e _ ih i => cond (Nat.beq e.born b) (k i e) (ih (Nat.succ i))) es i = true →
    ∃ j e f, k (i + j) e = true ∧ es[j]? = some e ∧ fs[j]? = some f ∧ VR β e.key f.key ∧ VR β e.val f.val ∧ e.born = f.born ∧ fs.findIdx? (fun e => (e.born : Int) == (b : Int)) = some j ∧ fs.find? (·.born == b) = some f := by
  intro es fs he
  induction he with
  | nil => intro i k h; cases h
  | @cons e f es fs h1 h2 h3 _ ih =>
    intro i k h
    have h : cond (Nat.beq e.born b) (k i e) (List.rec (motive := fun _ => Nat → R) (fun _ => false) (fun e _ ih i => cond (Nat.beq e.born b) (k i e) (ih (Nat.succ i))) es (Nat.succ i)) = true := h
    rw [beq_n] at h
    by_cases hb : e.born = b
    · simp only [hb, decide_true, cond_true] at h
      have : f.born = b := by rw [← h3, hb]
      exact ⟨0, e, f, h, rfl, rfl, h1, h2, h3, by simp [List.findIdx?_cons, this], by simp [this]⟩
    · simp only [hb, decide_false, cond_false] at h
      obtain ⟨j, e', f', g1, g2, g3, g4, g5, g6, g7, g8⟩ := ih (i + 1) k h
      have hfb : f.born ≠ b := by rw [← h3]; exact hb
      have hfb2 : ((f.born : Int) == (b : Int)) = false := by rw [beq_eq_false_iff_ne]; omega
      refine ⟨j + 1, e', f', by rw [← g1]; congr 1; omega, by simpa using g2, by simpa using g3, g4, g5, g6, ?_, ?_⟩
      · rw [List.findIdx?_cons]
        simp only [hfb2, g7]
        rfl
      · rw [List.find?_cons]
        have : (f.born == b) = false := by simpa using hfb
        simp only [this, g8]
theorem lastK_ok : ∀ (l : List Nat) (o : Option Nat) (k : Nat → R), List.rec (motive := fun _ => Option Nat → R) (fun o => Option.casesOn o false k) (fun x _ ih _ => ih (some x)) l o = true → ∃ b, (l.getLast?).or o = some b ∧ k b = true
  | [], none, k, h => by cases h
  | [], some b, k, h => ⟨b, rfl, h⟩
  | x :: l, o, k, h => by
    obtain ⟨b, h1, h2⟩ := lastK_ok l (some x) k h
    refine ⟨b, ?_, h2⟩
    rw [← h1]
    cases l with
    | nil => rfl
    | cons y l => rw [List.getLast?_cons_cons]; cases h : (y :: l).getLast? with
      | none => simp at h
      | some z => rfl
theorem op_entry {x : Operand} (hr : Rel K β w cw) (h : ((opd x).run fr fun vx => entryK w vx fun v => k v w) = true) (ht : TmpR β fr a [x]) : Gives P K β a ⟨dst, .entry x, ty, pos, af, gd⟩ cw k := by
  obtain ⟨v, h1, h2⟩ := opd_ok hr h ht
  obtain ⟨b, c, o, h3, h4, h5⟩ := ptrK_ok h1 h2
  simp only [beq_n] at h3
  by_cases ho : o = 0
  · subst ho
    simp only [decide_true, cond_true] at h3
    obtain ⟨ob, g1, g2⟩ := aw_get h3
    cases ob with
    | iter m since seen last =>
      obtain ⟨c', co, x1, x2, x3, x4⟩ := hr.obj b _ g1 rfl
      obtain rfl := Option.some.inj (h4.symm.trans x1)
      cases co with
      | mapIter m' since' seen' last' =>
        obtain ⟨y1, rfl, rfl, rfl⟩ := x3
        have hg := run_getO (P := P) x2 (fun _ _ _ e => by cases e)
        cases m with
        | none => cases g2
        | some r =>
          obtain ⟨cm, y2, rfl⟩ := y1
          have g2 : (w.get r fun o => match o with
            | .map es c => cond (decide (c = last')) (lastK seen'.toList fun b => bornK b es fun _ e => k (.tuple #[e.key, e.val]) w) false
            | _ => false) = true := g2
          obtain ⟨om, z1, z2⟩ := aw_get g2
          cases om with
          | map es cl =>
            obtain ⟨cm', com, u1, u2, u3, _⟩ := hr.obj r _ z1 rfl
            obtain rfl := Option.some.inj (y2.symm.trans u1)
            cases com with
            | map fs d =>
              obtain ⟨rfl, u4⟩ := u3
              have hgm := run_getO (P := P) u2 (fun _ _ _ e => by cases e)
              simp only at z2
              by_cases hc : d = last'
              · simp only [hc, decide_true, cond_true] at z2
                obtain ⟨bn, v1, v2⟩ := lastK_ok _ none _ z2
                obtain ⟨i, e', f', q1, q2, q3, q4, q5, q6, q7, q8⟩ := bornK_ok u4 0 _ v2
                have hb : seen'.back? = some bn := by
                  rw [← Array.getLast?_toList]
                  simpa using v1
                have hfind : fs.find? (fun e => e.born == bn) = some f' := by
                  rw [← q8, ← Array.find?_toList]
                refine ⟨_, w, β, .tuple #[f'.key, f'.val], cw, q1, Le.refl β, hr, .tuple (q4.cons (q5.cons .nil)) .nil, .inl ?_⟩
                simp [execOp, Instr.entry, h5, hg, hgm, hb, hc, hfind]
              · simp only [hc, decide_false, cond_false] at z2
                cases z2
            | _ => exact u3.elim
          | _ => cases z2
      | _ => exact x3.elim
    | _ => cases g2
  · simp only [ho, decide_false, cond_false] at h3
    cases h3
theorem op_entryStore {t : TypeId} {m s x : Operand} (hr : Rel K β w cw) (h : (compOp P ⟨dst, .entryStore t m s x, ty, pos, af, gd⟩).run call fr w k = true) (ht : TmpR β fr a [m, s, x]) : Gives P K β a ⟨dst, .entryStore t m s x, ty, pos, af, gd⟩ cw k := by
  have h : ((opd m).run fr fun vm => (opd s).run fr fun vs_ => (opd x).run fr fun vx => entSt w vm vs_ vx k) = true := h
  obtain ⟨vm, h1, h2⟩ := opd_ok hr h (ht.of_sub (sub1 (x := m) (y := m) (by simp)))
  obtain ⟨vs, h3, h4⟩ := opd_ok hr h1 (ht.of_sub (sub1 (x := s) (y := m) (by simp)))
  obtain ⟨vx, h5, h6⟩ := opd_ok hr h3 (ht.of_sub (sub1 (x := x) (y := m) (by simp)))
  generalize hm : a.eval m = cm at h2
  cases h2 with
  | map hb _ =>
    obtain ⟨j, b, h7, h8⟩ := idxK_ok h5 h4
    obtain ⟨o, g1, g2⟩ := aw_get h7
    cases o with
    | map es cl =>
      obtain ⟨fs, g3, g4⟩ := map_ok hr g1 hb rfl
      have hg : (getObj _).run P cw = .ok (.map fs cl) cw := run_getObj' g3
      obtain ⟨i, e', f', q1, q2, q3, q4, q5, q6, q7, q8⟩ := bornK_ok g4 0 _ g2
      rw [Nat.zero_add] at q1
      obtain ⟨_, r, z1, z2, z3⟩ := setK_ok _ _ _ _ q1
      have q3' : fs[i]? = some f' := by rw [← Array.getElem?_toList]; exact q3
      obtain ⟨m1, m2⟩ := modify_get (g := fun e => { e with val := a.eval x }) q3'
      obtain ⟨w', cw', y1, y2, y3⟩ := setMap_ok (P := P) (fs' := fs.modify i fun e => { e with val := a.eval x }) hr g1 hb g3 (g4.set (e' := { key := e'.key, val := vx, born := e'.born }) z2 (by simpa using z3) m1 m2 q4 h6 q6) z1
      have hfi : fs.findIdx? (fun e => (e.born : Int) == (b : Int)) = some i := by
        rw [← q7]
        rw [← List.findIdx?_toArray]
      exact ⟨undef, w', β, undef, cw', y1, Le.refl β, y2, undef_ok, .inr ⟨by simp [execOp, Instr.entryStore, hm, h8, hg, asInt, asIntOf, hfi, y3], rfl⟩⟩
    | _ => cases g2
  | _ => cases h5
theorem op_delete {args : Array Operand} {ats : Array TypeId} {st : TypeId} {xt : List TypeId} {x ky : Operand} (hats : ats.toList = st :: xt) (hargs : args.toList = [x, ky]) (hr : Rel K β w cw)
    (h : (bi P .delete (st :: xt) [x, ky]).run call fr w k = true) (ht : TmpR β fr a [x, ky]) : Gives P K β a ⟨dst, .call ⟨.builtin .delete, args, ats⟩, ty, pos, af, gd⟩ cw k := by
  have h0 := ats0 hats
  simp only [bi] at h
  cases hd : P.underlying st with
  | none => rw [hd] at h; cases h
  | some d =>
    rw [hd] at h
    cases d with
    | map kt e =>
      simp only at h
      cases hq : keyB P kt with
      | none => rw [hq] at h; cases h
      | some q =>
        rw [hq] at h
        obtain ⟨d, hkd, hko⟩ := keyB_ok hq
        obtain ⟨vm, h1, h2⟩ := opd_ok hr h (ht.of_sub (sub1 (x := x) (y := x) (by simp)))
        obtain ⟨vi, h3, h4⟩ := opd_ok hr h1 (ht.of_sub (sub1 (x := ky) (y := x) (by simp)))
        obtain ⟨h3, hck'⟩ := (hko β).check _ _ _ h4 h3
        have hck : ∀ em, (Instr.checkKey em 10000 kt (a.eval ky)).run P cw = .ok () cw := fun em => hck' em cw
        have fin : ∀ cw' w', k undef w' = true → Rel K β w' cw' → (Builtin.delete_ ats ty #[a.eval x, a.eval ky]).run P cw = .ok (.tuple #[]) cw' → Gives P K β a ⟨dst, .call ⟨.builtin .delete, args, ats⟩, ty, pos, af, gd⟩ cw k := fun cw' w' g1 g2 g3 =>
          ⟨undef, w', β, .tuple #[], cw', g1, Le.refl β, g2, undef_ok, .inl (run_bi_ok (s := Builtin.delete_ ats ty (args.map a.eval)) (fun cs => rfl) (by rw [args2 hargs]; exact g3))⟩
        generalize hx : a.eval x = cx at h2 fin
        cases h2 with
        | mapN _ => exact fin cw w h3 hr (by simp [Builtin.delete_, h0, run_und hd, hck])
        | map hb _ =>
          obtain ⟨o, g1, g2⟩ := aw_get h3
          cases o with
          | map es cl =>
            obtain ⟨fs, g3, g4⟩ := map_ok hr g1 hb rfl
            have hg : (getObj _).run P cw = .ok (.map fs cl) cw := run_getObj' g3
            rcases findK_ok hkd (hko β) h4 g4 g2 with ⟨g5, g6⟩ | ⟨j, e', f', g5, g6, g7, g8, g9, g10, g11, g12, g13⟩
            · obtain ⟨cw', f1, f2, f3, f4, f5, f6⟩ := setObj_heap (P := P) (co := .map fs cl) g3 (fun _ _ _ e => by cases e)
              refine fin cw' w g5 (hr.upd (o := .map es cl) g1 rfl rfl hb (fun m => ?_) rfl f2 f3 f4 f5 f6 (fun _ => ⟨⟨rfl, g4⟩, rfl⟩) (fun _ _ _ _ _ _ _ q => by cases q)) (by simp [Builtin.delete_, h0, run_und hd, hck, hg, g6 _, f1])
              split
              · rename_i e
                rw [e]; exact g1
              · rfl
            · simp only [dropAt_ok] at g5
              have hlt : j < fs.toList.length := (List.getElem?_eq_some_iff.1 g7).1
              have he : (fs.eraseIdxIfInBounds j).toList = fs.toList.eraseIdx j := by
                rw [Array.toList_eraseIdxIfInBounds]
              obtain ⟨w', cw', q1, q2, q3⟩ := setMap_ok (P := P) (fs' := fs.eraseIdxIfInBounds j) hr g1 hb g3 (by rw [he]; exact g4.erase j) g5
              exact fin cw' w' q1 q2 (by simp [Builtin.delete_, h0, run_und hd, hck, hg, g13 _, q3])
          | _ => cases g2
        | _ => cases h3
    | _ => cases h
end
end Go.Ek
namespace Go.Ek
open Go.Lib
set_option linter.unusedVariables false
set_option linter.unusedSimpArgs false
variable {P : Program} {K : Keep P} {β : Ren} {w : AW} {cw : World} {fr : Fr} {a : Act} {call : CallT}
section
variable {dst : Option Tmp} {ty : TypeId} {pos : String} {af : Array Edge} {gd : Option (Nat × Bool)} {k : Value → AW → R}
def ifaceD : TypeDesc → Bool
  | .interface _ => true
  | _ => false
theorem op_typeAssert {x : Operand} {xt t : TypeId} {ok : Bool} (hr : Rel K β w cw) (h : (compOp P ⟨dst, .typeAssert x xt t ok, ty, pos, af, gd⟩).run call fr w k = true) (ht : TmpR β fr a [x]) : GivesF P β w a ⟨dst, .typeAssert x xt t ok, ty, pos, af, gd⟩ cw k := by
  simp only [compOp] at h
  cases hd : P.underlying t with
  | none => rw [hd] at h; cases hz : zeroB P t <;> (rw [hz] at h; cases h)
  | some d =>
    have hni : ifaceD d = false ∧ ∃ z, zeroB P t = some z ∧ ((opd x).run fr fun vx => asrtK t z ok vx fun v => k v w) = true := by
      rw [hd] at h
      cases hz : zeroB P t with
      | none => rw [hz] at h; cases d <;> cases h
      | some z => rw [hz] at h; cases d <;> first | (cases h; done) | exact ⟨rfl, z, rfl, h⟩
    obtain ⟨hni, z, hz, h⟩ := hni
    obtain ⟨hz1, hz2⟩ := zeroB_ok hz
    obtain ⟨v, h1, h2⟩ := opd_ok hr h ht
    generalize hx : a.eval x = cx at h2
    have fails : cond ok (k (.tuple #[z, .bool false]) w) false = true → (ok = true → (Instr.typeAssert cx xt t ok).run P cw = .ok (.tuple #[z, .bool false]) cw) → GivesF P β w a ⟨dst, .typeAssert x xt t ok, ty, pos, af, gd⟩ cw k := by
      intro g1 g2
      cases ok with
      | false => cases g1
      | true => exact .val hr g1 (.tuple ((plain_ok hz2).cons (.bool false .nil)) .nil) (by simp only [execOp, hx, Sem.run_bind, g2 rfl, Result.andThen_ok, Sem.run_pure])
    cases h2 with
    | nilIface _ => exact fails h1 (fun e => by subst e; cases d <;> first | (cases hni; done) | simp [Instr.typeAssert, run_und hd, run_zeroB hz])
    | iface u hv _ =>
      rename_i v v' _
      simp only [asrtK, beq_n] at h1
      by_cases he : u = t
      · simp only [he, decide_true, cond_true] at h1
        refine .val hr h1 (cv := cond ok (.tuple #[v', .bool true]) v') ?_ ?_
        · cases ok with
          | true => exact .tuple (hv.cons (.bool true .nil)) .nil
          | false => exact hv
        · simp only [execOp, hx]
          cases ok <;> cases d <;> first | (cases hni; done) | simp [Instr.typeAssert, run_und hd, he]
      · simp only [he, decide_false, cond_false] at h1
        exact fails h1 (fun e => by subst e; cases d <;> first | (cases hni; done) | simp [Instr.typeAssert, run_und hd, run_zeroB hz, he])
    | _ => cases h1
end
end Go.Ek
namespace Go.Ek
open Go.Lib
set_option linter.unusedVariables false
set_option linter.unusedSimpArgs false
variable {P : Program} {K : Keep P} {β : Ren} {w : AW} {cw : World} {fr : Fr} {a : Act} {call : CallT}
section
variable {dst : Option Tmp} {ty : TypeId} {pos : String} {af : Array Edge} {gd : Option (Nat × Bool)} {k : Value → AW → R}
theorem op_clear {args : Array Operand} {ats : Array TypeId} {st : TypeId} {xt : List TypeId} {x : Operand} (hats : ats.toList = st :: xt) (hargs : args.toList = [x]) (hr : Rel K β w cw)
    (h : (bi P .clear (st :: xt) [x]).run call fr w k = true) (ht : TmpR β fr a [x]) : Gives P K β a ⟨dst, .call ⟨.builtin .clear, args, ats⟩, ty, pos, af, gd⟩ cw k := by
  have h0 := ats0 hats
  have fin : ∀ cw' w', k undef w' = true → Rel K β w' cw' → (Builtin.clear_ ats ty #[a.eval x]).run P cw = .ok (.tuple #[]) cw' → Gives P K β a ⟨dst, .call ⟨.builtin .clear, args, ats⟩, ty, pos, af, gd⟩ cw k := fun cw' w' g1 g2 g3 =>
    ⟨undef, w', β, .tuple #[], cw', g1, Le.refl β, g2, undef_ok, .inl (run_bi_ok (s := Builtin.clear_ ats ty (args.map a.eval)) (fun cs => rfl) (by rw [args1 hargs]; exact g3))⟩
  simp only [bi] at h
  cases hd : P.underlying st with
  | none => rw [hd] at h; cases h
  | some d =>
    rw [hd] at h
    cases d with
    | slice e =>
      simp only at h
      cases hz : zeroB P e with
      | none => rw [hz] at h; cases h
      | some z =>
        rw [hz] at h
        obtain ⟨hz1, hz2⟩ := zeroB_ok hz
        obtain ⟨v, h1, h2⟩ := opd_ok hr h ht
        generalize hx : a.eval x = cx at h2 fin
        cases h2 with
        | sliceN n _ _ =>
          have h1 : repK (cellsL z) n (fun cs => k undef w) = true := h1
          rw [repK_eq] at h1
          exact fin cw w h1 hr (by simp [Builtin.clear_, h0, run_und hd])
        | slice o n hb _ _ _ =>
          have h1 : repK (cellsL z) n (fun cs => storeN w ⟨_, o, none⟩ cs fun w => k undef w) = true := h1
          rw [repK_eq] at h1
          obtain ⟨w', cw', g1, g2, g3⟩ := storeN_ok (P := P) (cvs := (Builtin.zeroCells z.cells n).toList) hr h1 hb (by rw [zeroCells_rep hz2, cells_plain hz2]; have := (zero_ok (β := β) hz2).rep n; rw [cells_plain hz2] at this; exact this)
          refine fin cw' w' g1 g2 ?_
          cases n with
          | zero =>
            have e0 : (Builtin.zeroCells z.cells 0).toList = [] := by rw [zeroCells_rep hz2]; rfl
            rw [e0] at g3
            have g3 : (Result.ok () cw : Result Unit) = .ok () cw' := g3
            cases g3
            simp [Builtin.clear_, h0, run_und hd]
          | succ n => simp [Builtin.clear_, h0, run_und hd, run_zeroB hz, g3]
        | _ => cases h1
    | map kt e =>
      simp only at h
      obtain ⟨v, h1, h2⟩ := opd_ok hr h ht
      generalize hx : a.eval x = cx at h2 fin
      cases h2 with
      | mapN _ => exact fin cw w h1 hr (by simp [Builtin.clear_, h0, run_und hd])
      | map hb _ =>
        obtain ⟨o, g1, g2⟩ := aw_get h1
        cases o with
        | map es cl =>
          obtain ⟨fs, g3, g4⟩ := map_ok hr g1 hb rfl
          have hg : (getObj _).run P cw = .ok (.map fs cl) cw := run_getObj' g3
          obtain ⟨w', cw', q1, q2, q3⟩ := setMap_ok (P := P) (es' := []) (fs' := #[]) hr g1 hb g3 .nil g2
          exact fin cw' w' q1 q2 (by simp [Builtin.clear_, h0, run_und hd, hg, q3])
        | _ => cases g2
      | _ => cases h1
    | _ => cases h
theorem op_bi {b : Builtin} {args : Array Operand} {ats : Array TypeId} (hr : Rel K β w cw) (h : (bi P b ats.toList args.toList).run call fr w k = true) (ht : TmpR β fr a args.toList) : Gives P K β a ⟨dst, .call ⟨.builtin b, args, ats⟩, ty, pos, af, gd⟩ cw k := by
  have key : ∀ la lx, ats.toList = la → args.toList = lx → (bi P b la lx).run call fr w k = true → TmpR β fr a lx → Gives P K β a ⟨dst, .call ⟨.builtin b, args, ats⟩, ty, pos, af, gd⟩ cw k := by
    intro la lx h1 h2 h ht
    unfold bi at h
    split at h
    · exact op_append h1 h2 hr (by simpa only [bi] using h) ht
    · exact (op_len h1 h2 hr (by simpa only [bi] using h) ht).gives hr
    · exact (op_cap h1 h2 hr (by simpa only [bi] using h) ht).gives hr
    · exact op_copy h1 h2 hr (by simpa only [bi] using h) ht
    · exact op_clear h1 h2 hr (by simpa only [bi] using h) ht
    · exact op_delete h1 h2 hr (by simpa only [bi] using h) ht
    · exact (op_data h2 hr (l := []) h ht).gives hr
    · exact op_ustring h1 h2 hr (by simpa only [bi] using h) ht
    · exact (op_max h2 hr (l := []) h ht).gives hr
    · exact (op_min h2 hr (l := []) h ht).gives hr
    · cases h
  exact key _ _ rfl rfl h ht
end
end Go.Ek
namespace Go.Ek
open Go.Lib
set_option linter.unusedVariables false
set_option linter.unusedSimpArgs false
variable {P : Program} {K : Keep P} {β : Ren} {w : AW} {cw : World} {fr : Fr} {a : Act} {call : CallT}
theorem op_slice {dst : Option Tmp} {ty : TypeId} {pos : String} {af : Array Edge} {gd : Option (Nat × Bool)} {k : Value → AW → R} {t : TypeId} {x : Operand} {lo hi mx : Option Operand} (hr : Rel K β w cw) (h : (compOp P ⟨dst, .slice t x lo hi mx, ty, pos, af, gd⟩).run call fr w k = true)
    (ht : TmpR β fr a ([x] ++ lo.toList ++ hi.toList ++ mx.toList)) : GivesF P β w a ⟨dst, .slice t x lo hi mx, ty, pos, af, gd⟩ cw k := by
  have h' := h
  simp only [compOp] at h'
  cases hd : P.underlying t with
  | none => rw [hd] at h'; cases h'
  | some d =>
    rw [hd] at h'
    cases d with
    | string =>
      cases mx with
      | none => exact op_sliceStr hd hr h (by simpa using ht)
      | some m => cases h'
    | slice e => exact op_sliceSl hd hr h ht
    | array n e => exact op_sliceArr hd hr h ht
    | pointer u =>
      cases hu : P.underlying u with
      | none => simp only [hu] at h'; cases h'
      | some d2 =>
        simp only [hu] at h'
        cases d2 with
        | array n e => exact op_slicePtr hd hu hr h ht
        | _ => cases h'
    | _ => cases h'
theorem opsOk : OpsOk P := by
  intro call o K β w cw fr a k hc hr h ht next Q hn
  obtain ⟨dst, op, ty, pos, af, gd⟩ := o
  cases op with
  | move x => exact ((op_move hr h ht).gives hr).wp hn
  | assign x => exact ((op_assign hr h ht).gives hr).wp hn
  | pick c x y => exact ((op_pick hr h ht).gives hr).wp hn
  | box t x => exact (op_box hr h ht).wp hn
  | alloc t => exact (op_alloc hr h).wp hn
  | load t x => exact ((op_load hr h ht).gives hr).wp hn
  | store t x y => exact (op_store hr h ht).wp hn
  | nilCheck x => exact ((op_nilCheck hr h ht).gives hr).wp hn
  | binOp o t x y u => exact ((op_binOp hr h ht).gives hr).wp hn
  | unOp o t x => exact ((op_unOp hr h ht).gives hr).wp hn
  | convert s d x =>
    cases hf : convF P s d with
    | true => exact ((op_convertF hf hr h ht).gives hr).wp hn
    | false => exact (op_convertS hf hr h ht).wp hn
  | makeInterface t x => exact ((op_makeInterface hr h ht).gives hr).wp hn
  | makeFunc fn l m =>
    cases fn with
    | func f => exact ((op_makeFunc hr ⟨f, rfl⟩ h ht).gives hr).wp hn
    | _ => cases h
  | makeMap t r => exact (op_makeMap hr h ht).wp hn
  | makeSlice t l c => exact (op_makeSlice hr h ht).wp hn
  | slice t x lo hi mx => exact ((op_slice hr h ht).gives hr).wp hn
  | build t ps => exact ((op_build hr h ht).gives hr).wp hn
  | buildSlice t n ps => exact (op_buildSlice hr h ht).wp hn
  | fieldAddr s x f => exact ((op_fieldAddr hr h ht).gives hr).wp hn
  | field t x f => exact ((op_field hr h ht).gives hr).wp hn
  | indexAddr t x i => exact ((op_indexAddr hr h ht).gives hr).wp hn
  | index t x i => exact ((op_index hr h ht).gives hr).wp hn
  | lookup t x i ok => exact ((op_lookup hr h ht).gives hr).wp hn
  | mapUpdate t m i x => exact (op_mapUpdate hr h ht).wp hn
  | insert t m i x => exact (op_insert hr h ht).wp hn
  | mapEntry t m i => exact (op_mapEntry hr h ht).wp hn
  | entryStore t m s x => exact (op_entryStore hr h ht).wp hn
  | entry x => exact (op_entry hr h ht).wp hn
  | range t x => exact (op_range hr h ht).wp hn
  | next x b =>
    cases b with
    | true => exact (op_nextS hr h ht).wp hn
    | false => exact (op_nextM hr h ht).wp hn
  | typeAssert x xt t ok => exact ((op_typeAssert hr h ht).gives hr).wp hn
  | extract x i => exact ((op_extract hr h ht).gives hr).wp hn
  | call c =>
    obtain ⟨callee, args, ats⟩ := c
    cases callee with
    | builtin b => exact (op_bi hr h ht).wp hn
    | value f =>
      cases f with
      | func f => exact op_callF hc hr h (ht.of_sub fun y hy => by simp [opL]; exact .inr (by simpa using hy)) hn
      | tmp t => exact op_callV hc hr h ht hn
      | const v => exact op_callV hc hr h ht hn
      | global g => exact op_callV hc hr h ht hn
    | invoke r m => cases h
  | _ => cases h
end Go.Ek
namespace Go.Ek
set_option linter.unusedVariables false
set_option linter.unusedSimpArgs false
theorem sameL_ok {eq : Value → Value → Bool} (h : ∀ x y, eq x y = true → x = y) : ∀ (l m : List Value), sameL eq l m = true → l = m
  | [], [], _ => rfl
  | x :: l, y :: m, hh => by
    simp only [sameL, Bool.and_eq_true] at hh
    rw [h x y hh.1, sameL_ok h l m hh.2]
  | [], _ :: _, hh => by cases hh
  | _ :: _, [], hh => by cases hh
theorem sameBytes_ok : ∀ (l m : List UInt8), sameBytes l m = true → l = m
  | [], [], _ => rfl
  | x :: l, y :: m, hh => by
    simp only [sameBytes, Bool.and_eq_true, beq_n, decide_eq_true_eq] at hh
    rw [UInt8.toNat_inj.1 hh.1, sameBytes_ok l m hh.2]
  | [], _ :: _, hh => by cases hh
  | _ :: _, [], hh => by cases hh
theorem sameA_ok {a b : Addr} (h : sameA a b = true) : a = b := by
  obtain ⟨x, o, s⟩ := a
  obtain ⟨y, p, t⟩ := b
  simp only [sameA, Bool.and_eq_true, beq_n, decide_eq_true_eq, Option.isNone_iff_eq_none] at h
  obtain ⟨⟨⟨rfl, rfl⟩, rfl⟩, rfl⟩ := h
  rfl
theorem arr_ext {a b : Array Value} (h : a.toList = b.toList) : a = b := Array.ext' h
theorem same1_ok : ∀ (f : Nat) (x y : Value), same1 f x y = true → x = y
  | 0, _, _, h => by cases h
  | f + 1, x, y, h => by
    have ih := same1_ok f
    have ihl := sameL_ok ih
    unfold same1 at h
    split at h <;> first | (cases h; done) | (split at h <;> first | (cases h; done) | skip)
    all_goals first
      | rfl
      | (rename_i a _ b; cases a <;> cases b <;> first | rfl | cases h)
      | (simp only [Bool.and_eq_true, beq_n, decide_eq_true_eq, eqI_eq, beq_iff_eq] at h; obtain ⟨h1, rfl⟩ := h; rw [kidx_inj h1])
      | (have := sameBytes_ok _ _ h; congr 1; exact ByteArray.ext (Array.ext' this))
      | (rw [sameA_ok h])
      | (simp only [Bool.and_eq_true, beq_n, decide_eq_true_eq] at h; obtain ⟨rfl, rfl⟩ := h; rfl)
      | (simp only [Bool.and_eq_true, beq_n, decide_eq_true_eq] at h; obtain ⟨h1, rfl, rfl⟩ := h; rw [sameA_ok h1])
      | (simp only [beq_n, decide_eq_true_eq] at h; rw [h])
      | (simp only [Bool.and_eq_true, beq_n, decide_eq_true_eq] at h; obtain ⟨rfl, h1, h2⟩ := h; rw [arr_ext (ihl _ _ h1), arr_ext (ihl _ _ h2)])
      | (simp only [Bool.and_eq_true, beq_n, decide_eq_true_eq] at h; obtain ⟨rfl, h1⟩ := h; rw [ih _ _ h1])
      | (rw [arr_ext (ihl _ _ h)])
end Go.Ek
