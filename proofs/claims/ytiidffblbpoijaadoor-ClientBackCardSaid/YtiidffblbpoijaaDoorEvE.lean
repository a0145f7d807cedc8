/-
  The evaluator: a program that runs the program's own code on values, and the proof that where it says yes the call goes as it says; part E of 5.
-/
import Derived.Test.YtiidffblbpoijaaDoorEvD
import Derived.MapKept
import Derived.Laws.AppendOwn
import Derived.Lib.SlKeysI
import Derived.Sort.KeysCollected
import Derived.Sort.EncStr
import Derived.Maps.Own
import Derived.Sort.Walk0
import Derived.Sort.OwnSorted
import Derived.WideShapes
import Derived.ChangeMaps5
import Derived.ProofKit
import Derived.Lib.Repeat
import Derived.Lib.TrimByte
import Derived.Lib.Bytealg
namespace Go.Ek
open Go.RowKit Go.MapKept
set_option linter.unusedVariables false
set_option linter.unusedSimpArgs false
variable {P : Program}
/-! ### Sorting -/
noncomputable def insK {α : Type} (le : α → α → Bool) (x : α) (l : List α) (k : List α → R) : R :=
  List.rec (motive := fun _ => (List α → R) → R) (fun k => k [x]) (fun y t ih k => cond (le x y) (k (x :: y :: t)) (ih fun r => k (y :: r))) l k
noncomputable def sortK {α : Type} (le : α → α → Bool) (l : List α) (k : List α → R) : R :=
  List.rec (motive := fun _ => (List α → R) → R) (fun k => k []) (fun x _ ih k => ih fun r => insK le x r k) l k
def insL {α : Type} (le : α → α → Bool) (x : α) : List α → List α
  | [] => [x]
  | y :: t => cond (le x y) (x :: y :: t) (y :: insL le x t)
def sortL {α : Type} (le : α → α → Bool) : List α → List α
  | [] => []
  | x :: l => insL le x (sortL le l)
theorem insK_eq {α : Type} (le : α → α → Bool) (x : α) : ∀ (l : List α) (k : List α → R), insK le x l k = k (insL le x l)
  | [], k => rfl
  | y :: t, k => by
    show cond (le x y) (k (x :: y :: t)) (insK le x t fun r => k (y :: r)) = _
    rw [insK_eq le x t]
    simp only [insL]
    cases le x y <;> rfl
theorem sortK_eq {α : Type} (le : α → α → Bool) : ∀ (l : List α) (k : List α → R), sortK le l k = k (sortL le l)
  | [], k => rfl
  | x :: l, k => by
    show sortK le l (fun r => insK le x r k) = _
    rw [sortK_eq le l, insK_eq]
    rfl
theorem insL_perm {α : Type} (le : α → α → Bool) (x : α) : ∀ (l : List α), (insL le x l).Perm (x :: l)
  | [] => .refl _
  | y :: t => by
    simp only [insL]
    cases le x y with
    | true => exact .refl _
    | false => exact ((insL_perm le x t).cons y).trans (.swap x y t)
theorem sortL_perm {α : Type} (le : α → α → Bool) : ∀ (l : List α), (sortL le l).Perm l
  | [] => .refl _
  | x :: l => (insL_perm le x _).trans ((sortL_perm le l).cons x)
/-- Rising from one to the next. -/
noncomputable def riseK {α : Type} (lt : α → α → Bool) (l : List α) (k : R) : R :=
  List.rec (motive := fun _ => R) k (fun x t ih => List.casesOn t ih fun y _ => cond (lt x y) ih false) l
theorem riseK_ok {α : Type} {lt : α → α → Bool} (tr : ∀ a b c, lt a b = true → lt b c = true → lt a c = true) {k : R} : ∀ (l : List α), riseK lt l k = true → l.Pairwise (fun a b => lt a b = true) ∧ k = true
  | [], h => ⟨.nil, h⟩
  | [x], h => ⟨List.pairwise_singleton _ _, h⟩
  | x :: y :: t, h => by
    have h : cond (lt x y) (riseK lt (y :: t) k) false = true := h
    cases hl : lt x y with
    | false => rw [hl] at h; cases h
    | true =>
      rw [hl] at h
      obtain ⟨h1, h2⟩ := riseK_ok tr (y :: t) h
      refine ⟨List.pairwise_cons.2 ⟨fun z hz => ?_, h1⟩, h2⟩
      rcases List.mem_cons.1 hz with rfl | hz
      · exact hl
      · exact tr _ _ _ hl ((List.pairwise_cons.1 h1).1 z hz)
/-! ### A map's keys -/
noncomputable def keysK {α : Type} (rd : Value → (α → R) → R) (es : List MapEntry) (k : List α → R) : R :=
  List.rec (motive := fun _ => (List α → R) → R) (fun k => k []) (fun e _ ih k => rd e.key fun x => ih fun r => k (x :: r)) es k
noncomputable def stampK (es : List MapEntry) (c : Nat) (k : R) : R :=
  List.rec (motive := fun _ => Nat → R) (fun lo => cond (Nat.ble lo c) k false) (fun e _ ih lo => cond (Nat.ble lo e.born) (ih (Nat.succ e.born)) false) es 0
theorem stamp_go {c : Nat} {k : R} : ∀ (es : List MapEntry) (lo : Nat), List.rec (motive := fun _ => Nat → R) (fun lo => cond (Nat.ble lo c) k false) (fun e _ ih lo => cond (Nat.ble lo e.born) (ih (Nat.succ e.born)) false) es lo = true →
    lo ≤ c ∧ (∀ e ∈ es, lo ≤ e.born ∧ e.born < c) ∧ (es.map (·.born)).Nodup ∧ k = true
  | [], lo, h => by
    have h : cond (Nat.ble lo c) k false = true := h
    rw [ble_n] at h
    by_cases hl : lo ≤ c
    · simp only [hl, decide_true, cond_true] at h
      exact ⟨hl, fun e he => (by cases he), .nil, h⟩
    · simp only [hl, decide_false, cond_false] at h
      cases h
  | e :: es, lo, h => by
    have h : cond (Nat.ble lo e.born) (List.rec (motive := fun _ => Nat → R) (fun lo => cond (Nat.ble lo c) k false) (fun e _ ih lo => cond (Nat.ble lo e.born) (ih (Nat.succ e.born)) false) es (Nat.succ e.born)) false = true := h
    rw [ble_n] at h
    by_cases hl : lo ≤ e.born
    · simp only [hl, decide_true, cond_true] at h
      obtain ⟨g1, g2, g3, g4⟩ := stamp_go es (Nat.succ e.born) h
      refine ⟨by omega, fun x hx => ?_, ?_, g4⟩
      · rcases List.mem_cons.1 hx with rfl | hx
        · exact ⟨hl, by omega⟩
        · have := g2 x hx
          exact ⟨by omega, this.2⟩
      · rw [List.map_cons, List.nodup_cons]
        refine ⟨fun hin => ?_, g3⟩
        obtain ⟨x, hx, hb⟩ := List.mem_map.1 hin
        have := g2 x hx
        omega
    · simp only [hl, decide_false, cond_false] at h
      cases h
/-- What the library's contract says of slices.Sorted at what maps.Keys hands back. -/
def SortsAt {α : Type} (P : Program) (f g kt : Nat) (enc : α → Value) (le : α → α → Bool) (wf : α → Prop) : Prop :=
  ∀ (W : World) (c : Nat) (mb : Option Nat) (xs : List α), W.cell? ⟨c, 0, none⟩ = some (.map mb) → c < W.heap.size →
    ((mb = none ∧ xs = []) ∨ ∃ (b : Nat) (es : Array MapEntry) (clock : Nat), mb = some b ∧ W.heap[b]? = some (.map es clock) ∧ Stamped es clock ∧ es.size ≤ 100000 ∧ es.toList.map (·.key) = xs.map enc ∧ ∀ x ∈ xs, wf x) →
    Calls P f #[.func (.func g) #[] #[.pointer (some ⟨c, 0, none⟩)]] W fun e w' => ∃ (v : Value) (ss : List α), e = .returned v ∧ ss.Perm xs ∧ w'.ownsRow W.heap.size kt 1 v ss.length ((ss.mergeSort le).map enc) ∧ (v = .slice none 0 0 ↔ ss = []) ∧ Below W.heap.size W w'
noncomputable def sortedB {α : Type} (rd : Value → (α → R) → R) (enc : α → Value) (le lt : α → α → Bool) (kt : Nat) (mv : Value) (w : AW) (k : Value → AW → R) : R :=
  match mv with
  | .map none => k (.slice none 0 0) w
  | .map (some r) => w.get r fun o => match o with
    | .map es c => stampK es c (keysK rd es fun zs => sortK le zs fun ss => riseK lt ss (lenK ss fun n => cond (Nat.ble n 100000) (List.casesOn ss (k (.slice none 0 0) w) fun _ _ => mapK enc ss fun vs => w.new (.cells vs kt 0 0) fun b w => k (.slice (some ⟨b, 0, none⟩) n (Nat.add n big)) w) false))
    | _ => false
  | _ => false
noncomputable def hSorted {α : Type} (rd : Value → (α → R) → R) (enc : α → Value) (le lt : α → α → Bool) (gs : Nat → Bool) (kt : Nat) (args : List Value) (w : AW) (k : Value → AW → R) : R :=
  match args with
  | [.func (.func h) first cap] => cond (gs h) (match first.toList with
    | [] => (match cap.toList with
      | [x] => ptrK x fun a => cond (Nat.beq a.off 0) (load1 w a fun mv => sortedB rd enc le lt kt mv w k) false
      | _ => false)
    | _ => false) false
  | _ => false
theorem Rel.below {K : Keep P} {β : Ren} {w : AW} {cw cw' : World} (h : Rel K β w cw) (hb : Below cw.heap.size cw cw') : Rel K β w cw' := by
  have hlt : ∀ c co', cw.heap[c]? = some co' → cw'.heap[c]? = some co' := fun c co' hc => by
    rw [hb.block c (Array.getElem?_eq_some_iff.1 hc).1]
    exact hc
  refine ⟨hb.tape.trans h.tape, hb.os.trans h.os, hb.output.trans h.output, fun c o ho => hlt c o (h.keep c o ho), ?_, h.inj, h.fresh, h.glob, ?_, h.res⟩
  · intro n o hn ha
    obtain ⟨c, co, h1, h2, h3⟩ := h.obj n o hn ha
    exact ⟨c, co, h1, hlt c co h2, h3⟩
  · intro n vs e lo hi c C e' f hn hc hcc
    obtain ⟨c2, co, h1, h2, _⟩ := h.obj n _ hn rfl
    obtain rfl := Option.some.inj (hc.symm.trans h1)
    have := hlt _ _ h2
    rw [hcc] at this
    obtain rfl := Option.some.inj this
    exact h.room n vs e lo hi c C e' f hn hc h2
theorem keysK_ok {α : Type} {rd : Value → (α → R) → R} {enc : α → Value} {wf : α → Prop} {β : Ren} (hrd : ∀ (v : Value) (k : α → R), rd v k = true → ∃ x, k x = true ∧ v = enc x ∧ wf x) (henc : ∀ x cv, VR β (enc x) cv → cv = enc x) :
    ∀ {es fs : List MapEntry} {k : List α → R}, ER β es fs → keysK rd es k = true → ∃ xs, k xs = true ∧ fs.map (·.key) = xs.map enc ∧ ∀ x ∈ xs, wf x
  | _, _, k, .nil, h => ⟨[], h, rfl, fun x hx => by cases hx⟩
  | _, _, k, .cons (e := e) (f := f) (es := es) (fs := fs) h1 h2 h3 h4, h => by
    have h : rd e.key (fun x => keysK rd es fun r => k (x :: r)) = true := h
    obtain ⟨x, g1, g2, g3⟩ := hrd _ _ h
    obtain ⟨xs, g4, g5, g6⟩ := keysK_ok hrd henc h4 g1
    refine ⟨x :: xs, g4, ?_, fun y hy => ?_⟩
    · rw [List.map_cons, List.map_cons, g5, henc x f.key (g2 ▸ h1)]
    · rcases List.mem_cons.1 hy with rfl | hy
      · exact g3
      · exact g6 y hy
theorem ER.borns {β : Ren} {a b : List MapEntry} (h : ER β a b) : a.map (·.born) = b.map (·.born) := by
  induction h with
  | nil => rfl
  | cons _ _ h3 _ ih => simp [h3, ih]
theorem hSorted_ok {α : Type} {rd : Value → (α → R) → R} {enc : α → Value} {le lt : α → α → Bool} {wf : α → Prop} {f kt : Nat} {gs : Nat → Bool} {fn : Func} (hf : P.funcs[f]? = some fn) (hb : fn.body.isSome = true) (hn : (fn.name == "runtime.NumGoroutine") = false)
    (hCs : ∀ g, gs g = true → SortsAt P f g kt enc le wf) (hce : P.cellsOf kt = 1)
    (hrd : ∀ (v : Value) (k : α → R), rd v k = true → ∃ x, k x = true ∧ v = enc x ∧ wf x) (henc : ∀ (β : Ren) x cv, VR β (enc x) cv → cv = enc x) (hvr : ∀ (β : Ren) x, VR β (enc x) (enc x)) (hinj : ∀ x y, enc x = enc y → x = y)
    (ltr : ∀ a b c, lt a b = true → lt b c = true → lt a c = true) (lirr : ∀ a, lt a a = false) (ltle : ∀ a b, lt a b = true → le a b = true)
    (letr : ∀ a b c, le a b = true → le b c = true → le a c = true) (leto : ∀ a b, (le a b || le b a) = true) (leas : ∀ a b, le a b = true → le b a = true → a = b) :
    HookAt P f (hSorted rd enc le lt gs kt) := by
  intro args w k h K β cargs cw R hr hv hk
  unfold hSorted at h
  split at h
  · rename_i hh first cap
    obtain ⟨cx, rfl, hx⟩ := cargs_one hv
    cases hg : gs hh with
    | false => rw [hg] at h; cases h
    | true =>
      rw [hg, cond_true] at h
      have hC := hCs hh hg
      cases hx with
      | func f' i1 i2 _ =>
        rename_i b1 d1 _
        cases hfl : first.toList with
        | cons x l => rw [hfl] at h; cases h
        | nil =>
          rw [hfl] at h i1
          have hb1 : b1 = #[] := by
            cases hb : b1.toList with
            | nil => exact Array.ext' hb
            | cons y l => rw [hb] at i1; cases i1
          subst hb1
          cases hcl : cap.toList with
          | nil => rw [hcl] at h; cases h
          | cons x l =>
            cases l with
            | cons y l => rw [hcl] at h; cases h
            | nil =>
              rw [hcl] at h i2
              obtain ⟨cx, rfl, hx⟩ := cargs_one i2
              simp only at h
              obtain ⟨b, c, o, h1, h2, h3⟩ := ptrK_ok h hx
              subst h3
              simp only [beq_n] at h1
              by_cases ho : o = 0
              · subst ho
                simp only [decide_true, cond_true] at h1
                obtain ⟨mv, cmv, h4, h5, h6⟩ := load1_ok hr h1 h2
                have hcs : c < cw.heap.size := by
                  rcases Nat.lt_or_ge c cw.heap.size with hh | hh
                  · exact hh
                  · simp [World.cell?, Array.getElem?_eq_none hh] at h6
                have nil_case : ∀ (xs : List α), xs = [] → k (.slice none 0 0) w = true → (∀ (mb : Option Nat), cmv = .map mb → ((mb = none ∧ xs = []) ∨ ∃ (b : Nat) (es : Array MapEntry) (clock : Nat), mb = some b ∧ cw.heap[b]? = some (.map es clock) ∧ Stamped es clock ∧ es.size ≤ 100000 ∧ es.toList.map (·.key) = xs.map enc ∧ ∀ x ∈ xs, wf x) →
                    Went P f #[.func (.func hh) #[] #[.pointer (some ⟨c, 0, none⟩)]] cw R) := by
                  intro xs hxs hkk mb hmb hcase
                  subst hmb
                  refine .inl ⟨⟨fn, hf, hb, hn⟩, (hC cw c mb xs h6 hcs hcase).mono ?_⟩
                  rintro e w' ⟨v, ss, rfl, hp, hrow, hnil, hbel⟩
                  subst hxs
                  have hss : ss = [] := List.Perm.eq_nil hp
                  have hvn := hnil.2 hss
                  subst hvn
                  exact ⟨_, rfl, hk _ w β _ w' (Le.refl β) (hr.below hbel) (.sliceN 0 big_pos .nil) hkk⟩
                unfold sortedB at h4
                split at h4
                · cases h5 with
                  | mapN _ => exact nil_case [] rfl h4 none rfl (.inl ⟨rfl, rfl⟩)
                · rename_i r
                  cases h5 with
                  | map hbr _ =>
                    rename_i cr _
                    obtain ⟨om, z1, z2⟩ := aw_get h4
                    cases om with
                    | map es cl =>
                      obtain ⟨cm', com, u1, u2, u3, _⟩ := hr.obj r _ z1 rfl
                      obtain rfl := Option.some.inj (hbr.symm.trans u1)
                      cases com with
                      | map fs d =>
                        obtain ⟨rfl, u4⟩ := u3
                        simp only at z2
                        obtain ⟨s1, s2, s3, s4⟩ := stamp_go es 0 z2
                        obtain ⟨xs, k1, k2, k3⟩ := keysK_ok hrd (henc β) u4 s4
                        rw [sortK_eq] at k1
                        obtain ⟨r1, r2⟩ := riseK_ok ltr _ k1
                        rw [lenK_eq, ble_n] at r2
                        by_cases hle : (sortL le xs).length ≤ 100000
                        · simp only [hle, decide_true, cond_true] at r2
                          have hperm := sortL_perm le xs
                          have hnd : xs.Nodup := hperm.nodup_iff.1 (r1.imp fun {a b} hab e => by rw [e, lirr] at hab; cases hab)
                          have hlen : fs.size = xs.length := by
                            have := congrArg List.length k2
                            simpa using this
                          have hst : Stamped fs d := by
                            refine (stamped_iff fs d).2 ⟨fun x hx => ?_, by rw [← u4.borns]; exact s3, ?_⟩
                            · have hin : x.born ∈ fs.toList.map (·.born) := List.mem_map.2 ⟨x, hx, rfl⟩
                              rw [← u4.borns] at hin
                              obtain ⟨y, hy, hye⟩ := List.mem_map.1 hin
                              rw [← hye]
                              exact (s2 y hy).2
                            · have hkn : (fs.toList.map (·.key)).Pairwise (· ≠ ·) := by
                                rw [k2, List.pairwise_map]
                                exact hnd.imp fun {a b} hab e => hab (hinj a b e)
                              exact List.pairwise_map.1 hkn
                          have hcase : ∃ (b : Nat) (es : Array MapEntry) (clock : Nat), (some cr : Option Nat) = some b ∧ cw.heap[b]? = some (.map es clock) ∧ Stamped es clock ∧ es.size ≤ 100000 ∧ es.toList.map (·.key) = xs.map enc ∧ ∀ x ∈ xs, wf x :=
                            ⟨cr, fs, d, rfl, u2, hst, by rw [hlen, ← hperm.length_eq]; exact hle, k2, k3⟩
                          cases hsl : sortL le xs with
                          | nil =>
                            rw [hsl] at r2 hperm
                            exact nil_case xs (List.Perm.eq_nil hperm.symm) r2 _ rfl (.inr hcase)
                          | cons y ys =>
                            rw [hsl] at r2
                            have r2 : mapK enc (y :: ys) (fun vs => w.new (.cells vs kt 0 0) fun b w => k (.slice (some ⟨b, 0, none⟩) (y :: ys).length (Nat.add (y :: ys).length big)) w) = true := r2
                            rw [mapK_eq] at r2
                            refine .inl ⟨⟨fn, hf, hb, hn⟩, (hC cw c _ xs h6 hcs (.inr hcase)).mono ?_⟩
                            rintro e w' ⟨v, ss, rfl, hp, hrow, hnil, hbel⟩
                            have hms : ss.mergeSort le = y :: ys := by
                              rw [← hsl]
                              have hso : (sortL le xs).Pairwise (fun a b => le a b = true) := r1.imp fun {a b} hab => ltle a b hab
                              exact List.Perm.eq_of_pairwise (le := fun a b => le a b = true) (fun a b _ _ h1 h2 => leas a b h1 h2) (List.pairwise_mergeSort letr leto ss) hso (((List.mergeSort_perm ss le).trans hp).trans (sortL_perm le xs).symm)
                            have hsslen : ss.length = (y :: ys).length := by rw [← hms, List.length_mergeSort]
                            rw [hms, hsslen] at hrow
                            rcases hrow.2 with ⟨_, hz⟩ | ⟨gb, cap', cur, rfl, hbase, hgb, q1, q2, q3, q4⟩
                            · simp at hz
                            · have hr2 := hr.below hbel
                              obtain ⟨w1, p1, p2, p3⟩ := aw_new r2
                              have hkb : K.blk gb = none := by
                                cases hkb : K.blk gb with
                                | none => rfl
                                | some bb =>
                                  have := (Array.getElem?_eq_some_iff.1 (hr.keep gb bb hkb)).1
                                  omega
                              have hfree : ∀ m a, w.h.get (m + 1) = some a → a.alive = true → β m ≠ some gb := by
                                intro m a hm ha hbm
                                obtain ⟨c2, co2, t1, t2, _⟩ := hr.obj m a hm ha
                                obtain rfl := Option.some.inj (hbm.symm.trans t1)
                                have := (Array.getElem?_eq_some_iff.1 t2).1
                                omega
                              have hcell : CellsR β ((y :: ys).map enc) cur := by
                                intro i u hi
                                have hil : i < ((y :: ys).map enc).length := (List.getElem?_eq_some_iff.1 hi).1
                                rw [List.length_map] at hil
                                rw [Nat.mul_one] at q4
                                have : (cur.toList.take (y :: ys).length)[i]? = some u := by rw [q4]; exact hi
                                rw [List.getElem?_take_of_lt hil, Array.getElem?_toList] at this
                                refine ⟨u, this, ?_⟩
                                rw [List.getElem?_map] at hi
                                obtain ⟨z, _, rfl⟩ := Option.map_eq_some_iff.1 hi
                                exact hvr β z
                              obtain ⟨n1, n2⟩ := hr2.name (o := .cells ((y :: ys).map enc) kt 0 0) (co := .cells cur kt (0, 0)) (c := gb) (cw' := w') rfl rfl p2 p3 hgb (fun _ _ => rfl) rfl rfl rfl ⟨rfl, hcell, fz0⟩ hkb hfree cap' (fun vs e lo hi C e' f' e1 e2 => by
                                cases e1
                                cases e2
                                rw [hce, q3]
                                exact Nat.le_refl _)
                              refine ⟨_, rfl, hk _ w1 _ _ w' n1 n2 (.slice 0 _ (if_pos rfl) ?_ ?_ .nil) p1⟩
                              · unfold CapR
                                have e1 : Nat.add (y :: ys).length big = (y :: ys).length + big := rfl
                                rw [e1, if_pos (by omega)]
                                omega
                              · intro _ _
                                show cap' ≤ (if w.nx = w.nx then cap' else β.rm w.nx)
                                rw [if_pos rfl]
                                exact Nat.le_refl _
                        · simp only [hle, decide_false, cond_false] at r2
                          cases r2
                      | _ => exact u3.elim
                    | _ => cases z2
                · cases h4
              · simp only [ho, decide_false, cond_false] at h1
                cases h1
  · cases h
end Go.Ek
namespace Go.Ek
open Go.RowKit Go.MapKept Go.Maps Go.Sort Go.ChangeMaps Go.Proofs Go.WideMaps
open Go.WideElems (Fit rd rg pl rd_mk rg_of)
open Go.WideShapes (sorted_perm)
set_option linter.unusedVariables false
set_option linter.unusedSimpArgs false
variable {P : Program}
theorem rdFit {α : Type} {kt : TypeId} {enc : α → Value} {lit : α → Lit} {wf : α → Prop} (hkey : ∀ x, wf x → keyOf P kt (enc x) = some (lit x)) {es : Array MapEntry} {clock : Nat} {xs : List α} (hst : Stamped es clock) (hsz : es.size ≤ 100000) (hk : es.toList.map (·.key) = xs.map enc) (hwf : ∀ x ∈ xs, wf x) :
    Fit (H := Unit) P kt (fun _ => some (.nil, [])) es clock ∧ (es.toList.map (rg (H := Unit) P kt fun _ => some (.nil, []))).map (·.1) = xs.map lit := by
  have key : ∀ x ∈ es.toList, ∃ a ∈ xs, x.key = enc a := by
    intro x hx
    have h1 : x.key ∈ es.toList.map (·.key) := List.mem_map.2 ⟨x, hx, rfl⟩
    rw [hk] at h1
    obtain ⟨a, ha, he⟩ := List.mem_map.1 h1
    exact ⟨a, ha, he.symm⟩
  refine ⟨⟨Nat.le_trans hsz (by decide), hst, fun x hx => ?_⟩, ?_⟩
  · obtain ⟨a, ha, he⟩ := key x hx
    exact ⟨_, rd_mk (born := x.born) (by rw [he]; exact hkey a (hwf a ha)) rfl⟩
  · have go : ∀ (l : List MapEntry) (xs : List α), l.map (·.key) = xs.map enc → (∀ x ∈ xs, wf x) → (l.map (rg (H := Unit) P kt fun _ => some (.nil, []))).map (·.1) = xs.map lit := by
      intro l
      induction l with
      | nil =>
        intro xs h _
        cases xs with
        | nil => rfl
        | cons y ys => cases h
      | cons e l ih =>
        intro xs h hw
        cases xs with
        | nil => cases h
        | cons y ys =>
          simp only [List.map_cons, List.cons.injEq] at h
          have h1 : rd (H := Unit) P kt (fun _ => some (.nil, [])) e = some (lit y, .nil) := rd_mk (R := fun _ => some (.nil, [])) (yv := (.nil, [])) (key := e.key) (val := e.val) (born := e.born) (by rw [h.1]; exact hkey y (hw y (List.mem_cons_self ..))) rfl
          rw [List.map_cons, List.map_cons, List.map_cons, rg_of h1, ih ys h.2 fun x hx => hw x (List.mem_cons_of_mem _ hx)]
    exact go _ _ hk hwf
theorem ownsAny {α : Type} {kt : TypeId} {enc : α → Value} {lit : α → Lit} {wf : α → Prop} (hkey : ∀ x, wf x → keyOf P kt (enc x) = some (lit x)) {W : World} {b : Nat} {es : Array MapEntry} {clock : Nat} {xs : List α} (hb : W.heap[b]? = some (.map es clock))
    (hst : Stamped es clock) (hsz : es.size ≤ 100000) (hk : es.toList.map (·.key) = xs.map enc) (hwf : ∀ x ∈ xs, wf x) :
    ∃ D : List (Lit × DataW Unit), W.ownsMap P kt (fun _ => some (.nil, [])) b 100000 (.map D) ∧ D.length ≤ 100000 ∧ (D.map (·.1)).Perm (xs.map lit) := by
  obtain ⟨h1, h2⟩ := rdFit hkey hst hsz hk hwf
  refine ⟨_, ⟨es, clock, hb, h1, hsz, rfl⟩, ?_, ?_⟩
  · rw [(sorted_perm _).length_eq, List.length_map, Array.length_toList]
    exact hsz
  · rw [← h2]
    exact (sorted_perm _).map _
theorem ownsI {kt : TypeId} (ht : P.underlying kt = some (.int .i64)) {W : World} {b : Nat} {es : Array MapEntry} {clock : Nat} {xs : List Int} (hb : W.heap[b]? = some (.map es clock)) (hst : Stamped es clock) (hsz : es.size ≤ 100000) (hk : es.toList.map (·.key) = xs.map (Value.int .i64)) (hwf : ∀ x ∈ xs, (Lit.int .i64 x).wf = true) :
    ∃ D0 : DataW Unit, W.ownsMap P kt (fun _ => some (.nil, [])) b 100000 D0 ∧ Maps.size D0 ≤ 100000 ∧ (intKeys D0).Perm xs := by
  obtain ⟨D, h1, h2, h3⟩ := ownsAny (lit := fun x => Lit.int .i64 x) (wf := fun x => (Lit.int .i64 x).wf = true) (kt := kt) (P := P) (fun x hx => keyOf_int_mk ht hx) hb hst hsz hk hwf
  refine ⟨.map D, h1, h2, ?_⟩
  have := h3.map intOf
  simpa [intKeys, List.map_map, Function.comp_def, intOf] using this
theorem ownsS {kt : TypeId} (ht : P.underlying kt = some .string) {W : World} {b : Nat} {es : Array MapEntry} {clock : Nat} {xs : List (List UInt8)} (hb : W.heap[b]? = some (.map es clock)) (hst : Stamped es clock) (hsz : es.size ≤ 100000) (hk : es.toList.map (·.key) = xs.map encStr) (hwf : ∀ x ∈ xs, x.length ≤ maxLen) :
    ∃ D0 : DataW Unit, W.ownsMap P kt (fun _ => some (.nil, [])) b 100000 D0 ∧ Maps.size D0 ≤ 100000 ∧ (strKeys D0).Perm xs := by
  obtain ⟨D, h1, h2, h3⟩ := ownsAny (lit := fun x => Lit.string x) (wf := fun x : List UInt8 => x.length ≤ maxLen) (kt := kt) (P := P) (fun x hx => keyOf_string_mk ht (s := ⟨x.toArray⟩) (by simpa [ByteArray.size] using hx)) hb hst hsz hk hwf
  refine ⟨.map D, h1, h2, ?_⟩
  have := h3.map strOf
  simpa [strKeys, List.map_map, Function.comp_def, strOf] using this
/-! ### Numbers, texts -/
def rdI (v : Value) (k : Int → R) : R := match v with
  | .int .i64 n => cond (match n with | .ofNat m => Nat.blt m 9223372036854775808 | .negSucc m => Nat.blt m 9223372036854775808) (k n) false
  | _ => false
def leI' (x y : Int) : Bool := not (ltI y x)
theorem rdI_ok (v : Value) (k : Int → R) (h : rdI v k = true) : ∃ x, k x = true ∧ v = Value.int .i64 x ∧ (Lit.int .i64 x).wf = true := by
  unfold rdI at h
  split at h
  · rename_i n
    cases n with
    | ofNat m =>
      simp only [blt_n] at h
      by_cases hm : m < 9223372036854775808
      · simp only [hm, decide_true, cond_true] at h
        refine ⟨_, h, rfl, ?_⟩
        simp only [Lit.wf, IntKind.min, IntKind.max, IntKind.signed, IntKind.bits]
        simp
        omega
      · simp only [hm, decide_false, cond_false] at h
        cases h
    | negSucc m =>
      simp only [blt_n] at h
      by_cases hm : m < 9223372036854775808
      · simp only [hm, decide_true, cond_true] at h
        refine ⟨_, h, rfl, ?_⟩
        simp only [Lit.wf, IntKind.min, IntKind.max, IntKind.signed, IntKind.bits]
        simp
        omega
      · simp only [hm, decide_false, cond_false] at h
        cases h
  · cases h
theorem hSortI_ok {f kt : Nat} {gs : Nat → Bool} {fn : Func} (hf : P.funcs[f]? = some fn) (hb : fn.body.isSome = true) (hn : (fn.name == "runtime.NumGoroutine") = false) (hC : ∀ g, gs g = true → SortsAt P f g kt (Value.int .i64) (fun x y => decide (x ≤ y)) (fun x => (Lit.int .i64 x).wf = true)) (hce : P.cellsOf kt = 1) :
    HookAt P f (hSorted rdI (Value.int .i64) leI' ltI gs kt) := by
  have e : leI' = fun x y => decide (x ≤ y) := by
    funext x y
    unfold leI'
    rw [ltI_eq]
    by_cases h : x ≤ y
    · have : ¬ y < x := by omega
      simp [h, this]
    · have : y < x := by omega
      simp [h, this]
  rw [e]
  refine hSorted_ok hf hb hn hC hce rdI_ok ?_ (fun β x => .int .i64 x .nil) (fun x y h => by cases h; rfl) ?_ ?_ ?_ ?_ ?_ ?_
  · intro β x cv hv
    cases hv
    rfl
  · intro a b c h1 h2
    rw [ltI_eq, decide_eq_true_eq] at *
    omega
  · intro a
    rw [ltI_eq]
    simp
  · intro a b h
    rw [ltI_eq, decide_eq_true_eq] at h
    simp only [decide_eq_true_eq]
    omega
  · intro a b c h1 h2
    simp only [decide_eq_true_eq] at *
    omega
  · intro a b
    simp only [Bool.or_eq_true, decide_eq_true_eq]
    omega
  · intro a b h1 h2
    simp only [decide_eq_true_eq] at *
    omega
/-! ### Many numbers, one by one -/
noncomputable def allN (f : Nat → R) (b n : Nat) : R := Nat.rec (motive := fun _ => R) true (fun c ih => cond (natK (Nat.add b c) f) ih false) n
theorem allN_ok {f : Nat → R} {b : Nat} : ∀ (n : Nat), allN f b n = true → ∀ i, b ≤ i → i < b + n → f i = true
  | 0, _, i, h1, h2 => by omega
  | n + 1, h, i, h1, h2 => by
    have h : cond (natK (Nat.add b n) f) (allN f b n) false = true := h
    rw [natK_eq] at h
    cases hf : f (Nat.add b n) with
    | false => rw [hf] at h; cases h
    | true =>
      rw [hf, cond_true] at h
      by_cases e : i = b + n
      · subst e
        exact hf
      · exact allN_ok n h i h1 (by omega)
theorem u8_nat {a : Int} (h : (Lit.int .u8 a).wf = true) : ∃ n, n < 256 ∧ a = Int.ofNat n := by
  simp only [Lit.wf, IntKind.min, IntKind.max, IntKind.signed, IntKind.bits] at h
  simp at h
  obtain ⟨n, rfl⟩ := Int.eq_ofNat_of_zero_le h.1
  exact ⟨n, by omega, rfl⟩
end Go.Ek
namespace Go.Ek
open Go.RowKit Go.MapKept Go.Maps Go.Sort Go.Proofs
set_option linter.unusedVariables false
set_option linter.unusedSimpArgs false
variable {P : Program}
/-! ### Texts as keys -/
def rdT (v : Value) (k : List UInt8 → R) : R := match v with
  | .string s => cond (Nat.ble s.data.toList.length 1000000) (k s.data.toList) false
  | _ => false
def leT (x y : List UInt8) : Bool := not (Op.bytesLess y x)
theorem rdT_ok (v : Value) (k : List UInt8 → R) (h : rdT v k = true) : ∃ x, k x = true ∧ v = encStr x ∧ x.length ≤ maxLen := by
  unfold rdT at h
  split at h
  · rename_i s
    rw [ble_n] at h
    by_cases hl : s.data.toList.length ≤ 1000000
    · simp only [hl, decide_true, cond_true] at h
      exact ⟨_, h, rfl, Nat.le_trans hl (by decide)⟩
    · simp only [hl, decide_false, cond_false] at h
      cases h
  · cases h
theorem hSortT_ok {f kt : Nat} {gs : Nat → Bool} {fn : Func} (hf : P.funcs[f]? = some fn) (hb : fn.body.isSome = true) (hn : (fn.name == "runtime.NumGoroutine") = false) (hC : ∀ g, gs g = true → SortsAt P f g kt encStr (fun x y => decide (x ≤ y)) (fun x : List UInt8 => x.length ≤ maxLen)) (hce : P.cellsOf kt = 1) :
    HookAt P f (hSorted rdT encStr leT Op.bytesLess gs kt) := by
  have lt_eq : ∀ x y : List UInt8, Op.bytesLess x y = decide (x < y) := bytesLess_eq
  have e : leT = fun x y => decide (x ≤ y) := by
    funext x y
    unfold leT
    rw [lt_eq]
    by_cases h : y < x
    · have : ¬ x ≤ y := fun h2 => h2 h
      simp [h, this]
    · have : x ≤ y := h
      simp [h, this]
  rw [e]
  refine hSorted_ok hf hb hn hC hce rdT_ok ?_ (fun β x => .string _ .nil) (fun x y h => encStr_inj h) ?_ ?_ ?_ ?_ ?_ ?_
  · intro β x cv hv
    cases hv
    rfl
  · intro a b c h1 h2
    rw [lt_eq, decide_eq_true_eq] at *
    exact List.lt_trans h1 h2
  · intro a
    rw [lt_eq, decide_eq_false_iff_not]
    exact List.lt_irrefl a
  · intro a b h
    rw [lt_eq, decide_eq_true_eq] at h
    simp only [decide_eq_true_eq]
    exact List.le_of_lt h
  · intro a b c h1 h2
    simp only [decide_eq_true_eq] at *
    exact List.le_trans h1 h2
  · intro a b
    simp only [Bool.or_eq_true, decide_eq_true_eq]
    exact List.le_total a b
  · intro a b h1 h2
    simp only [decide_eq_true_eq] at *
    exact List.le_antisymm h1 h2
end Go.Ek
namespace Go.Ek
open Go.RowKit
set_option linter.unusedVariables false
set_option linter.unusedSimpArgs false
variable {P : Program}
/-! ### Arguments of which nothing is known -/
def anyCell (P : Program) (u : TypeId) : Option Value := match P.underlying u with
  | some (.int k) => some (anyI k)
  | some .bool => some anyB
  | some .string => some anyS
  | _ => none
def anyCells (P : Program) : List TypeId → Option (List Value)
  | [] => some []
  | u :: r => match anyCell P u, anyCells P r with
    | some v, some l => some (v :: l)
    | _, _ => none
def anyArg (P : Program) (t : TypeId) : Option Value := match P.underlying t with
  | some (.struct _) => (match P.cellTypes P.depth t with
    | some ts => cond (Nat.beq ts.length (P.cellsOf t)) ((anyCells P ts).map fun l => .agg ⟨l⟩) none
    | none => none)
  | _ => anyCell P t
def anyArgs (P : Program) : List TypeId → Option (List Value)
  | [] => some []
  | u :: r => match anyArg P u, anyArgs P r with
    | some v, some l => some (v :: l)
    | _, _ => none
theorem anyCell_ok {W : World} {r : Reach} {base u : Nat} {v av : Value} {β : Ren} (h : anyCell P u = some av) (hv : Cell.okWide P W r base u v) : VR β av v := by
  unfold anyCell at h
  cases hd : P.underlying u with
  | none => rw [hd] at h; cases h
  | some d =>
    rw [hd] at h
    have hw : (∀ fs, d ≠ .struct fs) → (∀ n e, d ≠ .array n e) → Value.okWide P W r base u v := by
      intro h1 h2
      unfold Value.okWide
      rw [hd]
      cases d <;> first | exact hv | exact absurd rfl (h1 _) | exact absurd rfl (h2 _ _)
    cases d with
    | int k =>
      cases h
      obtain ⟨n, rfl⟩ := Go.WideShapes.okWide_int hd (hw (by simp) (by simp))
      exact .anyInt k n .nil
    | bool =>
      cases h
      obtain ⟨b, rfl⟩ := Go.WideShapes.okWide_bool hd (hw (by simp) (by simp))
      exact .anyBool b .nil
    | string =>
      cases h
      obtain ⟨s, rfl⟩ := Go.WideShapes.okWide_string hd (hw (by simp) (by simp))
      exact .anyStr s .nil
    | _ => cases h
theorem anyCells_ok {W : World} {r : Reach} {base : Nat} {β : Ren} : ∀ {ts : List TypeId} {l vs : List Value}, anyCells P ts = some l → vs.length = ts.length → (∀ (i : Nat) (u : TypeId) (v : Value), ts[i]? = some u → vs[i]? = some v → Cell.okWide P W r base u v) → VRs β l vs
  | [], l, vs, h, hl, _ => by
    cases h
    cases vs with
    | nil => exact .nil
    | cons v vs => cases hl
  | u :: ts, l, vs, h, hl, hv => by
    simp only [anyCells] at h
    cases h1 : anyCell P u with
    | none => rw [h1] at h; cases h
    | some a =>
      cases h2 : anyCells P ts with
      | none => rw [h1, h2] at h; cases h
      | some l2 =>
        rw [h1, h2] at h
        obtain rfl := Option.some.inj h
        cases vs with
        | nil => cases hl
        | cons v vs => exact .cons (anyCell_ok h1 (hv 0 u v rfl rfl)) (anyCells_ok h2 (by simpa using hl) fun i u v hu hi => hv (i + 1) u v (by simpa using hu) (by simpa using hi))
theorem anyArg_ok {W : World} {r : Reach} {base t : Nat} {v av : Value} {β : Ren} (h : anyArg P t = some av) (hv : Value.okWide P W r base t v) : VR β av v := by
  unfold anyArg at h
  unfold Value.okWide at hv
  cases hd : P.underlying t with
  | none => rw [hd] at h; unfold anyCell at h; rw [hd] at h; cases h
  | some d =>
    rw [hd] at h hv
    cases d with
    | struct fs =>
      obtain ⟨cs, rfl, h1, ts, h2, _, h3⟩ := hv
      simp only [h2] at h
      cases hb : Nat.beq ts.length (P.cellsOf t) with
      | false => rw [hb] at h; cases h
      | true =>
        rw [hb, cond_true] at h
        rw [beq_n, decide_eq_true_eq] at hb
        obtain ⟨l, h4, rfl⟩ := Option.map_eq_some_iff.1 h
        refine .agg (anyCells_ok (W := W) (r := r) (base := base) h4 (by rw [Array.length_toList]; omega) fun i u v hu hi => ?_) .nil
        rw [Array.getElem?_toList] at hi
        obtain ⟨u2, h5, h6⟩ := h3 i v hi
        have hlt := (List.getElem?_eq_some_iff.1 hu).1
        rw [Nat.mod_eq_of_lt hlt, hu] at h5
        obtain rfl := Option.some.inj h5
        exact h6
    | array n e => unfold anyCell at h; rw [hd] at h; cases h
    | _ => exact anyCell_ok h hv
theorem anyArgs_ok {W : World} {r : Reach} {base : Nat} {β : Ren} : ∀ {ts : List TypeId} {l vs : List Value}, anyArgs P ts = some l → vs.length = ts.length → (∀ (i : Nat) (u : TypeId) (v : Value), ts[i]? = some u → vs[i]? = some v → Value.okWide P W r base u v) → VRs β l vs
  | [], l, vs, h, hl, _ => by
    cases h
    cases vs with
    | nil => exact .nil
    | cons v vs => cases hl
  | u :: ts, l, vs, h, hl, hv => by
    simp only [anyArgs] at h
    cases h1 : anyArg P u with
    | none => rw [h1] at h; cases h
    | some a =>
      cases h2 : anyArgs P ts with
      | none => rw [h1, h2] at h; cases h
      | some l2 =>
        rw [h1, h2] at h
        obtain rfl := Option.some.inj h
        cases vs with
        | nil => cases hl
        | cons v vs => exact .cons (anyArg_ok h1 (hv 0 u v rfl rfl)) (anyArgs_ok h2 (by simpa using hl) fun i u v hu hi => hv (i + 1) u v (by simpa using hu) (by simpa using hi))
/-- The first argument is an int, of which cases are made. -/
theorem anyArgs_first {W : World} {r : Reach} {base : Nat} {t : TypeId} {ts : List TypeId} {l vs : List Value} (ht : P.underlying t = some (.int .i64)) (h : anyArgs P ts = some l) (hl : vs.length = ts.length + 1)
    (hv : ∀ (i : Nat) (u : TypeId) (v : Value), (t :: ts)[i]? = some u → vs[i]? = some v → Value.okWide P W r base u v) : ∃ n : Int, ∀ (β : Ren) (a : Value), VR β a (.int .i64 n) → VRs β (a :: l) vs := by
  cases vs with
  | nil => cases hl
  | cons v vs =>
    obtain ⟨n, rfl⟩ := Go.WideShapes.okWide_int ht (hv 0 t v rfl rfl)
    exact ⟨n, fun β a ha => .cons ha (anyArgs_ok h (by simpa using hl) fun i u v hu hi => hv (i + 1) u v (by simpa using hu) (by simpa using hi))⟩
/-- An unknown int, taken out. -/
theorem refine_int {β : Ren} {l ws : List Value} (h : VRs β (anyI .i64 :: l) ws) : ∃ n ws', ws = .int .i64 n :: ws' ∧ VRs β l ws' := by
  obtain ⟨w, ws', rfl, h1, h2⟩ := h.uncons
  have h1 : VRs β [.float .f64 (kidx .i64)] [w] := h1
  generalize hk : kidx .i64 = q at h1
  cases h1 with
  | anyInt k n _ =>
    have := kidx_inj hk
    subst this
    exact ⟨n, ws', rfl, h2⟩
theorem refine_agg {β : Ren} {c : Array Value} {r ws : List Value} (h : VRs β (.agg c :: r) ws) : ∃ (d : Array Value) (ws' : List Value), ws = .agg d :: ws' ∧ VRs β c.toList d.toList ∧ VRs β r ws' := by
  obtain ⟨w, ws', rfl, h1, h2⟩ := h.uncons
  cases h1 with
  | agg i _ => exact ⟨_, ws', rfl, i, h2⟩
/-- Below a bound, one of a few, or at a bound or more. -/
theorem cases_of {lo n : Nat} {p : Value → Prop} (x : Int) (β : Ren) (h1 : p (.complex .f32 0 lo)) (h2 : ∀ i, i < n → p (.int .i64 (.ofNat (lo + i)))) (h3 : p (.complex .f32 1 (lo + n))) : ∃ a, p a ∧ VR β a (.int .i64 x) := by
  by_cases g1 : x < lo
  · exact ⟨_, h1, .anyLt lo x g1 .nil⟩
  · by_cases g2 : ((lo + n : Nat) : Int) ≤ x
    · exact ⟨_, h3, .anyGe (lo + n) x g2 .nil⟩
    · obtain ⟨m, rfl⟩ := Int.eq_ofNat_of_zero_le (show 0 ≤ x by omega)
      refine ⟨_, h2 (m - lo) (by omega), ?_⟩
      have : lo + (m - lo) = m := by omega
      rw [this]
      exact .int .i64 _ .nil
/-! The cases of an int, one by one. -/
theorem case_lt {m : Nat} {p : Value → Prop} {x : Int} {β : Ren} (h : p (.complex .f32 0 m)) (h1 : x < m) : ∃ a, p a ∧ VR β a (.int .i64 x) := ⟨_, h, .anyLt m x h1 .nil⟩
theorem case_ge {m : Nat} {p : Value → Prop} {x : Int} {β : Ren} (h : p (.complex .f32 1 m)) (h1 : (m : Int) ≤ x) : ∃ a, p a ∧ VR β a (.int .i64 x) := ⟨_, h, .anyGe m x h1 .nil⟩
theorem case_in {lo hi : Nat} {p : Value → Prop} {x : Int} {β : Ren} (h : p (.complex .f32 (lo + 2) hi)) (h1 : (lo : Int) ≤ x) (h2 : x ≤ hi) : ∃ a, p a ∧ VR β a (.int .i64 x) := ⟨_, h, .anyIn lo hi x h1 h2 .nil⟩
theorem case_eq {m : Nat} {p : Value → Prop} {x : Int} {β : Ren} (h : p (.int .i64 (.ofNat m))) (h1 : x = m) : ∃ a, p a ∧ VR β a (.int .i64 x) := by
  subst h1
  exact ⟨_, h, .int .i64 _ .nil⟩
end Go.Ek
namespace Go.Ek
open Go.RowKit
set_option linter.unusedVariables false
set_option linter.unusedSimpArgs false
variable {P : Program}
/-! ### A closed run that says true, as a hook -/
noncomputable def sameTabs : List (Nat × List Value) → AW → R → R
  | [], _, k => k
  | x :: r, w, k => w.get x.1 fun o => match o with
    | .ro vs => cond (sameL (same1 8) vs x.2) (sameTabs r w k) false
    | _ => false
noncomputable def hTrue (tabs : List (Nat × List Value)) (args : List Value) (w : AW) (k : Value → AW → R) : R :=
  match args with
  | [] => sameTabs tabs w (k (.bool true) w)
  | _ => false
def tabB (tabs : List (Nat × List Value)) : Bool := tabs.all fun x => Nat.blt x.1 64 && x.2.all plain1
theorem plain_same {β : Ren} {v cv : Value} (hp : plain1 v = true) (hv : VR β v cv) : cv = v := by
  cases hv with
  | bool b _ => rfl
  | int k n _ => rfl
  | string s _ => rfl
  | ptrN _ => rfl
  | sliceN n hm _ => rfl
  | mapN _ => rfl
  | nilFunc _ => rfl
  | nilIface _ => rfl
  | _ => cases hp
theorem sameTabs_ok {K : Keep P} {β : Ren} {w : AW} {cw : World} {k : R} (hr : Rel K β w cw) : ∀ (l : List (Nat × List Value)), tabB l = true → sameTabs l w k = true → k = true ∧ ∀ x ∈ l, TabIn cw x
  | [], _, h => ⟨h, fun x hx => by cases hx⟩
  | x :: l, hb, h => by
    simp only [tabB, List.all_cons, Bool.and_eq_true, blt_n, decide_eq_true_eq] at hb
    have h : (w.get x.1 fun o => match o with
      | .ro vs => cond (sameL (same1 8) vs x.2) (sameTabs l w k) false
      | _ => false) = true := h
    obtain ⟨o, h1, h2⟩ := aw_get h
    cases o with
    | ro vs =>
      simp only at h2
      cases hs : sameL (same1 8) vs x.2 with
      | false => rw [hs] at h2; cases h2
      | true =>
        rw [hs, cond_true] at h2
        have e := sameL_ok (same1_ok 8) _ _ hs
        obtain ⟨g1, g2⟩ := sameTabs_ok hr l (by simpa [tabB] using hb.2) h2
        refine ⟨g1, fun y hy => ?_⟩
        rcases List.mem_cons.1 hy with rfl | hy
        · obtain ⟨c, co, f1, f2, f3, _⟩ := hr.obj _ _ h1 rfl
          obtain rfl := Option.some.inj (f1.symm.trans (hr.glob y.1 hb.1.1))
          cases co with
          | cells C e' f =>
            have f3 : CellsR β vs C := f3
            refine ⟨hb.1.1, C, e', f, f2, fun i v hv => ?_⟩
            have hp : plain1 v = true := List.all_eq_true.1 hb.1.2 v (List.mem_of_getElem? hv)
            obtain ⟨cv, q1, q2⟩ := f3 i v (by rw [e]; exact hv)
            rw [plain_same hp q2] at q1
            exact ⟨q1, hp⟩
          | _ => exact f3.elim
        · exact g2 y hy
    | _ => cases h2
/-- A function of no arguments that says true wherever the tables lie: a hook. -/
theorem hTrue_ok {f : FuncId} {fn : Func} (hf : P.funcs[f]? = some fn) (hb : fn.body.isSome = true) (hn : (fn.name == "runtime.NumGoroutine") = false) {tabs : List (Nat × List Value)} (ht : tabB tabs = true)
    (hc : ∀ W, (∀ x ∈ tabs, TabIn W x) → Calls P f #[] W fun e W' => e = .returned (.bool true) ∧ Below W.heap.size W W') : HookAt P f (hTrue tabs) := by
  intro args w k h K β cargs cw R hr hv hk
  unfold hTrue at h
  split at h
  · obtain ⟨h1, h2⟩ := sameTabs_ok hr tabs ht h
    have hca : cargs = #[] := by
      have : cargs.toList = [] := by cases hv' : cargs.toList with
        | nil => rfl
        | cons y l => rw [hv'] at hv; cases hv
      exact Array.ext' this
    subst hca
    refine .inl ⟨⟨fn, hf, hb, hn⟩, (hc cw h2).mono ?_⟩
    rintro e W' ⟨rfl, hbel⟩
    exact ⟨_, rfl, hk _ w β _ W' (Le.refl β) (hr.below hbel) (.bool true .nil) h1⟩
  · cases h
end Go.Ek
namespace Go.Ek
open Go.RowKit
set_option linter.unusedVariables false
set_option linter.unusedSimpArgs false
variable {P : Program}
/-! ### strings.Repeat and strings.trimRightByte as hooks -/
noncomputable def hRepeat (args : List Value) (w : AW) (k : Value → AW → R) : R :=
  match args with
  | [.string s, .int .i64 c] => idxK (.int .i64 c) fun n => lenK s.data.toList fun m => cond (Nat.ble n 1000000 && Nat.ble (Nat.mul m n) 1000000) (repK s.data.toList n fun l => k (.string ⟨⟨l⟩⟩) w) false
  | _ => false
noncomputable def trR (n : Nat) (l : List UInt8) (k : List UInt8 → R) : R :=
  List.rec (motive := fun _ => (List UInt8 → R) → R) (fun k => k []) (fun x _ ih k => ih fun r => List.casesOn r (cond (Nat.beq x.toNat n) (k []) (k [x])) (fun y t => k (x :: y :: t))) l k
noncomputable def hTrimR (args : List Value) (w : AW) (k : Value → AW → R) : R :=
  match args with
  | [.string s, .int .u8 c] => idxK (.int .u8 c) fun n => lenK s.data.toList fun m => cond (Nat.blt n 256 && Nat.ble m 1000000) (trR n s.data.toList fun l => k (.string ⟨⟨l⟩⟩) w) false
  | _ => false
theorem repL_repeat (l : List UInt8) : ∀ n, repL l n = Lib.repeatL l n
  | 0 => rfl
  | n + 1 => by simp [repL, Lib.repeatL, repL_repeat l n]
theorem trim_cons (x : UInt8) (l : List UInt8) (c : UInt8) : Lib.trimRightB (x :: l) c = match Lib.trimRightB l c with | [] => if x = c then [] else [x] | y :: t => x :: y :: t := by
  have e : Lib.trimRightB (x :: l) c = if Lib.trimRightB l c = [] then (if x = c then [] else [x]) else x :: Lib.trimRightB l c := by
    simp only [Lib.trimRightB, List.reverse_cons, List.dropWhile_append, List.reverse_eq_nil_iff, List.isEmpty_iff]
    split
    · rename_i h
      by_cases hx : x = c
      · subst hx; simp [h]
      · simp [h, hx, List.dropWhile_cons]
    · rename_i h
      simp [h]
  rw [e]
  cases Lib.trimRightB l c <;> simp
theorem trR_eq (c : UInt8) : ∀ (l : List UInt8) (k : List UInt8 → R), trR c.toNat l k = k (Lib.trimRightB l c)
  | [], k => rfl
  | x :: l, k => by
    show trR c.toNat l (fun r => List.casesOn r (cond (Nat.beq x.toNat c.toNat) (k []) (k [x])) (fun y t => k (x :: y :: t))) = _
    rw [trR_eq c l, trim_cons]
    cases Lib.trimRightB l c with
    | nil =>
      by_cases hx : x = c
      · subst hx; simp
      · have : ¬ x.toNat = c.toNat := fun e => hx (UInt8.toNat_inj.1 e)
        simp [beq_n, hx, this]
    | cons y t => rfl
theorem cargs_two {β : Ren} {x y : Value} {cargs : Array Value} (h : VRs β [x, y] cargs.toList) : ∃ cx cy, cargs = #[cx, cy] ∧ VR β x cx ∧ VR β y cy := by
  obtain ⟨cx, ws, h1, h2, h3⟩ := h.uncons
  obtain ⟨cy, ws2, rfl, h5, h6⟩ := h3.uncons
  cases h6
  exact ⟨cx, cy, by apply Array.ext'; simpa using h1, h2, h5⟩
theorem hRepeat_ok {f : FuncId} {fn : Func} (hf : P.funcs[f]? = some fn) (hb : fn.body.isSome = true) (hn : (fn.name == "runtime.NumGoroutine") = false)
    (hC : ∀ (s : ByteArray) (c : Nat) (W : World), c ≤ 9223372036854775807 → s.size * c ≤ 140737488355328 → Calls P f #[.string s, .int .i64 c] W fun e W' => e = .returned (.string ⟨(Lib.repeatL s.data.toList c).toArray⟩) ∧ Below W.heap.size W W') : HookAt P f hRepeat := by
  intro args w k h K β cargs cw R hr hv hk
  unfold hRepeat at h
  split at h
  · rename_i s c
    obtain ⟨cx, cy, rfl, hx, hy⟩ := cargs_two hv
    obtain ⟨j, n, h1, h2⟩ := idxK_ok h hy
    cases hx
    cases hy
    rename_i hm
    obtain ⟨rfl, rfl⟩ := Value.int.inj h2
    rw [lenK_eq, ble_n, ble_n] at h1
    cases hc : (decide (n ≤ 1000000) && decide (Nat.mul s.data.toList.length n ≤ 1000000)) with
    | false => rw [hc] at h1; cases h1
    | true =>
      rw [hc, cond_true, repK_eq, repL_repeat] at h1
      simp only [Bool.and_eq_true, decide_eq_true_eq] at hc
      refine .inl ⟨⟨fn, hf, hb, hn⟩, (hC s n cw (by omega) ?_).mono ?_⟩
      · have e : s.size = s.data.toList.length := by rw [Array.length_toList]; rfl
        rw [e]
        have := hc.2
        have e2 : Nat.mul s.data.toList.length n = s.data.toList.length * n := rfl
        omega
      · rintro e W' ⟨rfl, hbel⟩
        exact ⟨_, rfl, hk _ w β _ W' (Le.refl β) (hr.below hbel) (.string _ .nil) h1⟩
  · cases h
theorem hTrimR_ok {f : FuncId} {fn : Func} (hf : P.funcs[f]? = some fn) (hb : fn.body.isSome = true) (hn : (fn.name == "runtime.NumGoroutine") = false)
    (hC : ∀ (s : ByteArray) (c : UInt8) (W : World), s.size ≤ 9223372036854775807 → Calls P f #[.string s, .int .u8 c.toNat] W fun e W' => e = .returned (.string ⟨(Lib.trimRightB s.data.toList c).toArray⟩) ∧ W' = W) : HookAt P f hTrimR := by
  intro args w k h K β cargs cw R hr hv hk
  unfold hTrimR at h
  split at h
  · rename_i s c
    obtain ⟨cx, cy, rfl, hx, hy⟩ := cargs_two hv
    obtain ⟨j, n, h1, h2⟩ := idxK_ok h hy
    cases hx
    cases hy with
    | int j c _ =>
    obtain ⟨rfl, rfl⟩ := Value.int.inj h2
    rw [lenK_eq, blt_n, ble_n] at h1
    cases hc : (decide (n < 256) && decide (s.data.toList.length ≤ 1000000)) with
    | false => rw [hc] at h1; cases h1
    | true =>
      rw [hc, cond_true] at h1
      simp only [Bool.and_eq_true, decide_eq_true_eq] at hc
      have hn2 : (UInt8.ofNat n).toNat = n := by simp; omega
      have h3 := trR_eq (UInt8.ofNat n) s.data.toList fun l => k (.string ⟨⟨l⟩⟩) w
      rw [hn2] at h3
      rw [h3] at h1
      have hC := hC s (UInt8.ofNat n) cw (by have e : s.size = s.data.toList.length := by rw [Array.length_toList]; rfl
                                             omega)
      rw [hn2] at hC
      refine .inl ⟨⟨fn, hf, hb, hn⟩, hC.mono ?_⟩
      rintro e W' ⟨rfl, rfl⟩
      exact ⟨_, rfl, hk _ w β _ _ (Le.refl β) hr (.string _ .nil) h1⟩
  · cases h
end Go.Ek
namespace Go.Ek
open Go.RowKit
set_option linter.unusedVariables false
set_option linter.unusedSimpArgs false
variable {P : Program}
/-! ### quadriga/sum.Of, in plain numbers -/
def nibN (i : Nat) : Nat := ([0, 498536548, 997073096, 651767980, 1994146192, 1802195444, 1303535960, 1342533948, 3988292384, 4027552580, 3604390888, 3412177804, 2607071920, 2262029012, 2685067896, 3183342108] : List Nat).getD i 0
def sumByte (r b : Nat) : Nat :=
  let p := r ^^^ b
  let q := p / 16 ^^^ nibN (p &&& 15)
  q / 16 ^^^ nibN (q &&& 15)
def sumBytes : List UInt8 → Nat → Nat
  | [], r => r
  | b :: t, r => sumBytes t (sumByte r b.toNat)
def sumAll : List ByteArray → Nat → Nat
  | [], r => r
  | s :: t, r => sumAll t (sumBytes s.data.toList r)
def sumN (l : List ByteArray) : Nat := 4294967295 ^^^ sumAll l 4294967295
theorem nibN_lt (i : Nat) : nibN i < 4294967296 := by
  unfold nibN
  rw [List.getD_eq_getElem?_getD]
  cases h : ([0, 498536548, 997073096, 651767980, 1994146192, 1802195444, 1303535960, 1342533948, 3988292384, 4027552580, 3604390888, 3412177804, 2607071920, 2262029012, 2685067896, 3183342108] : List Nat)[i]? with
  | none => decide
  | some x =>
    have hx := List.mem_of_getElem? h
    have : ∀ y ∈ ([0, 498536548, 997073096, 651767980, 1994146192, 1802195444, 1303535960, 1342533948, 3988292384, 4027552580, 3604390888, 3412177804, 2607071920, 2262029012, 2685067896, 3183342108] : List Nat), y < 4294967296 := by decide
    exact this x hx
noncomputable def sumB (l : List UInt8) (r : Nat) (k : Nat → R) : R :=
  List.rec (motive := fun _ => Nat → R) (fun r => k r) (fun b _ ih r => natK (sumByte r b.toNat) fun r => ih r) l r
noncomputable def sumVs (l : List Value) (r : Nat) (k : Nat → R) : R :=
  List.rec (motive := fun _ => Nat → R) (fun r => k r) (fun v _ ih r => match v with
    | .string s => lenK s.data.toList fun n => cond (Nat.blt n 1000000000) (sumB s.data.toList r fun r => ih r) false
    | _ => false) l r
def nibTab : List Value := (List.range 16).map fun i => Value.int .u32 (.ofNat (nibN i))
noncomputable def hSum (g : Nat) (args : List Value) (w : AW) (k : Value → AW → R) : R :=
  match args with
  | [.slice base n _] => cond (Nat.blt n 1000000) (sameTabs [(g, nibTab)] w (match base with
    | none => cond (Nat.beq n 0) (k (.int .u32 0) w) false
    | some a => loadN w a n fun vs => sumVs vs 4294967295 fun r => natK (Nat.xor 4294967295 r) fun r => k (.int .u32 (.ofNat r)) w)) false
  | _ => false
theorem sumB_eq : ∀ (l : List UInt8) (r : Nat) (k : Nat → R), sumB l r k = k (sumBytes l r)
  | [], r, k => rfl
  | b :: l, r, k => by
    show natK (sumByte r b.toNat) (fun r => sumB l r k) = _
    rw [natK_eq, sumB_eq l]
    rfl
theorem sumVs_ok {β : Ren} : ∀ (vs cvs : List Value) (r : Nat) (k : Nat → R), VRs β vs cvs → sumVs vs r k = true → ∃ l : List ByteArray, cvs = l.map Value.string ∧ (∀ s ∈ l, s.size < 1000000000) ∧ k (sumAll l r) = true
  | [], cvs, r, k, hv, h => by
    cases hv
    exact ⟨[], rfl, (fun s hs => absurd hs List.not_mem_nil), h⟩
  | v :: vs, cvs, r, k, hv, h => by
    obtain ⟨cv, cvs', rfl, h1, h2⟩ := hv.uncons
    cases h1 with
    | string s _ =>
      have h : lenK s.data.toList (fun n => cond (Nat.blt n 1000000000) (sumB s.data.toList r fun r => sumVs vs r k) false) = true := h
      rw [lenK_eq, blt_n] at h
      by_cases hl : s.data.toList.length < 1000000000
      · simp only [hl, decide_true, cond_true, sumB_eq] at h
        obtain ⟨l, h3, h4, h5⟩ := sumVs_ok vs cvs' _ k h2 h
        refine ⟨s :: l, by rw [h3]; rfl, fun x hx => ?_, h5⟩
        rcases List.mem_cons.1 hx with rfl | hx
        · have e : x.size = x.data.toList.length := by rw [Array.length_toList]; rfl
          omega
        · exact h4 x hx
      · simp only [hl, decide_false, cond_false] at h
        cases h
    | _ => cases h
theorem nibTab_get (i : Nat) (h : i < 16) : nibTab[i]? = some (.int .u32 ((nibN i : Nat) : Int)) := by
  unfold nibTab
  rw [List.getElem?_map, List.getElem?_range h]
  rfl
theorem hSum_ok {f g : Nat} {fn : Func} (hf : P.funcs[f]? = some fn) (hb : fn.body.isSome = true) (hn : (fn.name == "runtime.NumGoroutine") = false) (hg : g < 64)
    (hC : ∀ (A : Option Addr) (cap : Nat) (l : List ByteArray) (W : World), (∀ i s, l[i]? = some s → ∃ a, A = some a ∧ a.spot = none ∧ W.cell? ⟨a.block, a.off + i, none⟩ = some (.string s)) → l.length < 1000000 → (∀ s ∈ l, s.size < 1000000000) →
      (∀ i : Nat, i < 16 → W.cell? ⟨g, i, none⟩ = some (.int .u32 (nibN i : Nat))) → Calls P f #[.slice A l.length cap] W fun e W' => e = .returned (.int .u32 ((sumN l : Nat) : Int)) ∧ W' = W) : HookAt P f (hSum g) := by
  intro args w k h K β cargs cw R hr hv hk
  unfold hSum at h
  split at h
  · rename_i base n c
    obtain ⟨cx, rfl, hx⟩ := cargs_one hv
    rw [blt_n] at h
    by_cases hlt : n < 1000000
    · simp only [hlt, decide_true, cond_true] at h
      obtain ⟨h1, h2⟩ := sameTabs_ok hr _ (by
        simp only [tabB, List.all_cons, List.all_nil, Bool.and_true, Bool.and_eq_true, blt_n, decide_eq_true_eq]
        exact ⟨hg, by decide⟩) h
      obtain ⟨_, C, e, fz, t1, t2⟩ := h2 (g, nibTab) (by simp)
      have hT : ∀ i : Nat, i < 16 → cw.cell? ⟨g, i, none⟩ = some (.int .u32 (nibN i : Nat)) := fun i hi => by
        rw [cell_of t1]
        exact (t2 i _ (nibTab_get i hi)).1
      have fin : ∀ A c' (l : List ByteArray), l.length = n → cx = .slice A n c' → (∀ i s, l[i]? = some s → ∃ a, A = some a ∧ a.spot = none ∧ cw.cell? ⟨a.block, a.off + i, none⟩ = some (.string s)) → (∀ s ∈ l, s.size < 1000000000) → k (.int .u32 ((sumN l : Nat) : Int)) w = true → Went P f #[cx] cw R := by
        intro A c' l hl hcx hcl hsz hkk
        subst hcx
        have := hC A c' l cw hcl (by omega) hsz hT
        rw [hl] at this
        refine .inl ⟨⟨fn, hf, hb, hn⟩, this.mono ?_⟩
        rintro e W' ⟨rfl, rfl⟩
        exact ⟨_, rfl, hk _ w β _ _ (Le.refl β) hr (.int _ _ .nil) hkk⟩
      cases hx with
      | sliceN _ _ _ =>
        simp only [beq_n] at h1
        by_cases h0 : n = 0
        · simp only [h0, decide_true, cond_true] at h1
          subst h0
          exact fin none _ [] rfl rfl (fun i s hs => by simp at hs) (fun s hs => by cases hs) h1
        · simp only [h0, decide_false, cond_false] at h1
          cases h1
      | slice o _ hb' _ _ _ =>
        obtain ⟨vs, cvs, g1, g2, g3, g4⟩ := loadN_ok hr h1 hb'
        obtain ⟨l, q1, q2, q3⟩ := sumVs_ok _ _ _ _ g2 g1
        rw [natK_eq] at q3
        refine fin _ _ l ?_ rfl (fun i s hs => ⟨_, rfl, rfl, ?_⟩) q2 q3
        · rw [← g3, g2.length, q1, List.length_map]
        · have := g4 i (.string s) (by rw [q1, List.getElem?_map, hs]; rfl)
          rwa [add_plain] at this
    · simp only [hlt, decide_false, cond_false] at h
      cases h
  · cases h
end Go.Ek
namespace Go.Ek
open Go.RowKit
set_option linter.unusedVariables false
set_option linter.unusedSimpArgs false
variable {P : Program}
/-! ### internal/bytealg.IndexByteString and CountString as hooks -/
noncomputable def idxB (l : List UInt8) (n : Nat) (none : R) (some : Nat → R) : R :=
  List.rec (motive := fun _ => Nat → R) (fun _ => none) (fun x _ ih i => cond (Nat.beq x.toNat n) (some i) (ih (Nat.succ i))) l 0
noncomputable def cntB (l : List UInt8) (n : Nat) (k : Nat → R) : R :=
  List.rec (motive := fun _ => Nat → R) (fun i => k i) (fun x _ ih i => cond (Nat.beq x.toNat n) (ih (Nat.succ i)) (ih i)) l 0
noncomputable def hIdxB (args : List Value) (w : AW) (k : Value → AW → R) : R :=
  match args with
  | [.string s, .int .u8 c] => idxK (.int .u8 c) fun n => cond (Nat.blt n 256) (idxB s.data.toList n (k (.int .i64 (-1)) w) (fun i => k (.int .i64 (.ofNat i)) w)) false
  | _ => false
noncomputable def hCntB (args : List Value) (w : AW) (k : Value → AW → R) : R :=
  match args with
  | [.string s, .int .u8 c] => idxK (.int .u8 c) fun n => cond (Nat.blt n 256) (cntB s.data.toList n fun i => k (.int .i64 (.ofNat i)) w) false
  | _ => false
theorem idxB_go (c : UInt8) (nn : R) (ss : Nat → R) : ∀ (l : List UInt8) (i : Nat),
    List.rec (motive := fun _ => Nat → R) (fun _ => nn) (fun x _ ih i => cond (Nat.beq x.toNat c.toNat) (ss i) (ih (Nat.succ i))) l i = if Lib.indexByte l c = -1 then nn else ss (i + (Lib.indexByte l c).toNat)
  | [], i => by simp [Lib.indexByte]
  | x :: l, i => by
    have ih := idxB_go c nn ss l (Nat.succ i)
    have hge := Lib.indexByte_ge l c
    show cond (Nat.beq x.toNat c.toNat) (ss i) (List.rec (motive := fun _ => Nat → R) (fun _ => nn) (fun x _ ih i => cond (Nat.beq x.toNat c.toNat) (ss i) (ih (Nat.succ i))) l (Nat.succ i)) = _
    have hE : Lib.indexByte (x :: l) c = if x == c then 0 else if Lib.indexByte l c == -1 then -1 else Lib.indexByte l c + 1 := rfl
    rw [ih, beq_n, hE]
    by_cases hx : x = c
    · subst hx
      simp
    · have : ¬ x.toNat = c.toNat := fun e => hx (UInt8.toNat_inj.1 e)
      by_cases h : Lib.indexByte l c = -1
      · simp [hx, this, h]
      · have h2 : ¬ Lib.indexByte l c + 1 = -1 := by omega
        have h3 : i + 1 + (Lib.indexByte l c).toNat = i + (Lib.indexByte l c + 1).toNat := by omega
        simp [hx, this, h, h2, h3]
theorem cntB_go (c : UInt8) (k : Nat → R) : ∀ (l : List UInt8) (i : Nat),
    List.rec (motive := fun _ => Nat → R) (fun i => k i) (fun x _ ih i => cond (Nat.beq x.toNat c.toNat) (ih (Nat.succ i)) (ih i)) l i = k (i + l.count c)
  | [], i => by simp
  | x :: l, i => by
    have ih := cntB_go c k l
    show cond (Nat.beq x.toNat c.toNat) (List.rec (motive := fun _ => Nat → R) (fun i => k i) (fun x _ ih i => cond (Nat.beq x.toNat c.toNat) (ih (Nat.succ i)) (ih i)) l (Nat.succ i)) (List.rec (motive := fun _ => Nat → R) (fun i => k i) (fun x _ ih i => cond (Nat.beq x.toNat c.toNat) (ih (Nat.succ i)) (ih i)) l i) = _
    rw [ih, ih, beq_n]
    by_cases hx : x = c
    · subst hx
      have e : Nat.succ i + List.count x l = i + (List.count x l + 1) := by omega
      simp [e]
    · have : ¬ x.toNat = c.toNat := fun e => hx (UInt8.toNat_inj.1 e)
      simp [hx, this, List.count_cons]
theorem byteOf_toNat (n : Nat) (h : n < 256) : ((Int.ofNat n).toNat.toUInt8).toNat = n := by
  show (Nat.toUInt8 n).toNat = n
  simp only [Nat.toUInt8, UInt8.toNat_ofNat']
  omega
theorem hIdxB_ok {f : FuncId} {fn : Func} (hf : P.funcs[f]? = some fn) (hname : (fn.name == "runtime.NumGoroutine") = false) (hb : fn.body.isNone = true) (hn : Extern.findNext fn = none) (he : Extern.find fn = some Extern.BytealgIndexByte.indexByte) : HookAt P f hIdxB := by
  intro args w k h K β cargs cw R hr hv hk
  unfold hIdxB at h
  split at h
  · rename_i s c
    obtain ⟨cx, cy, rfl, hx, hy⟩ := cargs_two hv
    obtain ⟨j, n, h1, h2⟩ := idxK_ok h hy
    cases hx
    cases hy with
    | int j c _ =>
    obtain ⟨rfl, rfl⟩ := Value.int.inj h2
    rw [blt_n] at h1
    by_cases hlt : n < 256
    · simp only [hlt, decide_true, cond_true] at h1
      refine .inr ⟨.int .i64 (Lib.indexByte s.data.toList (Int.ofNat n).toNat.toUInt8), cw, ?_, hk _ w β _ cw (Le.refl β) hr (.int _ _ .nil) ?_⟩
      · rw [run_callFunc_extern hf hname hb hn he, Lib.run_indexByteString]
        rfl
      · have e := idxB_go ((Int.ofNat n).toNat.toUInt8) (k (.int .i64 (-1)) w) (fun i => k (.int .i64 (.ofNat i)) w) s.data.toList 0
        rw [byteOf_toNat n hlt] at e
        have e' : idxB s.data.toList n (k (.int .i64 (-1)) w) (fun i => k (.int .i64 (.ofNat i)) w) = _ := e
        rw [e'] at h1
        have hge := Lib.indexByte_ge s.data.toList (Int.ofNat n).toNat.toUInt8
        generalize Lib.indexByte s.data.toList (Int.ofNat n).toNat.toUInt8 = q at h1 hge ⊢
        by_cases hq : q = -1
        · rw [if_pos hq] at h1
          rw [hq]
          exact h1
        · rw [if_neg hq] at h1
          have : q = Int.ofNat (0 + q.toNat) := by
            show q = ((0 + q.toNat : Nat) : Int)
            omega
          rw [this]
          exact h1
    · simp only [hlt, decide_false, cond_false] at h1
      cases h1
  · cases h
theorem hCntB_ok {f : FuncId} {fn : Func} (hf : P.funcs[f]? = some fn) (hname : (fn.name == "runtime.NumGoroutine") = false) (hb : fn.body.isNone = true) (hn : Extern.findNext fn = none) (he : Extern.find fn = some Extern.BytealgCount.count) : HookAt P f hCntB := by
  intro args w k h K β cargs cw R hr hv hk
  unfold hCntB at h
  split at h
  · rename_i s c
    obtain ⟨cx, cy, rfl, hx, hy⟩ := cargs_two hv
    obtain ⟨j, n, h1, h2⟩ := idxK_ok h hy
    cases hx
    cases hy with
    | int j c _ =>
    obtain ⟨rfl, rfl⟩ := Value.int.inj h2
    rw [blt_n] at h1
    by_cases hlt : n < 256
    · simp only [hlt, decide_true, cond_true] at h1
      refine .inr ⟨.int .i64 (Lib.countByte s.data.toList (Int.ofNat n).toNat.toUInt8), cw, ?_, hk _ w β _ cw (Le.refl β) hr (.int _ _ .nil) ?_⟩
      · rw [run_callFunc_extern hf hname hb hn he, Lib.run_countString]
        rfl
      · have e := cntB_go ((Int.ofNat n).toNat.toUInt8) (fun i => k (.int .i64 (.ofNat i)) w) s.data.toList 0
        rw [byteOf_toNat n hlt] at e
        have e' : cntB s.data.toList n (fun i => k (.int .i64 (.ofNat i)) w) = _ := e
        rw [e'] at h1
        rw [Nat.zero_add] at h1
        exact h1
    · simp only [hlt, decide_false, cond_false] at h1
      cases h1
  · cases h
end Go.Ek
