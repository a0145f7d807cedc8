/-
  From how an argument reads as data to the plain value that it is: one lemma for each shape of type.
-/
import Derived.Test.YtiidffblbpoijaaDoorRows
import Derived.Test.YtiidffblbpoijaaDoorWWords
import Derived.Deep.Slices
import Derived.ChangeArms
namespace Go.Proofs.YtiidffblbpoijaaDoor
open Go.RowKit
open Go.Proofs.YtiidffblbpoijaaDoorW.PrintWords
set_option linter.unusedVariables false
set_option linter.unusedSimpArgs false

/-- What reads at type t is a value of the kind kd, with a property. -/
def Opn {α : Type} (t : TypeId) (kd : Kd α) (ok : α → Prop) : Prop :=
  ∀ (H : Type) (enc : TypeId × Value → H) (w : World) (spare : Nat → Bool) (fuel : Nat) (cs : List Value) (x : DataW H × List MemPlace),
    DataW.trod enc Tryd.prog w 0 spare true fuel t cs = some x → ∃ a, kd.K w a cs ∧ ok a

theorem opn_int {t : TypeId} {k : IntKind} (ht : Tryd.prog.underlying t = some (.int k)) : Opn t (Kd.int k) (fun a => (Lit.int k a).wf = true) := by
  intro H enc w spare fuel cs x h
  cases fuel with
  | zero => simp [DataW.trod] at h
  | succ m =>
    unfold DataW.trod at h
    rw [ht] at h
    split at h <;> simp_all
    rename_i e
    obtain ⟨⟨rfl, hw⟩, _⟩ := h
    exact ⟨_, by subst e; rfl, by subst e; exact hw⟩

theorem opn_bool {t : TypeId} (ht : Tryd.prog.underlying t = some .bool) : Opn t Kd.bool (fun _ => True) := by
  intro H enc w spare fuel cs x h
  cases fuel with
  | zero => simp [DataW.trod] at h
  | succ m =>
    unfold DataW.trod at h
    rw [ht] at h
    split at h
    · rename_i b _
      exact ⟨b, rfl, trivial⟩
    all_goals simp_all

theorem opn_str {t : TypeId} (ht : Tryd.prog.underlying t = some .string) : Opn t Kd.string (fun a => a.size ≤ maxLen) := by
  intro H enc w spare fuel cs x h
  cases fuel with
  | zero => simp [DataW.trod] at h
  | succ m =>
    unfold DataW.trod at h
    rw [ht] at h
    split at h <;> simp_all
    exact ⟨_, rfl, h.1⟩

theorem cells_at {w : World} {a : Addr} {n : Nat} {cs : List Value} (h : w.cells? 0 a n = some cs) : cs.length = n ∧ ∀ i u, cs[i]? = some u → w.cell? (a.add i) = some u := by
  have h1 := World.cells?_some h
  refine ⟨h1.2.1, fun i u hi => ?_⟩
  have hlt : i < n := by
    have := (List.getElem?_eq_some_iff.1 hi).1
    have := h1.2.1
    omega
  rw [h1.2.2 i hlt, hi]

theorem opn_slice {α : Type} [Inhabited α] {t e : TypeId} {kd : Kd α} {ok : α → Prop} (ht : Tryd.prog.underlying t = some (.slice e)) (hc : Tryd.prog.cellsOf e = kd.sz) (he : Opn e kd ok) :
    Opn t (Kd.slice e kd) (fun l => l.length ≤ maxLen ∧ ∀ x ∈ l, ok x) := by
  intro H enc w spare fuel cs x h
  rcases Deep.open_slice ht h with ⟨rfl, _⟩ | ⟨a, len, cap, m, n, D, Pl, rfl, _, hlc, hcm, hm, _, hel⟩
  · exact ⟨[], ⟨none, 0, rfl, Nat.le_refl _, ⟨rfl, by simp, fun h0 => absurd h0 (Nat.lt_irrefl _)⟩⟩, by simp, by simp⟩
  · have hlm : len ≤ m := by
      rw [hm]
      split <;> omega
    obtain ⟨V, hV⟩ := Deep.choose_lt (n := len) (p := fun i (v : α) => (∃ c, c.length = kd.sz ∧ kd.K w v c ∧ ∀ j u, c[j]? = some u → w.cell? (a.add (i * kd.sz + j)) = some u) ∧ ok v) (fun i hi => by
      obtain ⟨cs', h1, h2⟩ := hel i (by omega)
      rw [hc] at h1
      obtain ⟨v, hK, hok⟩ := he H enc w spare n cs' _ h2
      obtain ⟨hl, hcell⟩ := cells_at h1
      refine ⟨v, ⟨cs', hl, hK, fun j u hj => ?_⟩, hok⟩
      rw [← Deep.add_add]
      exact hcell j u hj)
    refine ⟨(List.range len).map V, ⟨some a, cap, by simp, by simpa using hlc, ⟨rfl, ?_, fun _ => ⟨a, rfl, fun j p hj => ?_⟩⟩⟩, by simp; omega, ?_⟩
    · simp
      unfold maxLen at hcm
      omega
    · have hjl : j < len := by
        have := (List.getElem?_eq_some_iff.1 hj).1
        simpa using this
      have : p = V j := by
        rw [List.getElem?_map, List.getElem?_range hjl] at hj
        simpa using hj.symm
      subst this
      exact (hV j hjl).1
    · intro x hx
      obtain ⟨i, hi, rfl⟩ := List.mem_map.1 hx
      exact (hV i (List.mem_range.1 hi)).2

/-- The fields of a struct from a place on. -/
def OpnF {α : Type} (fs : List Field) (off : Nat) (kd : Kd α) (ok : α → Prop) : Prop :=
  ∀ (H : Type) (enc : TypeId × Value → H) (w : World) (spare : Nat → Bool) (n : Nat) (cs : List Value), cs.length = off + kd.sz →
    (∀ f ∈ fs, ∃ y, DataW.trod enc Tryd.prog w 0 spare true n f.type ((cs.drop f.offset).take (Tryd.prog.cellsOf f.type)) = some y) → ∃ a, kd.K w a (cs.drop off) ∧ ok a

theorem opnF_one {α : Type} {f : Field} {off : Nat} {kd : Kd α} {ok : α → Prop} (ho : f.offset = off) (hc : Tryd.prog.cellsOf f.type = kd.sz) (h : Opn f.type kd ok) : OpnF [f] off kd ok := by
  intro H enc w spare n cs hl hf
  obtain ⟨y, hy⟩ := hf f (by simp)
  obtain ⟨a, hK, hok⟩ := h H enc w spare n _ _ hy
  refine ⟨a, ?_, hok⟩
  rw [ho, hc, List.take_of_length_le (by simp; omega)] at hK
  exact hK

theorem opnF_cons {α β : Type} {f : Field} {fs : List Field} {off : Nat} {ka : Kd α} {kb : Kd β} {oka : α → Prop} {okb : β → Prop} (ho : f.offset = off) (hc : Tryd.prog.cellsOf f.type = ka.sz) (h : Opn f.type ka oka) (hr : OpnF fs (off + ka.sz) kb okb) :
    OpnF (f :: fs) off (Kd.pair ka kb) (fun x => oka x.1 ∧ okb x.2) := by
  intro H enc w spare n cs hl hf
  have hsz : (Kd.pair ka kb).sz = ka.sz + kb.sz := rfl
  obtain ⟨y, hy⟩ := hf f (by simp)
  obtain ⟨a, hK, hok⟩ := h H enc w spare n _ _ hy
  obtain ⟨b, hKb, hokb⟩ := hr H enc w spare n cs (by omega) (fun g hg => hf g (by simp [hg]))
  rw [ho, hc] at hK
  refine ⟨(a, b), ⟨_, _, ?_, hK, hKb⟩, hok, hokb⟩
  rw [← List.drop_drop, List.take_append_drop]

theorem opn_struct {α : Type} {t : TypeId} {fs : Array Field} {kd : Kd α} {ok : α → Prop} (ht : Tryd.prog.underlying t = some (.struct fs)) (hc : Tryd.prog.cellsOf t = kd.sz) (h : OpnF fs.toList 0 kd ok) : Opn t kd ok := by
  intro H enc w spare fuel cs x hx
  obtain ⟨xs, n, _, rfl, hl, hlen, hf⟩ := DataW.trod_struct ht hx
  obtain ⟨a, hK, hok⟩ := h H enc w spare n cs (by omega) (fun f hm => by
    obtain ⟨i, hi, rfl⟩ := List.mem_iff_getElem.1 hm
    have h2 := hf i fs.toList[i] (by rw [← Array.getElem?_toList]; exact List.getElem?_eq_getElem hi)
    have hi2 : i < xs.length := by
      first
        | (simp at hlen hi; omega)
        | omega
    exact ⟨xs[i], by rw [h2, List.getElem?_eq_getElem hi2]⟩)
  exact ⟨a, by simpa using hK, hok⟩

theorem opn_iso {α β : Type} {t : TypeId} {kd : Kd α} {ok : α → Prop} {f : β → α} (g : α → β) (hg : ∀ a, f (g a) = a) (h : Opn t kd ok) : Opn t (Kd.iso kd f) (fun b => ok (f b)) := by
  intro H enc w spare fuel cs x hx
  obtain ⟨a, hK, hok⟩ := h H enc w spare fuel cs x hx
  refine ⟨g a, ?_, ?_⟩
  · show kd.K w (f (g a)) cs
    rw [hg]
    exact hK
  · show ok (f (g a))
    rw [hg]
    exact hok

/-- A struct of other than one cell is written out. -/
theorem agg_of {v : Value} {l : List Value} (h : v.cells.toList = l) (hl : l.length ≠ 1) : v = .agg l.toArray := by
  cases v with
  | agg cs =>
    have : cs.toList = l := h
    rw [← this]
  | _ => exact absurd (by rw [← h]; rfl) hl

end Go.Proofs.YtiidffblbpoijaaDoor
