/-
  RecordSizes: the plain law.
-/
import Derived.Test.YtlicobfjeajcfaaDoorQ04x10
import Derived.Test.YtlicobfjeajcfaaDoorPureRec
import Derived.Test.YtlicobfjeajcfaaDoorOpnQ04
namespace Go.Proofs.YtlicobfjeajcfaaDoor
open Go.RowKit Go.Proofs.YtlicobfjeajcfaaDoor.Q04 Go.Proofs.YtlicobfjeajcfaaDoorW.PrintWords
set_option linter.unusedVariables false
set_option linter.unusedSimpArgs false

theorem great_eq (x : S25) : quadrigalaw04_great.f x.f0 x.f1 x.f2 x.f3 x.f4 x.f5 x.f6.f0 x.f6.f1 x.f7.f0 x.f7.f1 x.f8 = some (decide (x.f5.size > 100 ∨ x.f6.f1.size > 100 ∨ x.f7.f1.size > 100)) := by
  unfold quadrigalaw04_great.f
  by_cases h1 : (x.f5.size : Int) > 100
  · rw [if_pos h1]; simp; omega
  · rw [if_neg h1]
    by_cases h2 : (x.f6.f1.size : Int) > 100
    · rw [if_pos h2]; simp; omega
    · rw [if_neg h2]; simp only [Option.some.injEq, decide_eq_decide]; omega

theorem awake13 : quadrigalaw04_awake.f 13 = some true := by kernel_rfl

theorem encode_any (x : S25) (k : Nat) : ∃ s e, record_Encode.f (k + 1) x.f0 x.f1 x.f2 x.f3 x.f4 x.f5 x.f6.f0 x.f6.f1 x.f7.f0 x.f7.f1 x.f8 = some (s, e) ∧ (e = 0 → RightP x ∧ s = encE x) := by
  by_cases h : RightP x
  · exact ⟨_, _, encode_eq x k h, fun _ => ⟨h, rfl⟩⟩
  · exact ⟨_, _, encode_no x _ h, fun he => by cases he⟩

theorem wk {b : Bool} {t : Option Bool} (h : t = some true) : (t.bind fun x => some x) = some true := by rw [h]; rfl

theorem sizes_j2 (x : S25) (prev gsn : Int) (s : ByteArray) (e : Int) (hs : e = 0 → RightP x ∧ s = encE x) :
    quadrigalaw04_RecordSizes.j2 11 prev gsn s e false x.f0 x.f1 x.f2 x.f3 x.f4 x.f5 x.f6.f0 x.f6.f1 x.f7.f0 x.f7.f1 x.f8 = some true := by
  simp only [quadrigalaw04_RecordSizes.j2]
  rw [if_neg (by decide), back_eq, Option.bind_some]
  obtain ⟨u, g, hu, hg⟩ := encode_any (backE x gsn prev) 9
  show (record_Encode.f 10 (backE x gsn prev).f0 (backE x gsn prev).f1 (backE x gsn prev).f2 (backE x gsn prev).f3 (backE x gsn prev).f4 (backE x gsn prev).f5 (backE x gsn prev).f6.f0 (backE x gsn prev).f6.f1 (backE x gsn prev).f7.f0 (backE x gsn prev).f7.f1 (backE x gsn prev).f8).bind _ = _
  rw [hu, Option.bind_some]
  have ha := awake_eq
  by_cases he : e = 0
  · rw [if_pos he]
    by_cases hg0 : g = 0
    · rw [if_pos (show (u, g).2 = 0 from hg0)]
      by_cases h2 : x.f0 = 2
      · rw [if_pos h2]
        obtain ⟨hx, rfl⟩ := hs he
        obtain ⟨hb, rfl⟩ := hg hg0
        have hbk : backE x gsn prev = backR x gsn prev := by
          unfold backE at hb ⊢
          split
          · rfl
          · rename_i hn
            rw [if_neg hn] at hb
            have := hb.k1
            simp at this
        have hc : chB x.f0 = true := (chB_iff _).2 (.inl h2)
        obtain ⟨c1, c2, c3, c4, c5, -⟩ := hx.b1 hc
        have e1 := encE_size x
        have e2 := encE_size (backR x gsn prev)
        rw [if_pos hc, if_neg (by omega), if_neg (by omega)] at e1
        rw [if_pos (show chB (backR x gsn prev).f0 = true from rfl), if_pos (show (backR x gsn prev).f0 = 3 from rfl)] at e2
        have s6 := valE_size x.f6
        have s7 := valE_size x.f7
        have k5 : x.f5.size ≤ 8 := by simp [keyB] at c3; omega
        have v6 : x.f6.f1.size ≤ 16 := by simp [valB] at c4; omega
        have v7 : x.f7.f1.size ≤ 16 := by simp [valB] at c5; omega
        have s6' : (valE x.f6).size ≤ 17 := by rw [s6]; split <;> omega
        have s7' : (valE x.f7).size ≤ 17 := by rw [s7]; split <;> omega
        have e3 : (encE (backR x gsn prev)).size = (encE x).size + 8 := by
          rw [e1, e2]
          show 13 + (2 + x.f5.size + (valE x.f7).size + (valE x.f6).size) + 8 = _
          omega
        rw [if_pos (by rw [hbk, wrap_id _ (by omega) (by omega)]; show ((encE (backR x gsn prev)).size : Int) = _; omega), ha]
        rfl
      · rw [if_neg h2, ha]; rfl
    · rw [if_neg (show ¬ (u, g).2 = 0 from hg0), ha]; rfl
  · rw [if_neg he, ha]; rfl

theorem sizes_j1 (x y : S25) (prev gsn : Int) (s : ByteArray) (e : Int) (hs : e = 0 → RightP x ∧ s = encE x) (h0 : y.f0 = x.f0) (h5 : y.f5 = x.f5) (h6 : y.f6 = x.f6) (h7 : y.f7 = x.f7) :
    quadrigalaw04_RecordSizes.j1 12 prev gsn s e x.f0 x.f1 x.f2 x.f3 x.f4 x.f5 x.f6.f0 x.f6.f1 x.f7.f0 x.f7.f1 x.f8 y.f0 y.f1 y.f2 y.f3 y.f4 y.f5 y.f6.f0 y.f6.f1 y.f7.f0 y.f7.f1 y.f8 = some true := by
  simp only [quadrigalaw04_RecordSizes.j1]
  obtain ⟨u, g, hu, hg⟩ := encode_any y 10
  rw [hu, Option.bind_some]
  have hj := sizes_j2 x prev gsn s e hs
  by_cases he : e = 0
  · rw [if_pos he]
    by_cases hg0 : g = 0
    · rw [if_pos (show (u, g).2 = 0 from hg0)]
      obtain ⟨hx, rfl⟩ := hs he
      obtain ⟨hy, rfl⟩ := hg hg0
      have e3 : (encE x).size = (encE y).size := by rw [encE_size, encE_size, h0, h5, h6, h7]
      rw [show (((encE x).size : Int) != ((encE y, g).1.size : Int)) = false by simp [e3]]
      exact hj
    · rw [if_neg (show ¬ (u, g).2 = 0 from hg0)]; exact hj
  · rw [if_neg he]; exact hj

theorem sizes_law (x : S25) (txn prev gsn : Int) : quadrigalaw04_RecordSizes.f 13 x.f0 x.f1 x.f2 x.f3 x.f4 x.f5 x.f6.f0 x.f6.f1 x.f7.f0 x.f7.f1 x.f8 txn prev gsn = some true := by
  unfold quadrigalaw04_RecordSizes.f
  rw [great_eq, Option.bind_some]
  obtain ⟨s, e, hs, he⟩ := encode_any x 12
  rw [hs, awake13]
  split
  · rfl
  · rw [Option.bind_some]
    split
    · simp only [quadrigalaw04_RecordSizes.j0]
      split
      · exact sizes_j1 x ⟨x.f0, gsn, txn, x.f3, x.f4, x.f5, x.f6, x.f7, 1⟩ prev gsn s e he rfl rfl rfl rfl
      · exact sizes_j1 x ⟨x.f0, gsn, txn, x.f3, x.f4, x.f5, x.f6, x.f7, x.f8⟩ prev gsn s e he rfl rfl rfl rfl
    · simp only [quadrigalaw04_RecordSizes.j0]
      split
      · exact sizes_j1 x ⟨x.f0, gsn, txn, prev, x.f4, x.f5, x.f6, x.f7, 1⟩ prev gsn s e he rfl rfl rfl rfl
      · exact sizes_j1 x ⟨x.f0, gsn, txn, prev, x.f4, x.f5, x.f6, x.f7, x.f8⟩ prev gsn s e he rfl rfl rfl rfl

/-- THE WALK: the law's function gives true. -/
theorem sizes_walk (x : S25) (txn prev gsn : Int) (w : World) (_ : ok25 x) (_ : (Lit.int .i64 txn).wf = true) (_ : (Lit.int .i64 prev).wf = true) (_ : (Lit.int .i64 gsn).wf = true) : Calls Tryd.prog 6 #[.agg #[.int .i64 x.f0, .int .i64 x.f1, .int .i64 x.f2, .int .i64 x.f3, .int .i64 x.f4, .string x.f5, .bool x.f6.f0, .string x.f6.f1, .bool x.f7.f0, .string x.f7.f1, .int .i64 x.f8], .int .i64 txn, .int .i64 prev, .int .i64 gsn] w fun e w' => e = .returned (.bool true) ∧ Below w.heap.size w w' :=
  quadrigalaw04_RecordSizes.calls 13 _ _ _ _ _ _ _ _ _ _ _ _ _ _ true w (sizes_law x txn prev gsn)
end Go.Proofs.YtlicobfjeajcfaaDoor
