-- Written by a program of this session (wip/bin/stubprint.py) out of the translation; not trusted: Lean checks it.
import Derived.Test.YtlicobfjeajcfaaDoorQ04x0
import Derived.Test.YtlicobfjeajcfaaDoorQ04x2
import Derived.Test.YtlicobfjeajcfaaDoorQ04x6
import Derived.Test.YtlicobfjeajcfaaDoorQ04x7
import Derived.Test.YtlicobfjeajcfaaDoorQ04x9
namespace Go.Proofs.YtlicobfjeajcfaaDoor.Q04
open Go.RowKit Go.Proofs.YtlicobfjeajcfaaDoorW.PrintWords Go.Proofs.YtlicobfjeajcfaaDoorW.PrintLast Go.Proofs.YtlicobfjeajcfaaDoorW.PrintMore
attribute [local go_sem] max2_int min2_int max_two min_two max_three min_three max_four min_four   -- for this text's walks alone
set_option linter.unusedVariables false
set_option linter.unusedSimpArgs false

/-! ### quadrigalaw04_RecordSizes: function 6 -/
mutual
def quadrigalaw04_RecordSizes.j0 : Nat → Int → Int → ByteArray → Int → Int → Int → Int → Int → Int → ByteArray → Bool → ByteArray → Bool → ByteArray → Int → Int → Int → Int → Int → Int → ByteArray → Bool → ByteArray → Bool → ByteArray → Int → Option (Bool)
  | 0, _, _, _, _, _, _, _, _, _, _, _, _, _, _, _, _, _, _, _, _, _, _, _, _, _, _ => none
  | k + 1, x2, x3, x9, x10, x318000, x318001, x318002, x318003, x318004, x318005, x318006, x318007, x318008, x318009, x318010, x323000, x323001, x323002, x323003, x323004, x323005, x323006, x323007, x323008, x323009, x323010 => if x318000 = 3 then (quadrigalaw04_RecordSizes.j1 k x2 x3 x9 x10 x318000 x318001 x318002 x318003 x318004 x318005 x318006 x318007 x318008 x318009 x318010 x323000 x323001 x323002 x323003 x323004 x323005 x323006 x323007 x323008 x323009 1) else (quadrigalaw04_RecordSizes.j1 k x2 x3 x9 x10 x318000 x318001 x318002 x318003 x318004 x318005 x318006 x318007 x318008 x318009 x318010 x323000 x323001 x323002 x323003 x323004 x323005 x323006 x323007 x323008 x323009 x323010)
def quadrigalaw04_RecordSizes.j1 : Nat → Int → Int → ByteArray → Int → Int → Int → Int → Int → Int → ByteArray → Bool → ByteArray → Bool → ByteArray → Int → Int → Int → Int → Int → Int → ByteArray → Bool → ByteArray → Bool → ByteArray → Int → Option (Bool)
  | 0, _, _, _, _, _, _, _, _, _, _, _, _, _, _, _, _, _, _, _, _, _, _, _, _, _, _ => none
  | k + 1, x2, x3, x9, x10, x318000, x318001, x318002, x318003, x318004, x318005, x318006, x318007, x318008, x318009, x318010, x323000, x323001, x323002, x323003, x323004, x323005, x323006, x323007, x323008, x323009, x323010 => (record_Encode.f k x323000 x323001 x323002 x323003 x323004 x323005 x323006 x323007 x323008 x323009 x323010).bind fun bt323 => (if x10 = 0 then (if bt323.2 = 0 then (quadrigalaw04_RecordSizes.j2 k x2 x3 x9 x10 ((x9.size : Int) != (bt323.1.size : Int)) x318000 x318001 x318002 x318003 x318004 x318005 x318006 x318007 x318008 x318009 x318010) else (quadrigalaw04_RecordSizes.j2 k x2 x3 x9 x10 false x318000 x318001 x318002 x318003 x318004 x318005 x318006 x318007 x318008 x318009 x318010)) else (quadrigalaw04_RecordSizes.j2 k x2 x3 x9 x10 false x318000 x318001 x318002 x318003 x318004 x318005 x318006 x318007 x318008 x318009 x318010))
def quadrigalaw04_RecordSizes.j2 : Nat → Int → Int → ByteArray → Int → Bool → Int → Int → Int → Int → Int → ByteArray → Bool → ByteArray → Bool → ByteArray → Int → Option (Bool)
  | 0, _, _, _, _, _, _, _, _, _, _, _, _, _, _, _, _ => none
  | k + 1, x2, x3, x9, x10, x56, x318000, x318001, x318002, x318003, x318004, x318005, x318006, x318007, x318008, x318009, x318010 => if x56 = true then (some false) else ((record_Back.f k x318000 x318001 x318002 x318003 x318004 x318005 x318006 x318007 x318008 x318009 x318010 x3 x2).bind fun bt325 => ((record_Encode.f k bt325.1 bt325.2.1 bt325.2.2.1 bt325.2.2.2.1 bt325.2.2.2.2.1 bt325.2.2.2.2.2.1 bt325.2.2.2.2.2.2.1 bt325.2.2.2.2.2.2.2.1 bt325.2.2.2.2.2.2.2.2.1 bt325.2.2.2.2.2.2.2.2.2.1 bt325.2.2.2.2.2.2.2.2.2.2).bind fun bt337 => (if x10 = 0 then (if bt337.2 = 0 then (if x318000 = 2 then (if (bt337.1.size : Int) = (wrap64 ((x9.size : Int) + 8)) then ((quadrigalaw04_awake.f k).bind fun t339 => (some t339)) else (some false)) else ((quadrigalaw04_awake.f k).bind fun t340 => (some t340))) else ((quadrigalaw04_awake.f k).bind fun t341 => (some t341))) else ((quadrigalaw04_awake.f k).bind fun t342 => (some t342)))))
end
def quadrigalaw04_RecordSizes.f (k : Nat) (a0_0 : Int) (a0_1 : Int) (a0_2 : Int) (a0_3 : Int) (a0_4 : Int) (a0_5 : ByteArray) (a0_6 : Bool) (a0_7 : ByteArray) (a0_8 : Bool) (a0_9 : ByteArray) (a0_10 : Int) (a1 : Int) (a2 : Int) (a3 : Int) : Option (Bool) := (quadrigalaw04_great.f a0_0 a0_1 a0_2 a0_3 a0_4 a0_5 a0_6 a0_7 a0_8 a0_9 a0_10).bind fun t318 => (if t318 = true then ((quadrigalaw04_awake.f k).bind fun t319 => (some t319)) else ((record_Encode.f k a0_0 a0_1 a0_2 a0_3 a0_4 a0_5 a0_6 a0_7 a0_8 a0_9 a0_10).bind fun bt320 => (if a0_0 = 1 then (quadrigalaw04_RecordSizes.j0 k a2 a3 bt320.1 bt320.2 a0_0 a0_1 a0_2 a0_3 a0_4 a0_5 a0_6 a0_7 a0_8 a0_9 a0_10 a0_0 a3 a1 a0_3 a0_4 a0_5 a0_6 a0_7 a0_8 a0_9 a0_10) else (quadrigalaw04_RecordSizes.j0 k a2 a3 bt320.1 bt320.2 a0_0 a0_1 a0_2 a0_3 a0_4 a0_5 a0_6 a0_7 a0_8 a0_9 a0_10 a0_0 a3 a1 a2 a0_4 a0_5 a0_6 a0_7 a0_8 a0_9 a0_10))))
theorem quadrigalaw04_RecordSizes.mono_l : ∀ k, (∀ y0 y1 y2 y3 y4 y5 y6 y7 y8 y9 y10 y11 y12 y13 y14 y15 y16 y17 y18 y19 y20 y21 y22 y23 y24 y25, LeO (quadrigalaw04_RecordSizes.j0 k y0 y1 y2 y3 y4 y5 y6 y7 y8 y9 y10 y11 y12 y13 y14 y15 y16 y17 y18 y19 y20 y21 y22 y23 y24 y25) (quadrigalaw04_RecordSizes.j0 (k + 1) y0 y1 y2 y3 y4 y5 y6 y7 y8 y9 y10 y11 y12 y13 y14 y15 y16 y17 y18 y19 y20 y21 y22 y23 y24 y25)) ∧ (∀ y0 y1 y2 y3 y4 y5 y6 y7 y8 y9 y10 y11 y12 y13 y14 y15 y16 y17 y18 y19 y20 y21 y22 y23 y24 y25, LeO (quadrigalaw04_RecordSizes.j1 k y0 y1 y2 y3 y4 y5 y6 y7 y8 y9 y10 y11 y12 y13 y14 y15 y16 y17 y18 y19 y20 y21 y22 y23 y24 y25) (quadrigalaw04_RecordSizes.j1 (k + 1) y0 y1 y2 y3 y4 y5 y6 y7 y8 y9 y10 y11 y12 y13 y14 y15 y16 y17 y18 y19 y20 y21 y22 y23 y24 y25)) ∧ (∀ y0 y1 y2 y3 y4 y5 y6 y7 y8 y9 y10 y11 y12 y13 y14 y15, LeO (quadrigalaw04_RecordSizes.j2 k y0 y1 y2 y3 y4 y5 y6 y7 y8 y9 y10 y11 y12 y13 y14 y15) (quadrigalaw04_RecordSizes.j2 (k + 1) y0 y1 y2 y3 y4 y5 y6 y7 y8 y9 y10 y11 y12 y13 y14 y15))
  | 0 => ⟨fun _ _ _ _ _ _ _ _ _ _ _ _ _ _ _ _ _ _ _ _ _ _ _ _ _ _ r h => by simp [quadrigalaw04_RecordSizes.j0] at h, fun _ _ _ _ _ _ _ _ _ _ _ _ _ _ _ _ _ _ _ _ _ _ _ _ _ _ r h => by simp [quadrigalaw04_RecordSizes.j1] at h, fun _ _ _ _ _ _ _ _ _ _ _ _ _ _ _ _ r h => by simp [quadrigalaw04_RecordSizes.j2] at h⟩
  | k + 1 => by
    obtain ⟨ih0, ih1, ih2⟩ := quadrigalaw04_RecordSizes.mono_l k
    refine ⟨?_, ?_, ?_⟩
    · intro y0 y1 y2 y3 y4 y5 y6 y7 y8 y9 y10 y11 y12 y13 y14 y15 y16 y17 y18 y19 y20 y21 y22 y23 y24 y25
      unfold quadrigalaw04_RecordSizes.j0
      repeat' first
      | (with_reducible exact ih0 _ _ _ _ _ _ _ _ _ _ _ _ _ _ _ _ _ _ _ _ _ _ _ _ _ _)
      | (with_reducible exact ih1 _ _ _ _ _ _ _ _ _ _ _ _ _ _ _ _ _ _ _ _ _ _ _ _ _ _)
      | (with_reducible exact ih2 _ _ _ _ _ _ _ _ _ _ _ _ _ _ _ _)
      | (with_reducible exact quadrigalaw04_awake.mono _)
      | (with_reducible exact record_Back.mono _ _ _ _ _ _ _ _ _ _ _ _ _ _)
      | (with_reducible exact record_Encode.mono _ _ _ _ _ _ _ _ _ _ _ _)
      | (with_reducible exact LeO.refl _)
      | (with_reducible exact LeO.none _)
      | (with_reducible refine LeO.ite ?_ ?_)
      | (with_reducible refine LeO.bind ?_ (fun _ => ?_))
      | exact ih0 _ _ _ _ _ _ _ _ _ _ _ _ _ _ _ _ _ _ _ _ _ _ _ _ _ _
      | exact ih1 _ _ _ _ _ _ _ _ _ _ _ _ _ _ _ _ _ _ _ _ _ _ _ _ _ _
      | exact ih2 _ _ _ _ _ _ _ _ _ _ _ _ _ _ _ _
      | exact quadrigalaw04_awake.mono _
      | exact record_Back.mono _ _ _ _ _ _ _ _ _ _ _ _ _ _
      | exact record_Encode.mono _ _ _ _ _ _ _ _ _ _ _ _
      | exact LeO.none _
      | refine LeO.ite ?_ ?_
      | refine LeO.bind ?_ (fun _ => ?_)
    · intro y0 y1 y2 y3 y4 y5 y6 y7 y8 y9 y10 y11 y12 y13 y14 y15 y16 y17 y18 y19 y20 y21 y22 y23 y24 y25
      unfold quadrigalaw04_RecordSizes.j1
      repeat' first
      | (with_reducible exact ih0 _ _ _ _ _ _ _ _ _ _ _ _ _ _ _ _ _ _ _ _ _ _ _ _ _ _)
      | (with_reducible exact ih1 _ _ _ _ _ _ _ _ _ _ _ _ _ _ _ _ _ _ _ _ _ _ _ _ _ _)
      | (with_reducible exact ih2 _ _ _ _ _ _ _ _ _ _ _ _ _ _ _ _)
      | (with_reducible exact quadrigalaw04_awake.mono _)
      | (with_reducible exact record_Back.mono _ _ _ _ _ _ _ _ _ _ _ _ _ _)
      | (with_reducible exact record_Encode.mono _ _ _ _ _ _ _ _ _ _ _ _)
      | (with_reducible exact LeO.refl _)
      | (with_reducible exact LeO.none _)
      | (with_reducible refine LeO.ite ?_ ?_)
      | (with_reducible refine LeO.bind ?_ (fun _ => ?_))
      | exact ih0 _ _ _ _ _ _ _ _ _ _ _ _ _ _ _ _ _ _ _ _ _ _ _ _ _ _
      | exact ih1 _ _ _ _ _ _ _ _ _ _ _ _ _ _ _ _ _ _ _ _ _ _ _ _ _ _
      | exact ih2 _ _ _ _ _ _ _ _ _ _ _ _ _ _ _ _
      | exact quadrigalaw04_awake.mono _
      | exact record_Back.mono _ _ _ _ _ _ _ _ _ _ _ _ _ _
      | exact record_Encode.mono _ _ _ _ _ _ _ _ _ _ _ _
      | exact LeO.none _
      | refine LeO.ite ?_ ?_
      | refine LeO.bind ?_ (fun _ => ?_)
    · intro y0 y1 y2 y3 y4 y5 y6 y7 y8 y9 y10 y11 y12 y13 y14 y15
      unfold quadrigalaw04_RecordSizes.j2
      repeat' first
      | (with_reducible exact ih0 _ _ _ _ _ _ _ _ _ _ _ _ _ _ _ _ _ _ _ _ _ _ _ _ _ _)
      | (with_reducible exact ih1 _ _ _ _ _ _ _ _ _ _ _ _ _ _ _ _ _ _ _ _ _ _ _ _ _ _)
      | (with_reducible exact ih2 _ _ _ _ _ _ _ _ _ _ _ _ _ _ _ _)
      | (with_reducible exact quadrigalaw04_awake.mono _)
      | (with_reducible exact record_Back.mono _ _ _ _ _ _ _ _ _ _ _ _ _ _)
      | (with_reducible exact record_Encode.mono _ _ _ _ _ _ _ _ _ _ _ _)
      | (with_reducible exact LeO.refl _)
      | (with_reducible exact LeO.none _)
      | (with_reducible refine LeO.ite ?_ ?_)
      | (with_reducible refine LeO.bind ?_ (fun _ => ?_))
      | exact ih0 _ _ _ _ _ _ _ _ _ _ _ _ _ _ _ _ _ _ _ _ _ _ _ _ _ _
      | exact ih1 _ _ _ _ _ _ _ _ _ _ _ _ _ _ _ _ _ _ _ _ _ _ _ _ _ _
      | exact ih2 _ _ _ _ _ _ _ _ _ _ _ _ _ _ _ _
      | exact quadrigalaw04_awake.mono _
      | exact record_Back.mono _ _ _ _ _ _ _ _ _ _ _ _ _ _
      | exact record_Encode.mono _ _ _ _ _ _ _ _ _ _ _ _
      | exact LeO.none _
      | refine LeO.ite ?_ ?_
      | refine LeO.bind ?_ (fun _ => ?_)
theorem quadrigalaw04_RecordSizes.mono : ∀ a0 a1 a2 a3 a4 a5 a6 a7 a8 a9 a10 a11 a12 a13 k, LeO (quadrigalaw04_RecordSizes.f k a0 a1 a2 a3 a4 a5 a6 a7 a8 a9 a10 a11 a12 a13) (quadrigalaw04_RecordSizes.f (k + 1) a0 a1 a2 a3 a4 a5 a6 a7 a8 a9 a10 a11 a12 a13) := by
  intro a0 a1 a2 a3 a4 a5 a6 a7 a8 a9 a10 a11 a12 a13 k
  obtain ⟨ih0, ih1, ih2⟩ := quadrigalaw04_RecordSizes.mono_l k
  unfold quadrigalaw04_RecordSizes.f
  repeat' first
      | (with_reducible exact ih0 _ _ _ _ _ _ _ _ _ _ _ _ _ _ _ _ _ _ _ _ _ _ _ _ _ _)
      | (with_reducible exact ih1 _ _ _ _ _ _ _ _ _ _ _ _ _ _ _ _ _ _ _ _ _ _ _ _ _ _)
      | (with_reducible exact ih2 _ _ _ _ _ _ _ _ _ _ _ _ _ _ _ _)
      | (with_reducible exact quadrigalaw04_awake.mono _)
      | (with_reducible exact record_Back.mono _ _ _ _ _ _ _ _ _ _ _ _ _ _)
      | (with_reducible exact record_Encode.mono _ _ _ _ _ _ _ _ _ _ _ _)
      | (with_reducible exact LeO.refl _)
      | (with_reducible exact LeO.none _)
      | (with_reducible refine LeO.ite ?_ ?_)
      | (with_reducible refine LeO.bind ?_ (fun _ => ?_))
      | exact ih0 _ _ _ _ _ _ _ _ _ _ _ _ _ _ _ _ _ _ _ _ _ _ _ _ _ _
      | exact ih1 _ _ _ _ _ _ _ _ _ _ _ _ _ _ _ _ _ _ _ _ _ _ _ _ _ _
      | exact ih2 _ _ _ _ _ _ _ _ _ _ _ _ _ _ _ _
      | exact quadrigalaw04_awake.mono _
      | exact record_Back.mono _ _ _ _ _ _ _ _ _ _ _ _ _ _
      | exact record_Encode.mono _ _ _ _ _ _ _ _ _ _ _ _
      | exact LeO.none _
      | refine LeO.ite ?_ ?_
      | refine LeO.bind ?_ (fun _ => ?_)
set_option maxHeartbeats 8000000 in
set_option maxRecDepth 100000 in
theorem quadrigalaw04_RecordSizes.calls (k : Nat) (a0_0 : Int) (a0_1 : Int) (a0_2 : Int) (a0_3 : Int) (a0_4 : Int) (a0_5 : ByteArray) (a0_6 : Bool) (a0_7 : ByteArray) (a0_8 : Bool) (a0_9 : ByteArray) (a0_10 : Int) (a1 : Int) (a2 : Int) (a3 : Int) (r : Bool) (w : World) (h : quadrigalaw04_RecordSizes.f k a0_0 a0_1 a0_2 a0_3 a0_4 a0_5 a0_6 a0_7 a0_8 a0_9 a0_10 a1 a2 a3 = some r) :
    Calls Tryd.prog 6 #[.agg #[.int .i64 a0_0, .int .i64 a0_1, .int .i64 a0_2, .int .i64 a0_3, .int .i64 a0_4, .string a0_5, .bool a0_6, .string a0_7, .bool a0_8, .string a0_9, .int .i64 a0_10], .int .i64 a1, .int .i64 a2, .int .i64 a3] w fun e w' => e = .returned (.bool r) ∧ Below w.heap.size w w' := by
  have hu25 := Tryd.underlying25
  have HB := Aside0.mk (Below.refl w.heap.size w)
  have H : ((quadrigalaw04_great.f a0_0 a0_1 a0_2 a0_3 a0_4 a0_5 a0_6 a0_7 a0_8 a0_9 a0_10).bind fun t318 => (if t318 = true then ((quadrigalaw04_awake.f k).bind fun t319 => (some t319)) else ((record_Encode.f k a0_0 a0_1 a0_2 a0_3 a0_4 a0_5 a0_6 a0_7 a0_8 a0_9 a0_10).bind fun bt320 => (if a0_0 = 1 then (quadrigalaw04_RecordSizes.j0 k a2 a3 bt320.1 bt320.2 a0_0 a0_1 a0_2 a0_3 a0_4 a0_5 a0_6 a0_7 a0_8 a0_9 a0_10 a0_0 a3 a1 a0_3 a0_4 a0_5 a0_6 a0_7 a0_8 a0_9 a0_10) else (quadrigalaw04_RecordSizes.j0 k a2 a3 bt320.1 bt320.2 a0_0 a0_1 a0_2 a0_3 a0_4 a0_5 a0_6 a0_7 a0_8 a0_9 a0_10 a0_0 a3 a1 a2 a0_4 a0_5 a0_6 a0_7 a0_8 a0_9 a0_10))))) = some r := h
  clear h
  replace H := Option.bind_eq_some_iff.mp H
  obtain ⟨t318, A50, H⟩ := H
  replace H : (if t318 = true then ((quadrigalaw04_awake.f k).bind fun t319 => (some t319)) else ((record_Encode.f k a0_0 a0_1 a0_2 a0_3 a0_4 a0_5 a0_6 a0_7 a0_8 a0_9 a0_10).bind fun bt320 => (if a0_0 = 1 then (quadrigalaw04_RecordSizes.j0 k a2 a3 bt320.1 bt320.2 a0_0 a0_1 a0_2 a0_3 a0_4 a0_5 a0_6 a0_7 a0_8 a0_9 a0_10 a0_0 a3 a1 a0_3 a0_4 a0_5 a0_6 a0_7 a0_8 a0_9 a0_10) else (quadrigalaw04_RecordSizes.j0 k a2 a3 bt320.1 bt320.2 a0_0 a0_1 a0_2 a0_3 a0_4 a0_5 a0_6 a0_7 a0_8 a0_9 a0_10 a0_0 a3 a1 a2 a0_4 a0_5 a0_6 a0_7 a0_8 a0_9 a0_10)))) = some r := H
  have A5 := Aside0.mk A50
  clear A50
  by_cases c6 : t318 = true
  · subst c6
    have H1 : ((quadrigalaw04_awake.f k).bind fun t319 => (some t319)) = some r := by rw [if_pos rfl] at H; exact H
    clear H
    have H := H1
    clear H1
    replace H := Option.bind_eq_some_iff.mp H
    obtain ⟨t319, A70, H⟩ := H
    replace H : (some t319) = some r := H
    have A7 := Aside0.mk A70
    clear A70
    obtain rfl := Option.some.inj H
    go_enter Tryd.func6, Tryd.ntmps6
    go_wp2_with (first | ((with_reducible refine gate_dst (N := 4) rfl ?_); (try (refine gate_guard (by rfl) ?_; dsimp only)); refine box_event ?hg (N := 4) ?hd (cs := #[.int .i64 a0_0, .int .i64 a0_1, .int .i64 a0_2, .int .i64 a0_3, .int .i64 a0_4, .string a0_5, .bool a0_6, .string a0_7, .bool a0_8, .string a0_9, .int .i64 a0_10]) (t := 25) ?hr ?_; (case hd => rfl); (case hg => rfl); (case hr => first | (go_simp; done) | (go_simp; rfl)); intro gb317 hg w8 hbox hb; have n0_ := Aside0.mk (below_step (by repeat (first | (with_reducible first | exact HB.out | apply below_alloc | apply pw_below_drewN | apply below_drew1) | exact HB.out)) hb); have n1_ := Aside0.mk (hbox); have n2_ := Aside0.mk ((by rw [hg]; exact (below_size (by repeat (first | (with_reducible first | exact HB.out | apply below_alloc | apply pw_below_drewN | apply below_drew1) | exact HB.out))) : w.heap.size ≤ gb317)); have n3_ := Aside0.mk ((by rw [hg]; exact (below_size (by repeat (first | (with_reducible first | exact HB.out | apply below_alloc | apply pw_below_drewN | apply below_drew1) | exact HB.out))) : w.heap.size ≤ gb317)); clear HB; have HB := n0_; have BK317 := n1_; have GW317 := n2_; have GE317 := n3_; clear n0_ n1_ n2_ n3_; clear hb hbox hg; have hcz9_0 : w8.cell? ⟨gb317, 0, none⟩ = some (.int .i64 a0_0) := (blk_cell BK317.out 0).trans rfl; have hcz9_1 : w8.cell? ⟨gb317, 1, none⟩ = some (.int .i64 a0_1) := (blk_cell BK317.out 1).trans rfl; have hcz9_2 : w8.cell? ⟨gb317, 2, none⟩ = some (.int .i64 a0_2) := (blk_cell BK317.out 2).trans rfl; have hcz9_3 : w8.cell? ⟨gb317, 3, none⟩ = some (.int .i64 a0_3) := (blk_cell BK317.out 3).trans rfl; have hcz9_4 : w8.cell? ⟨gb317, 4, none⟩ = some (.int .i64 a0_4) := (blk_cell BK317.out 4).trans rfl; have hcz9_5 : w8.cell? ⟨gb317, 5, none⟩ = some (.string a0_5) := (blk_cell BK317.out 5).trans rfl; have hcz9_6 : w8.cell? ⟨gb317, 6, none⟩ = some (.bool a0_6) := (blk_cell BK317.out 6).trans rfl; have hcz9_7 : w8.cell? ⟨gb317, 7, none⟩ = some (.string a0_7) := (blk_cell BK317.out 7).trans rfl; have hcz9_8 : w8.cell? ⟨gb317, 8, none⟩ = some (.bool a0_8) := (blk_cell BK317.out 8).trans rfl; have hcz9_9 : w8.cell? ⟨gb317, 9, none⟩ = some (.string a0_9) := (blk_cell BK317.out 9).trans rfl; have hcz9_10 : w8.cell? ⟨gb317, 10, none⟩ = some (.int .i64 a0_10) := (blk_cell BK317.out 10).trans rfl; have hfz9_0 := blk_frozen BK317.out 0; have hfz9_1 := blk_frozen BK317.out 1; have hfz9_2 := blk_frozen BK317.out 2; have hfz9_3 := blk_frozen BK317.out 3; have hfz9_4 := blk_frozen BK317.out 4; have hfz9_5 := blk_frozen BK317.out 5; have hfz9_6 := blk_frozen BK317.out 6; have hfz9_7 := blk_frozen BK317.out 7; have hfz9_8 := blk_frozen BK317.out 8; have hfz9_9 := blk_frozen BK317.out 9; have hfz9_10 := blk_frozen BK317.out 10) | ((with_reducible refine gate_callee (f := 8) rfl ?_); refine goesL_ (some 18) rfl rfl Tryd.func8 (by kernel_rfl) rfl #[.agg #[.int .i64 a0_0, .int .i64 a0_1, .int .i64 a0_2, .int .i64 a0_3, .int .i64 a0_4, .string a0_5, .bool a0_6, .string a0_7, .bool a0_8, .string a0_9, .int .i64 a0_10]] rfl (by (try simp only [List.map_toArray, List.map_cons, List.map_nil]); first | done | rfl | (simp only [List.length_drop, List.length_take]; rfl)) ?_; (with_reducible refine (quadrigalaw04_great.calls a0_0 a0_1 a0_2 a0_3 a0_4 a0_5 a0_6 a0_7 a0_8 a0_9 a0_10 true _ A5.out).mono ?_); rintro e w10 ⟨rfl, hb⟩; refine ⟨_, rfl, ?_⟩; have n0_ := Aside0.mk (blk_below (g := gb317) (o := .cells #[.int .i64 a0_0, .int .i64 a0_1, .int .i64 a0_2, .int .i64 a0_3, .int .i64 a0_4, .string a0_5, .bool a0_6, .string a0_7, .bool a0_8, .string a0_9, .int .i64 a0_10] 25 (0, 0)) (by (with_reducible repeat (first | refine blk_drewN ?_ _ | refine blk_drew ?_ | refine blk_alloc ?_ _)); exact BK317.out) hb); have n1_ := Aside0.mk (below_step (by repeat (first | (with_reducible first | exact HB.out | apply below_alloc | apply pw_below_drewN | apply below_drew1 | refine below_set ?_ GE317.out) | exact HB.out)) hb); clear BK317; clear HB; have BK317 := n0_; have HB := n1_; clear n0_ n1_; (try clear hb); (try clear hb2); (try clear hk); (try clear hi)) | ((with_reducible refine gate_callee (f := 9) rfl ?_); refine goesL_ (some 19) rfl rfl Tryd.func9 (by kernel_rfl) rfl #[] rfl (by (try simp only [List.map_toArray, List.map_cons, List.map_nil]); first | done | rfl | (simp only [List.length_drop, List.length_take]; rfl)) ?_; (with_reducible refine (quadrigalaw04_awake.calls k  t319 _ A7.out).mono ?_); rintro e w11 ⟨rfl, hb⟩; refine ⟨_, rfl, ?_⟩; have n0_ := Aside0.mk (blk_below (g := gb317) (o := .cells #[.int .i64 a0_0, .int .i64 a0_1, .int .i64 a0_2, .int .i64 a0_3, .int .i64 a0_4, .string a0_5, .bool a0_6, .string a0_7, .bool a0_8, .string a0_9, .int .i64 a0_10] 25 (0, 0)) (by (with_reducible repeat (first | refine blk_drewN ?_ _ | refine blk_drew ?_ | refine blk_alloc ?_ _)); exact BK317.out) hb); have n1_ := Aside0.mk (below_step (by repeat (first | (with_reducible first | exact HB.out | apply below_alloc | apply pw_below_drewN | apply below_drew1 | refine below_set ?_ GE317.out) | exact HB.out)) hb); clear BK317; clear HB; have BK317 := n0_; have HB := n1_; clear n0_ n1_; (try clear hb); (try clear hb2); (try clear hk); (try clear hi)))
    go_ret
    exact ⟨by first | rfl | (simp [errW_none, errW_some] <;> rfl) | (simp [*, errW_none, errW_some] <;> rfl), by repeat (first | (with_reducible first | exact HB.out | apply below_alloc | apply pw_below_drewN | apply below_drew1 | refine below_set ?_ GE317.out) | exact HB.out)⟩
  · replace c6 := Bool.eq_false_iff.mpr c6
    subst c6
    have H1 : ((record_Encode.f k a0_0 a0_1 a0_2 a0_3 a0_4 a0_5 a0_6 a0_7 a0_8 a0_9 a0_10).bind fun bt320 => (if a0_0 = 1 then (quadrigalaw04_RecordSizes.j0 k a2 a3 bt320.1 bt320.2 a0_0 a0_1 a0_2 a0_3 a0_4 a0_5 a0_6 a0_7 a0_8 a0_9 a0_10 a0_0 a3 a1 a0_3 a0_4 a0_5 a0_6 a0_7 a0_8 a0_9 a0_10) else (quadrigalaw04_RecordSizes.j0 k a2 a3 bt320.1 bt320.2 a0_0 a0_1 a0_2 a0_3 a0_4 a0_5 a0_6 a0_7 a0_8 a0_9 a0_10 a0_0 a3 a1 a2 a0_4 a0_5 a0_6 a0_7 a0_8 a0_9 a0_10))) = some r := by rw [if_neg (show ¬ (false = true) by decide)] at H; exact H
    clear H
    have H := H1
    clear H1
    replace H := Option.bind_eq_some_iff.mp H
    obtain ⟨⟨t320, t321⟩, A120, H⟩ := H
    replace H : (if a0_0 = 1 then (quadrigalaw04_RecordSizes.j0 k a2 a3 t320 t321 a0_0 a0_1 a0_2 a0_3 a0_4 a0_5 a0_6 a0_7 a0_8 a0_9 a0_10 a0_0 a3 a1 a0_3 a0_4 a0_5 a0_6 a0_7 a0_8 a0_9 a0_10) else (quadrigalaw04_RecordSizes.j0 k a2 a3 t320 t321 a0_0 a0_1 a0_2 a0_3 a0_4 a0_5 a0_6 a0_7 a0_8 a0_9 a0_10 a0_0 a3 a1 a2 a0_4 a0_5 a0_6 a0_7 a0_8 a0_9 a0_10)) = some r := H
    have A12 := Aside0.mk A120
    clear A120
    have HC13 := Aside0.mk H
    clear H
    go_enter Tryd.func6, Tryd.ntmps6
    go_upto_if 32 with (first | ((with_reducible refine gate_dst (N := 4) rfl ?_); (try (refine gate_guard (by rfl) ?_; dsimp only)); refine box_event ?hg (N := 4) ?hd (cs := #[.int .i64 a0_0, .int .i64 a0_1, .int .i64 a0_2, .int .i64 a0_3, .int .i64 a0_4, .string a0_5, .bool a0_6, .string a0_7, .bool a0_8, .string a0_9, .int .i64 a0_10]) (t := 25) ?hr ?_; (case hd => rfl); (case hg => rfl); (case hr => first | (go_simp; done) | (go_simp; rfl)); intro gb317 hg w14 hbox hb; have n0_ := Aside0.mk (below_step (by repeat (first | (with_reducible first | exact HB.out | apply below_alloc | apply pw_below_drewN | apply below_drew1) | exact HB.out)) hb); have n1_ := Aside0.mk (hbox); have n2_ := Aside0.mk ((by rw [hg]; exact (below_size (by repeat (first | (with_reducible first | exact HB.out | apply below_alloc | apply pw_below_drewN | apply below_drew1) | exact HB.out))) : w.heap.size ≤ gb317)); have n3_ := Aside0.mk ((by rw [hg]; exact (below_size (by repeat (first | (with_reducible first | exact HB.out | apply below_alloc | apply pw_below_drewN | apply below_drew1) | exact HB.out))) : w.heap.size ≤ gb317)); clear HB; have HB := n0_; have BK317 := n1_; have GW317 := n2_; have GE317 := n3_; clear n0_ n1_ n2_ n3_; clear hb hbox hg; have hcz15_0 : w14.cell? ⟨gb317, 0, none⟩ = some (.int .i64 a0_0) := (blk_cell BK317.out 0).trans rfl; have hcz15_1 : w14.cell? ⟨gb317, 1, none⟩ = some (.int .i64 a0_1) := (blk_cell BK317.out 1).trans rfl; have hcz15_2 : w14.cell? ⟨gb317, 2, none⟩ = some (.int .i64 a0_2) := (blk_cell BK317.out 2).trans rfl; have hcz15_3 : w14.cell? ⟨gb317, 3, none⟩ = some (.int .i64 a0_3) := (blk_cell BK317.out 3).trans rfl; have hcz15_4 : w14.cell? ⟨gb317, 4, none⟩ = some (.int .i64 a0_4) := (blk_cell BK317.out 4).trans rfl; have hcz15_5 : w14.cell? ⟨gb317, 5, none⟩ = some (.string a0_5) := (blk_cell BK317.out 5).trans rfl; have hcz15_6 : w14.cell? ⟨gb317, 6, none⟩ = some (.bool a0_6) := (blk_cell BK317.out 6).trans rfl; have hcz15_7 : w14.cell? ⟨gb317, 7, none⟩ = some (.string a0_7) := (blk_cell BK317.out 7).trans rfl; have hcz15_8 : w14.cell? ⟨gb317, 8, none⟩ = some (.bool a0_8) := (blk_cell BK317.out 8).trans rfl; have hcz15_9 : w14.cell? ⟨gb317, 9, none⟩ = some (.string a0_9) := (blk_cell BK317.out 9).trans rfl; have hcz15_10 : w14.cell? ⟨gb317, 10, none⟩ = some (.int .i64 a0_10) := (blk_cell BK317.out 10).trans rfl; have hfz15_0 := blk_frozen BK317.out 0; have hfz15_1 := blk_frozen BK317.out 1; have hfz15_2 := blk_frozen BK317.out 2; have hfz15_3 := blk_frozen BK317.out 3; have hfz15_4 := blk_frozen BK317.out 4; have hfz15_5 := blk_frozen BK317.out 5; have hfz15_6 := blk_frozen BK317.out 6; have hfz15_7 := blk_frozen BK317.out 7; have hfz15_8 := blk_frozen BK317.out 8; have hfz15_9 := blk_frozen BK317.out 9; have hfz15_10 := blk_frozen BK317.out 10) | ((with_reducible refine gate_callee (f := 8) rfl ?_); refine goesL_ (some 18) rfl rfl Tryd.func8 (by kernel_rfl) rfl #[.agg #[.int .i64 a0_0, .int .i64 a0_1, .int .i64 a0_2, .int .i64 a0_3, .int .i64 a0_4, .string a0_5, .bool a0_6, .string a0_7, .bool a0_8, .string a0_9, .int .i64 a0_10]] rfl (by (try simp only [List.map_toArray, List.map_cons, List.map_nil]); first | done | rfl | (simp only [List.length_drop, List.length_take]; rfl)) ?_; (with_reducible refine (quadrigalaw04_great.calls a0_0 a0_1 a0_2 a0_3 a0_4 a0_5 a0_6 a0_7 a0_8 a0_9 a0_10 false _ A5.out).mono ?_); rintro e w16 ⟨rfl, hb⟩; refine ⟨_, rfl, ?_⟩; have n0_ := Aside0.mk (blk_below (g := gb317) (o := .cells #[.int .i64 a0_0, .int .i64 a0_1, .int .i64 a0_2, .int .i64 a0_3, .int .i64 a0_4, .string a0_5, .bool a0_6, .string a0_7, .bool a0_8, .string a0_9, .int .i64 a0_10] 25 (0, 0)) (by (with_reducible repeat (first | refine blk_drewN ?_ _ | refine blk_drew ?_ | refine blk_alloc ?_ _)); exact BK317.out) hb); have n1_ := Aside0.mk (below_step (by repeat (first | (with_reducible first | exact HB.out | apply below_alloc | apply pw_below_drewN | apply below_drew1 | refine below_set ?_ GE317.out) | exact HB.out)) hb); clear BK317; clear HB; have BK317 := n0_; have HB := n1_; clear n0_ n1_; (try clear hb); (try clear hb2); (try clear hk); (try clear hi); have hcz17_0 : w16.cell? ⟨gb317, 0, none⟩ = some (.int .i64 a0_0) := (blk_cell BK317.out 0).trans rfl; have hcz17_1 : w16.cell? ⟨gb317, 1, none⟩ = some (.int .i64 a0_1) := (blk_cell BK317.out 1).trans rfl; have hcz17_2 : w16.cell? ⟨gb317, 2, none⟩ = some (.int .i64 a0_2) := (blk_cell BK317.out 2).trans rfl; have hcz17_3 : w16.cell? ⟨gb317, 3, none⟩ = some (.int .i64 a0_3) := (blk_cell BK317.out 3).trans rfl; have hcz17_4 : w16.cell? ⟨gb317, 4, none⟩ = some (.int .i64 a0_4) := (blk_cell BK317.out 4).trans rfl; have hcz17_5 : w16.cell? ⟨gb317, 5, none⟩ = some (.string a0_5) := (blk_cell BK317.out 5).trans rfl; have hcz17_6 : w16.cell? ⟨gb317, 6, none⟩ = some (.bool a0_6) := (blk_cell BK317.out 6).trans rfl; have hcz17_7 : w16.cell? ⟨gb317, 7, none⟩ = some (.string a0_7) := (blk_cell BK317.out 7).trans rfl; have hcz17_8 : w16.cell? ⟨gb317, 8, none⟩ = some (.bool a0_8) := (blk_cell BK317.out 8).trans rfl; have hcz17_9 : w16.cell? ⟨gb317, 9, none⟩ = some (.string a0_9) := (blk_cell BK317.out 9).trans rfl; have hcz17_10 : w16.cell? ⟨gb317, 10, none⟩ = some (.int .i64 a0_10) := (blk_cell BK317.out 10).trans rfl; have hfz17_0 := blk_frozen BK317.out 0; have hfz17_1 := blk_frozen BK317.out 1; have hfz17_2 := blk_frozen BK317.out 2; have hfz17_3 := blk_frozen BK317.out 3; have hfz17_4 := blk_frozen BK317.out 4; have hfz17_5 := blk_frozen BK317.out 5; have hfz17_6 := blk_frozen BK317.out 6; have hfz17_7 := blk_frozen BK317.out 7; have hfz17_8 := blk_frozen BK317.out 8; have hfz17_9 := blk_frozen BK317.out 9; have hfz17_10 := blk_frozen BK317.out 10) | ((with_reducible refine gate_callee (f := 20) rfl ?_); refine goesL_ (some 22) rfl rfl Tryd.func20 (by kernel_rfl) rfl #[.agg #[.int .i64 a0_0, .int .i64 a0_1, .int .i64 a0_2, .int .i64 a0_3, .int .i64 a0_4, .string a0_5, .bool a0_6, .string a0_7, .bool a0_8, .string a0_9, .int .i64 a0_10]] rfl (by (try simp only [List.map_toArray, List.map_cons, List.map_nil]); first | done | rfl | (simp only [List.length_drop, List.length_take]; rfl)) ?_; (with_reducible refine (record_Encode.calls k a0_0 a0_1 a0_2 a0_3 a0_4 a0_5 a0_6 a0_7 a0_8 a0_9 a0_10 t320 t321 _ A12.out).mono ?_); rintro e w18 ⟨rfl, hb⟩; refine ⟨_, rfl, ?_⟩; have n0_ := Aside0.mk (blk_below (g := gb317) (o := .cells #[.int .i64 a0_0, .int .i64 a0_1, .int .i64 a0_2, .int .i64 a0_3, .int .i64 a0_4, .string a0_5, .bool a0_6, .string a0_7, .bool a0_8, .string a0_9, .int .i64 a0_10] 25 (0, 0)) (by (with_reducible repeat (first | refine blk_drewN ?_ _ | refine blk_drew ?_ | refine blk_alloc ?_ _)); exact BK317.out) hb); have n1_ := Aside0.mk (below_step (by repeat (first | (with_reducible first | exact HB.out | apply below_alloc | apply pw_below_drewN | apply below_drew1 | refine below_set ?_ GE317.out) | exact HB.out)) hb); clear BK317; clear HB; have BK317 := n0_; have HB := n1_; clear n0_ n1_; (try clear hb); (try clear hb2); (try clear hk); (try clear hi); have hcz19_0 : w18.cell? ⟨gb317, 0, none⟩ = some (.int .i64 a0_0) := (blk_cell BK317.out 0).trans rfl; have hcz19_1 : w18.cell? ⟨gb317, 1, none⟩ = some (.int .i64 a0_1) := (blk_cell BK317.out 1).trans rfl; have hcz19_2 : w18.cell? ⟨gb317, 2, none⟩ = some (.int .i64 a0_2) := (blk_cell BK317.out 2).trans rfl; have hcz19_3 : w18.cell? ⟨gb317, 3, none⟩ = some (.int .i64 a0_3) := (blk_cell BK317.out 3).trans rfl; have hcz19_4 : w18.cell? ⟨gb317, 4, none⟩ = some (.int .i64 a0_4) := (blk_cell BK317.out 4).trans rfl; have hcz19_5 : w18.cell? ⟨gb317, 5, none⟩ = some (.string a0_5) := (blk_cell BK317.out 5).trans rfl; have hcz19_6 : w18.cell? ⟨gb317, 6, none⟩ = some (.bool a0_6) := (blk_cell BK317.out 6).trans rfl; have hcz19_7 : w18.cell? ⟨gb317, 7, none⟩ = some (.string a0_7) := (blk_cell BK317.out 7).trans rfl; have hcz19_8 : w18.cell? ⟨gb317, 8, none⟩ = some (.bool a0_8) := (blk_cell BK317.out 8).trans rfl; have hcz19_9 : w18.cell? ⟨gb317, 9, none⟩ = some (.string a0_9) := (blk_cell BK317.out 9).trans rfl; have hcz19_10 : w18.cell? ⟨gb317, 10, none⟩ = some (.int .i64 a0_10) := (blk_cell BK317.out 10).trans rfl; have hfz19_0 := blk_frozen BK317.out 0; have hfz19_1 := blk_frozen BK317.out 1; have hfz19_2 := blk_frozen BK317.out 2; have hfz19_3 := blk_frozen BK317.out 3; have hfz19_4 := blk_frozen BK317.out 4; have hfz19_5 := blk_frozen BK317.out 5; have hfz19_6 := blk_frozen BK317.out 6; have hfz19_7 := blk_frozen BK317.out 7; have hfz19_8 := blk_frozen BK317.out 8; have hfz19_9 := blk_frozen BK317.out 9; have hfz19_10 := blk_frozen BK317.out 10) | ((with_reducible refine gate_dst (N := 11) rfl ?_); (try (refine gate_guard (by rfl) ?_; dsimp only)); refine box_event ?hg (N := 11) ?hd (cs := #[.int .i64 0, .int .i64 0, .int .i64 0, .int .i64 0, .int .i64 0, .string (⟨#[]⟩ : ByteArray), .bool false, .string (⟨#[]⟩ : ByteArray), .bool false, .string (⟨#[]⟩ : ByteArray), .int .i64 0]) (t := 25) ?hr ?_; (case hd => rfl); (case hg => rfl); (case hr => first | (go_simp; done) | (go_simp; rfl)); intro gb322 hg w20 hbox hb; have n0_ := Aside0.mk (blk_below (g := gb317) (o := .cells #[.int .i64 a0_0, .int .i64 a0_1, .int .i64 a0_2, .int .i64 a0_3, .int .i64 a0_4, .string a0_5, .bool a0_6, .string a0_7, .bool a0_8, .string a0_9, .int .i64 a0_10] 25 (0, 0)) (by (with_reducible repeat (first | refine blk_drewN ?_ _ | refine blk_drew ?_ | refine blk_alloc ?_ _)); exact BK317.out) hb); have n1_ := Aside0.mk (below_step (by repeat (first | (with_reducible first | exact HB.out | apply below_alloc | apply pw_below_drewN | apply below_drew1 | refine below_set ?_ GE317.out) | exact HB.out)) hb); have n2_ := Aside0.mk (hbox); have n3_ := Aside0.mk ((by rw [hg]; exact (below_size (by repeat (first | (with_reducible first | exact HB.out | apply below_alloc | apply pw_below_drewN | apply below_drew1 | refine below_set ?_ GE317.out) | exact HB.out))) : w.heap.size ≤ gb322)); have n4_ := Aside0.mk ((by rw [hg]; exact (below_size (by repeat (first | (with_reducible first | exact HB.out | apply below_alloc | apply pw_below_drewN | apply below_drew1 | refine below_set ?_ GE317.out) | exact HB.out))) : w.heap.size ≤ gb322)); have n5_ := Aside0.mk ((by rw [hg]; exact Nat.ne_of_lt (blk_lt (g := gb317) (o := .cells #[.int .i64 a0_0, .int .i64 a0_1, .int .i64 a0_2, .int .i64 a0_3, .int .i64 a0_4, .string a0_5, .bool a0_6, .string a0_7, .bool a0_8, .string a0_9, .int .i64 a0_10] 25 (0, 0)) (by (with_reducible repeat (first | refine blk_drewN ?_ _ | refine blk_drew ?_ | refine blk_alloc ?_ _)); exact BK317.out)) : gb317 ≠ gb322)); have n6_ := Aside0.mk ((by rw [hg]; exact Nat.ne_of_gt (blk_lt (g := gb317) (o := .cells #[.int .i64 a0_0, .int .i64 a0_1, .int .i64 a0_2, .int .i64 a0_3, .int .i64 a0_4, .string a0_5, .bool a0_6, .string a0_7, .bool a0_8, .string a0_9, .int .i64 a0_10] 25 (0, 0)) (by (with_reducible repeat (first | refine blk_drewN ?_ _ | refine blk_drew ?_ | refine blk_alloc ?_ _)); exact BK317.out)) : gb322 ≠ gb317)); clear BK317; clear HB; have BK317 := n0_; have HB := n1_; have BK322 := n2_; have GW322 := n3_; have GE322 := n4_; have NB317_322 := n5_; have NB322_317 := n6_; clear n0_ n1_ n2_ n3_ n4_ n5_ n6_; clear hb hbox hg; have hnb21 := NB322_317.out; have hnc21 := NB317_322.out; have hcz22_0 : w20.cell? ⟨gb322, 0, none⟩ = some (.int .i64 0) := (blk_cell BK322.out 0).trans rfl; have hcz22_1 : w20.cell? ⟨gb322, 1, none⟩ = some (.int .i64 0) := (blk_cell BK322.out 1).trans rfl; have hcz22_2 : w20.cell? ⟨gb322, 2, none⟩ = some (.int .i64 0) := (blk_cell BK322.out 2).trans rfl; have hcz22_3 : w20.cell? ⟨gb322, 3, none⟩ = some (.int .i64 0) := (blk_cell BK322.out 3).trans rfl; have hcz22_4 : w20.cell? ⟨gb322, 4, none⟩ = some (.int .i64 0) := (blk_cell BK322.out 4).trans rfl; have hcz22_5 : w20.cell? ⟨gb322, 5, none⟩ = some (.string (⟨#[]⟩ : ByteArray)) := (blk_cell BK322.out 5).trans rfl; have hcz22_6 : w20.cell? ⟨gb322, 6, none⟩ = some (.bool false) := (blk_cell BK322.out 6).trans rfl; have hcz22_7 : w20.cell? ⟨gb322, 7, none⟩ = some (.string (⟨#[]⟩ : ByteArray)) := (blk_cell BK322.out 7).trans rfl; have hcz22_8 : w20.cell? ⟨gb322, 8, none⟩ = some (.bool false) := (blk_cell BK322.out 8).trans rfl; have hcz22_9 : w20.cell? ⟨gb322, 9, none⟩ = some (.string (⟨#[]⟩ : ByteArray)) := (blk_cell BK322.out 9).trans rfl; have hcz22_10 : w20.cell? ⟨gb322, 10, none⟩ = some (.int .i64 0) := (blk_cell BK322.out 10).trans rfl; have hfz22_0 := blk_frozen BK322.out 0; have hfz22_1 := blk_frozen BK322.out 1; have hfz22_2 := blk_frozen BK322.out 2; have hfz22_3 := blk_frozen BK322.out 3; have hfz22_4 := blk_frozen BK322.out 4; have hfz22_5 := blk_frozen BK322.out 5; have hfz22_6 := blk_frozen BK322.out 6; have hfz22_7 := blk_frozen BK322.out 7; have hfz22_8 := blk_frozen BK322.out 8; have hfz22_9 := blk_frozen BK322.out 9; have hfz22_10 := blk_frozen BK322.out 10; have hcz23_0 : w20.cell? ⟨gb317, 0, none⟩ = some (.int .i64 a0_0) := (blk_cell BK317.out 0).trans rfl; have hcz23_1 : w20.cell? ⟨gb317, 1, none⟩ = some (.int .i64 a0_1) := (blk_cell BK317.out 1).trans rfl; have hcz23_2 : w20.cell? ⟨gb317, 2, none⟩ = some (.int .i64 a0_2) := (blk_cell BK317.out 2).trans rfl; have hcz23_3 : w20.cell? ⟨gb317, 3, none⟩ = some (.int .i64 a0_3) := (blk_cell BK317.out 3).trans rfl; have hcz23_4 : w20.cell? ⟨gb317, 4, none⟩ = some (.int .i64 a0_4) := (blk_cell BK317.out 4).trans rfl; have hcz23_5 : w20.cell? ⟨gb317, 5, none⟩ = some (.string a0_5) := (blk_cell BK317.out 5).trans rfl; have hcz23_6 : w20.cell? ⟨gb317, 6, none⟩ = some (.bool a0_6) := (blk_cell BK317.out 6).trans rfl; have hcz23_7 : w20.cell? ⟨gb317, 7, none⟩ = some (.string a0_7) := (blk_cell BK317.out 7).trans rfl; have hcz23_8 : w20.cell? ⟨gb317, 8, none⟩ = some (.bool a0_8) := (blk_cell BK317.out 8).trans rfl; have hcz23_9 : w20.cell? ⟨gb317, 9, none⟩ = some (.string a0_9) := (blk_cell BK317.out 9).trans rfl; have hcz23_10 : w20.cell? ⟨gb317, 10, none⟩ = some (.int .i64 a0_10) := (blk_cell BK317.out 10).trans rfl; have hfz23_0 := blk_frozen BK317.out 0; have hfz23_1 := blk_frozen BK317.out 1; have hfz23_2 := blk_frozen BK317.out 2; have hfz23_3 := blk_frozen BK317.out 3; have hfz23_4 := blk_frozen BK317.out 4; have hfz23_5 := blk_frozen BK317.out 5; have hfz23_6 := blk_frozen BK317.out 6; have hfz23_7 := blk_frozen BK317.out 7; have hfz23_8 := blk_frozen BK317.out 8; have hfz23_9 := blk_frozen BK317.out 9; have hfz23_10 := blk_frozen BK317.out 10))
    (try simp only [Act.put, List.setIfInBounds_toArray, List.set_cons_zero, List.set_cons_succ])
    go_cut [] (fun wc => ∃ (kq : Nat) (x323003_12 : Int), Aside0 (quadrigalaw04_RecordSizes.j0 kq a2 a3 t320 t321 a0_0 a0_1 a0_2 a0_3 a0_4 a0_5 a0_6 a0_7 a0_8 a0_9 a0_10 a0_0 a3 a1 x323003_12 a0_4 a0_5 a0_6 a0_7 a0_8 a0_9 a0_10 = some r) ∧ Aside0 (kq ≤ k) ∧ Aside0 (wc.heap[gb317]? = some (.cells #[.int .i64 a0_0, .int .i64 a0_1, .int .i64 a0_2, .int .i64 a0_3, .int .i64 a0_4, .string a0_5, .bool a0_6, .string a0_7, .bool a0_8, .string a0_9, .int .i64 a0_10] 25 (0, 0))) ∧ Aside0 (wc.heap[gb322]? = some (.cells #[.int .i64 a0_0, .int .i64 a3, .int .i64 a1, .int .i64 x323003_12, .int .i64 a0_4, .string a0_5, .bool a0_6, .string a0_7, .bool a0_8, .string a0_9, .int .i64 a0_10] 25 (0, 0))) ∧ Aside0 (Below w.heap.size w wc))
    case first =>
      have H := HC13.out
      clear HC13
      by_cases c24 : a0_0 = 1
      · rw [if_pos c24] at H
        have c24b0 : (a0_0 == 1) = true := beq_iff_eq.mpr c24
        have c24b1 : (a0_0 != 1) = false := bne_eq_false_iff_eq.mpr c24
        clear c24
        (first | rw [c24b0] | (simp only [i64_w, i32_w]; rw [c24b0]) | skip)
        have H' := Aside0.mk H
        clear H
        go_wp2
        go_meet
        case rel => exact ⟨_, (a0_3), H', ⟨by first | omega | exact Nat.le_refl _⟩, ⟨by (with_reducible repeat (first | refine blk_drewN ?_ _ | refine blk_drew ?_ | refine blk_alloc ?_ _)); refine blk_far ?_ NB317_322.out _; (with_reducible repeat (first | refine blk_drewN ?_ _ | refine blk_drew ?_ | refine blk_alloc ?_ _)); refine blk_far ?_ NB317_322.out _; (with_reducible repeat (first | refine blk_drewN ?_ _ | refine blk_drew ?_ | refine blk_alloc ?_ _)); refine blk_far ?_ NB317_322.out _; (with_reducible repeat (first | refine blk_drewN ?_ _ | refine blk_drew ?_ | refine blk_alloc ?_ _)); refine blk_far ?_ NB317_322.out _; (with_reducible repeat (first | refine blk_drewN ?_ _ | refine blk_drew ?_ | refine blk_alloc ?_ _)); refine blk_far ?_ NB317_322.out _; (with_reducible repeat (first | refine blk_drewN ?_ _ | refine blk_drew ?_ | refine blk_alloc ?_ _)); refine blk_far ?_ NB317_322.out _; (with_reducible repeat (first | refine blk_drewN ?_ _ | refine blk_drew ?_ | refine blk_alloc ?_ _)); refine blk_far ?_ NB317_322.out _; (with_reducible repeat (first | refine blk_drewN ?_ _ | refine blk_drew ?_ | refine blk_alloc ?_ _)); refine blk_far ?_ NB317_322.out _; (with_reducible repeat (first | refine blk_drewN ?_ _ | refine blk_drew ?_ | refine blk_alloc ?_ _)); refine blk_far ?_ NB317_322.out _; (with_reducible repeat (first | refine blk_drewN ?_ _ | refine blk_drew ?_ | refine blk_alloc ?_ _)); refine blk_far ?_ NB317_322.out _; (with_reducible repeat (first | refine blk_drewN ?_ _ | refine blk_drew ?_ | refine blk_alloc ?_ _)); refine blk_far ?_ NB317_322.out _; (with_reducible repeat (first | refine blk_drewN ?_ _ | refine blk_drew ?_ | refine blk_alloc ?_ _)); refine blk_far ?_ NB317_322.out _; (with_reducible repeat (first | refine blk_drewN ?_ _ | refine blk_drew ?_ | refine blk_alloc ?_ _)); refine blk_far ?_ NB317_322.out _; (with_reducible repeat (first | refine blk_drewN ?_ _ | refine blk_drew ?_ | refine blk_alloc ?_ _)); exact BK317.out⟩, ⟨by (with_reducible repeat (first | refine blk_drewN ?_ _ | refine blk_drew ?_ | refine blk_alloc ?_ _)); refine blk_put (cs := #[.int .i64 a0_0, .int .i64 a0_1, .int .i64 a1, .int .i64 a0_3, .int .i64 a0_4, .string a0_5, .bool a0_6, .string a0_7, .bool a0_8, .string a0_9, .int .i64 a0_10]) ?_ 1 _ rfl; (with_reducible repeat (first | refine blk_drewN ?_ _ | refine blk_drew ?_ | refine blk_alloc ?_ _)); refine blk_put (cs := #[.int .i64 a0_0, .int .i64 a0_1, .int .i64 a0_2, .int .i64 a0_3, .int .i64 a0_4, .string a0_5, .bool a0_6, .string a0_7, .bool a0_8, .string a0_9, .int .i64 a0_10]) ?_ 2 _ rfl; (with_reducible repeat (first | refine blk_drewN ?_ _ | refine blk_drew ?_ | refine blk_alloc ?_ _)); refine blk_put (cs := #[.int .i64 a0_0, .int .i64 a0_1, .int .i64 a0_2, .int .i64 a0_3, .int .i64 a0_4, .string a0_5, .bool a0_6, .string a0_7, .bool a0_8, .string a0_9, .int .i64 0]) ?_ 10 _ rfl; (with_reducible repeat (first | refine blk_drewN ?_ _ | refine blk_drew ?_ | refine blk_alloc ?_ _)); refine blk_put (cs := #[.int .i64 a0_0, .int .i64 a0_1, .int .i64 a0_2, .int .i64 a0_3, .int .i64 a0_4, .string a0_5, .bool a0_6, .string a0_7, .bool a0_8, .string (⟨#[]⟩ : ByteArray), .int .i64 0]) ?_ 9 _ rfl; (with_reducible repeat (first | refine blk_drewN ?_ _ | refine blk_drew ?_ | refine blk_alloc ?_ _)); refine blk_put (cs := #[.int .i64 a0_0, .int .i64 a0_1, .int .i64 a0_2, .int .i64 a0_3, .int .i64 a0_4, .string a0_5, .bool a0_6, .string a0_7, .bool false, .string (⟨#[]⟩ : ByteArray), .int .i64 0]) ?_ 8 _ rfl; (with_reducible repeat (first | refine blk_drewN ?_ _ | refine blk_drew ?_ | refine blk_alloc ?_ _)); refine blk_put (cs := #[.int .i64 a0_0, .int .i64 a0_1, .int .i64 a0_2, .int .i64 a0_3, .int .i64 a0_4, .string a0_5, .bool a0_6, .string (⟨#[]⟩ : ByteArray), .bool false, .string (⟨#[]⟩ : ByteArray), .int .i64 0]) ?_ 7 _ rfl; (with_reducible repeat (first | refine blk_drewN ?_ _ | refine blk_drew ?_ | refine blk_alloc ?_ _)); refine blk_put (cs := #[.int .i64 a0_0, .int .i64 a0_1, .int .i64 a0_2, .int .i64 a0_3, .int .i64 a0_4, .string a0_5, .bool false, .string (⟨#[]⟩ : ByteArray), .bool false, .string (⟨#[]⟩ : ByteArray), .int .i64 0]) ?_ 6 _ rfl; (with_reducible repeat (first | refine blk_drewN ?_ _ | refine blk_drew ?_ | refine blk_alloc ?_ _)); refine blk_put (cs := #[.int .i64 a0_0, .int .i64 a0_1, .int .i64 a0_2, .int .i64 a0_3, .int .i64 a0_4, .string (⟨#[]⟩ : ByteArray), .bool false, .string (⟨#[]⟩ : ByteArray), .bool false, .string (⟨#[]⟩ : ByteArray), .int .i64 0]) ?_ 5 _ rfl; (with_reducible repeat (first | refine blk_drewN ?_ _ | refine blk_drew ?_ | refine blk_alloc ?_ _)); refine blk_put (cs := #[.int .i64 a0_0, .int .i64 a0_1, .int .i64 a0_2, .int .i64 a0_3, .int .i64 0, .string (⟨#[]⟩ : ByteArray), .bool false, .string (⟨#[]⟩ : ByteArray), .bool false, .string (⟨#[]⟩ : ByteArray), .int .i64 0]) ?_ 4 _ rfl; (with_reducible repeat (first | refine blk_drewN ?_ _ | refine blk_drew ?_ | refine blk_alloc ?_ _)); refine blk_put (cs := #[.int .i64 a0_0, .int .i64 a0_1, .int .i64 a0_2, .int .i64 0, .int .i64 0, .string (⟨#[]⟩ : ByteArray), .bool false, .string (⟨#[]⟩ : ByteArray), .bool false, .string (⟨#[]⟩ : ByteArray), .int .i64 0]) ?_ 3 _ rfl; (with_reducible repeat (first | refine blk_drewN ?_ _ | refine blk_drew ?_ | refine blk_alloc ?_ _)); refine blk_put (cs := #[.int .i64 a0_0, .int .i64 a0_1, .int .i64 0, .int .i64 0, .int .i64 0, .string (⟨#[]⟩ : ByteArray), .bool false, .string (⟨#[]⟩ : ByteArray), .bool false, .string (⟨#[]⟩ : ByteArray), .int .i64 0]) ?_ 2 _ rfl; (with_reducible repeat (first | refine blk_drewN ?_ _ | refine blk_drew ?_ | refine blk_alloc ?_ _)); refine blk_put (cs := #[.int .i64 a0_0, .int .i64 0, .int .i64 0, .int .i64 0, .int .i64 0, .string (⟨#[]⟩ : ByteArray), .bool false, .string (⟨#[]⟩ : ByteArray), .bool false, .string (⟨#[]⟩ : ByteArray), .int .i64 0]) ?_ 1 _ rfl; (with_reducible repeat (first | refine blk_drewN ?_ _ | refine blk_drew ?_ | refine blk_alloc ?_ _)); refine blk_put (cs := #[.int .i64 0, .int .i64 0, .int .i64 0, .int .i64 0, .int .i64 0, .string (⟨#[]⟩ : ByteArray), .bool false, .string (⟨#[]⟩ : ByteArray), .bool false, .string (⟨#[]⟩ : ByteArray), .int .i64 0]) ?_ 0 _ rfl; (with_reducible repeat (first | refine blk_drewN ?_ _ | refine blk_drew ?_ | refine blk_alloc ?_ _)); exact BK322.out⟩, ⟨by repeat (first | (with_reducible first | exact HB.out | apply below_alloc | apply pw_below_drewN | apply below_drew1 | refine below_set ?_ GE317.out | refine below_set ?_ GE322.out) | exact HB.out)⟩⟩
      · rw [if_neg c24] at H
        have c24b0 : (a0_0 == 1) = false := beq_eq_false_iff_ne.mpr c24
        have c24b1 : (a0_0 != 1) = true := bne_iff_ne.mpr c24
        (first | rw [c24b0] | (simp only [i64_w, i32_w]; rw [c24b0]) | skip)
        have H' := Aside0.mk H
        clear H
        have hnb25 := NB322_317.out
        have hnc25 := NB317_322.out
        have hcz26_0 : w20.cell? ⟨gb322, 0, none⟩ = some (.int .i64 0) := (blk_cell BK322.out 0).trans rfl
        have hcz26_1 : w20.cell? ⟨gb322, 1, none⟩ = some (.int .i64 0) := (blk_cell BK322.out 1).trans rfl
        have hcz26_2 : w20.cell? ⟨gb322, 2, none⟩ = some (.int .i64 0) := (blk_cell BK322.out 2).trans rfl
        have hcz26_3 : w20.cell? ⟨gb322, 3, none⟩ = some (.int .i64 0) := (blk_cell BK322.out 3).trans rfl
        have hcz26_4 : w20.cell? ⟨gb322, 4, none⟩ = some (.int .i64 0) := (blk_cell BK322.out 4).trans rfl
        have hcz26_5 : w20.cell? ⟨gb322, 5, none⟩ = some (.string (⟨#[]⟩ : ByteArray)) := (blk_cell BK322.out 5).trans rfl
        have hcz26_6 : w20.cell? ⟨gb322, 6, none⟩ = some (.bool false) := (blk_cell BK322.out 6).trans rfl
        have hcz26_7 : w20.cell? ⟨gb322, 7, none⟩ = some (.string (⟨#[]⟩ : ByteArray)) := (blk_cell BK322.out 7).trans rfl
        have hcz26_8 : w20.cell? ⟨gb322, 8, none⟩ = some (.bool false) := (blk_cell BK322.out 8).trans rfl
        have hcz26_9 : w20.cell? ⟨gb322, 9, none⟩ = some (.string (⟨#[]⟩ : ByteArray)) := (blk_cell BK322.out 9).trans rfl
        have hcz26_10 : w20.cell? ⟨gb322, 10, none⟩ = some (.int .i64 0) := (blk_cell BK322.out 10).trans rfl
        have hfz26_0 := blk_frozen BK322.out 0
        have hfz26_1 := blk_frozen BK322.out 1
        have hfz26_2 := blk_frozen BK322.out 2
        have hfz26_3 := blk_frozen BK322.out 3
        have hfz26_4 := blk_frozen BK322.out 4
        have hfz26_5 := blk_frozen BK322.out 5
        have hfz26_6 := blk_frozen BK322.out 6
        have hfz26_7 := blk_frozen BK322.out 7
        have hfz26_8 := blk_frozen BK322.out 8
        have hfz26_9 := blk_frozen BK322.out 9
        have hfz26_10 := blk_frozen BK322.out 10
        go_wp2
        go_meet
        case rel => exact ⟨_, (a2), H', ⟨by first | omega | exact Nat.le_refl _⟩, ⟨by (with_reducible repeat (first | refine blk_drewN ?_ _ | refine blk_drew ?_ | refine blk_alloc ?_ _)); refine blk_far ?_ NB317_322.out _; (with_reducible repeat (first | refine blk_drewN ?_ _ | refine blk_drew ?_ | refine blk_alloc ?_ _)); refine blk_far ?_ NB317_322.out _; (with_reducible repeat (first | refine blk_drewN ?_ _ | refine blk_drew ?_ | refine blk_alloc ?_ _)); refine blk_far ?_ NB317_322.out _; (with_reducible repeat (first | refine blk_drewN ?_ _ | refine blk_drew ?_ | refine blk_alloc ?_ _)); refine blk_far ?_ NB317_322.out _; (with_reducible repeat (first | refine blk_drewN ?_ _ | refine blk_drew ?_ | refine blk_alloc ?_ _)); refine blk_far ?_ NB317_322.out _; (with_reducible repeat (first | refine blk_drewN ?_ _ | refine blk_drew ?_ | refine blk_alloc ?_ _)); refine blk_far ?_ NB317_322.out _; (with_reducible repeat (first | refine blk_drewN ?_ _ | refine blk_drew ?_ | refine blk_alloc ?_ _)); refine blk_far ?_ NB317_322.out _; (with_reducible repeat (first | refine blk_drewN ?_ _ | refine blk_drew ?_ | refine blk_alloc ?_ _)); refine blk_far ?_ NB317_322.out _; (with_reducible repeat (first | refine blk_drewN ?_ _ | refine blk_drew ?_ | refine blk_alloc ?_ _)); refine blk_far ?_ NB317_322.out _; (with_reducible repeat (first | refine blk_drewN ?_ _ | refine blk_drew ?_ | refine blk_alloc ?_ _)); refine blk_far ?_ NB317_322.out _; (with_reducible repeat (first | refine blk_drewN ?_ _ | refine blk_drew ?_ | refine blk_alloc ?_ _)); refine blk_far ?_ NB317_322.out _; (with_reducible repeat (first | refine blk_drewN ?_ _ | refine blk_drew ?_ | refine blk_alloc ?_ _)); refine blk_far ?_ NB317_322.out _; (with_reducible repeat (first | refine blk_drewN ?_ _ | refine blk_drew ?_ | refine blk_alloc ?_ _)); refine blk_far ?_ NB317_322.out _; (with_reducible repeat (first | refine blk_drewN ?_ _ | refine blk_drew ?_ | refine blk_alloc ?_ _)); refine blk_far ?_ NB317_322.out _; (with_reducible repeat (first | refine blk_drewN ?_ _ | refine blk_drew ?_ | refine blk_alloc ?_ _)); exact BK317.out⟩, ⟨by (with_reducible repeat (first | refine blk_drewN ?_ _ | refine blk_drew ?_ | refine blk_alloc ?_ _)); refine blk_put (cs := #[.int .i64 a0_0, .int .i64 a3, .int .i64 a1, .int .i64 a0_3, .int .i64 a0_4, .string a0_5, .bool a0_6, .string a0_7, .bool a0_8, .string a0_9, .int .i64 a0_10]) ?_ 3 _ rfl; (with_reducible repeat (first | refine blk_drewN ?_ _ | refine blk_drew ?_ | refine blk_alloc ?_ _)); refine blk_put (cs := #[.int .i64 a0_0, .int .i64 a0_1, .int .i64 a1, .int .i64 a0_3, .int .i64 a0_4, .string a0_5, .bool a0_6, .string a0_7, .bool a0_8, .string a0_9, .int .i64 a0_10]) ?_ 1 _ rfl; (with_reducible repeat (first | refine blk_drewN ?_ _ | refine blk_drew ?_ | refine blk_alloc ?_ _)); refine blk_put (cs := #[.int .i64 a0_0, .int .i64 a0_1, .int .i64 a0_2, .int .i64 a0_3, .int .i64 a0_4, .string a0_5, .bool a0_6, .string a0_7, .bool a0_8, .string a0_9, .int .i64 a0_10]) ?_ 2 _ rfl; (with_reducible repeat (first | refine blk_drewN ?_ _ | refine blk_drew ?_ | refine blk_alloc ?_ _)); refine blk_put (cs := #[.int .i64 a0_0, .int .i64 a0_1, .int .i64 a0_2, .int .i64 a0_3, .int .i64 a0_4, .string a0_5, .bool a0_6, .string a0_7, .bool a0_8, .string a0_9, .int .i64 0]) ?_ 10 _ rfl; (with_reducible repeat (first | refine blk_drewN ?_ _ | refine blk_drew ?_ | refine blk_alloc ?_ _)); refine blk_put (cs := #[.int .i64 a0_0, .int .i64 a0_1, .int .i64 a0_2, .int .i64 a0_3, .int .i64 a0_4, .string a0_5, .bool a0_6, .string a0_7, .bool a0_8, .string (⟨#[]⟩ : ByteArray), .int .i64 0]) ?_ 9 _ rfl; (with_reducible repeat (first | refine blk_drewN ?_ _ | refine blk_drew ?_ | refine blk_alloc ?_ _)); refine blk_put (cs := #[.int .i64 a0_0, .int .i64 a0_1, .int .i64 a0_2, .int .i64 a0_3, .int .i64 a0_4, .string a0_5, .bool a0_6, .string a0_7, .bool false, .string (⟨#[]⟩ : ByteArray), .int .i64 0]) ?_ 8 _ rfl; (with_reducible repeat (first | refine blk_drewN ?_ _ | refine blk_drew ?_ | refine blk_alloc ?_ _)); refine blk_put (cs := #[.int .i64 a0_0, .int .i64 a0_1, .int .i64 a0_2, .int .i64 a0_3, .int .i64 a0_4, .string a0_5, .bool a0_6, .string (⟨#[]⟩ : ByteArray), .bool false, .string (⟨#[]⟩ : ByteArray), .int .i64 0]) ?_ 7 _ rfl; (with_reducible repeat (first | refine blk_drewN ?_ _ | refine blk_drew ?_ | refine blk_alloc ?_ _)); refine blk_put (cs := #[.int .i64 a0_0, .int .i64 a0_1, .int .i64 a0_2, .int .i64 a0_3, .int .i64 a0_4, .string a0_5, .bool false, .string (⟨#[]⟩ : ByteArray), .bool false, .string (⟨#[]⟩ : ByteArray), .int .i64 0]) ?_ 6 _ rfl; (with_reducible repeat (first | refine blk_drewN ?_ _ | refine blk_drew ?_ | refine blk_alloc ?_ _)); refine blk_put (cs := #[.int .i64 a0_0, .int .i64 a0_1, .int .i64 a0_2, .int .i64 a0_3, .int .i64 a0_4, .string (⟨#[]⟩ : ByteArray), .bool false, .string (⟨#[]⟩ : ByteArray), .bool false, .string (⟨#[]⟩ : ByteArray), .int .i64 0]) ?_ 5 _ rfl; (with_reducible repeat (first | refine blk_drewN ?_ _ | refine blk_drew ?_ | refine blk_alloc ?_ _)); refine blk_put (cs := #[.int .i64 a0_0, .int .i64 a0_1, .int .i64 a0_2, .int .i64 a0_3, .int .i64 0, .string (⟨#[]⟩ : ByteArray), .bool false, .string (⟨#[]⟩ : ByteArray), .bool false, .string (⟨#[]⟩ : ByteArray), .int .i64 0]) ?_ 4 _ rfl; (with_reducible repeat (first | refine blk_drewN ?_ _ | refine blk_drew ?_ | refine blk_alloc ?_ _)); refine blk_put (cs := #[.int .i64 a0_0, .int .i64 a0_1, .int .i64 a0_2, .int .i64 0, .int .i64 0, .string (⟨#[]⟩ : ByteArray), .bool false, .string (⟨#[]⟩ : ByteArray), .bool false, .string (⟨#[]⟩ : ByteArray), .int .i64 0]) ?_ 3 _ rfl; (with_reducible repeat (first | refine blk_drewN ?_ _ | refine blk_drew ?_ | refine blk_alloc ?_ _)); refine blk_put (cs := #[.int .i64 a0_0, .int .i64 a0_1, .int .i64 0, .int .i64 0, .int .i64 0, .string (⟨#[]⟩ : ByteArray), .bool false, .string (⟨#[]⟩ : ByteArray), .bool false, .string (⟨#[]⟩ : ByteArray), .int .i64 0]) ?_ 2 _ rfl; (with_reducible repeat (first | refine blk_drewN ?_ _ | refine blk_drew ?_ | refine blk_alloc ?_ _)); refine blk_put (cs := #[.int .i64 a0_0, .int .i64 0, .int .i64 0, .int .i64 0, .int .i64 0, .string (⟨#[]⟩ : ByteArray), .bool false, .string (⟨#[]⟩ : ByteArray), .bool false, .string (⟨#[]⟩ : ByteArray), .int .i64 0]) ?_ 1 _ rfl; (with_reducible repeat (first | refine blk_drewN ?_ _ | refine blk_drew ?_ | refine blk_alloc ?_ _)); refine blk_put (cs := #[.int .i64 0, .int .i64 0, .int .i64 0, .int .i64 0, .int .i64 0, .string (⟨#[]⟩ : ByteArray), .bool false, .string (⟨#[]⟩ : ByteArray), .bool false, .string (⟨#[]⟩ : ByteArray), .int .i64 0]) ?_ 0 _ rfl; (with_reducible repeat (first | refine blk_drewN ?_ _ | refine blk_drew ?_ | refine blk_alloc ?_ _)); exact BK322.out⟩, ⟨by repeat (first | (with_reducible first | exact HB.out | apply below_alloc | apply pw_below_drewN | apply below_drew1 | refine below_set ?_ GE317.out | refine below_set ?_ GE322.out) | exact HB.out)⟩⟩
    case rest =>
      clear HC13
      try clear c2
      try clear p2
      try clear c6
      try clear c8
      try clear c9
      try clear c20
      try clear c21
      try clear c24
      try clear c24b0
      try clear c24b1
      try clear c25
      try clear hcz15_0
      try clear hcz15_1
      try clear hcz15_10
      try clear hcz15_2
      try clear hcz15_3
      try clear hcz15_4
      try clear hcz15_5
      try clear hcz15_6
      try clear hcz15_7
      try clear hcz15_8
      try clear hcz15_9
      try clear hcz17_0
      try clear hcz17_1
      try clear hcz17_10
      try clear hcz17_2
      try clear hcz17_3
      try clear hcz17_4
      try clear hcz17_5
      try clear hcz17_6
      try clear hcz17_7
      try clear hcz17_8
      try clear hcz17_9
      try clear hcz19_0
      try clear hcz19_1
      try clear hcz19_10
      try clear hcz19_2
      try clear hcz19_3
      try clear hcz19_4
      try clear hcz19_5
      try clear hcz19_6
      try clear hcz19_7
      try clear hcz19_8
      try clear hcz19_9
      try clear hcz22_0
      try clear hcz22_1
      try clear hcz22_10
      try clear hcz22_2
      try clear hcz22_3
      try clear hcz22_4
      try clear hcz22_5
      try clear hcz22_6
      try clear hcz22_7
      try clear hcz22_8
      try clear hcz22_9
      try clear hcz23_0
      try clear hcz23_1
      try clear hcz23_10
      try clear hcz23_2
      try clear hcz23_3
      try clear hcz23_4
      try clear hcz23_5
      try clear hcz23_6
      try clear hcz23_7
      try clear hcz23_8
      try clear hcz23_9
      try clear hcz26_0
      try clear hcz26_1
      try clear hcz26_10
      try clear hcz26_2
      try clear hcz26_3
      try clear hcz26_4
      try clear hcz26_5
      try clear hcz26_6
      try clear hcz26_7
      try clear hcz26_8
      try clear hcz26_9
      try clear hcz9_0
      try clear hcz9_1
      try clear hcz9_10
      try clear hcz9_2
      try clear hcz9_3
      try clear hcz9_4
      try clear hcz9_5
      try clear hcz9_6
      try clear hcz9_7
      try clear hcz9_8
      try clear hcz9_9
      try clear hfz15_0
      try clear hfz15_1
      try clear hfz15_10
      try clear hfz15_2
      try clear hfz15_3
      try clear hfz15_4
      try clear hfz15_5
      try clear hfz15_6
      try clear hfz15_7
      try clear hfz15_8
      try clear hfz15_9
      try clear hfz17_0
      try clear hfz17_1
      try clear hfz17_10
      try clear hfz17_2
      try clear hfz17_3
      try clear hfz17_4
      try clear hfz17_5
      try clear hfz17_6
      try clear hfz17_7
      try clear hfz17_8
      try clear hfz17_9
      try clear hfz19_0
      try clear hfz19_1
      try clear hfz19_10
      try clear hfz19_2
      try clear hfz19_3
      try clear hfz19_4
      try clear hfz19_5
      try clear hfz19_6
      try clear hfz19_7
      try clear hfz19_8
      try clear hfz19_9
      try clear hfz22_0
      try clear hfz22_1
      try clear hfz22_10
      try clear hfz22_2
      try clear hfz22_3
      try clear hfz22_4
      try clear hfz22_5
      try clear hfz22_6
      try clear hfz22_7
      try clear hfz22_8
      try clear hfz22_9
      try clear hfz23_0
      try clear hfz23_1
      try clear hfz23_10
      try clear hfz23_2
      try clear hfz23_3
      try clear hfz23_4
      try clear hfz23_5
      try clear hfz23_6
      try clear hfz23_7
      try clear hfz23_8
      try clear hfz23_9
      try clear hfz26_0
      try clear hfz26_1
      try clear hfz26_10
      try clear hfz26_2
      try clear hfz26_3
      try clear hfz26_4
      try clear hfz26_5
      try clear hfz26_6
      try clear hfz26_7
      try clear hfz26_8
      try clear hfz26_9
      try clear hfz9_0
      try clear hfz9_1
      try clear hfz9_10
      try clear hfz9_2
      try clear hfz9_3
      try clear hfz9_4
      try clear hfz9_5
      try clear hfz9_6
      try clear hfz9_7
      try clear hfz9_8
      try clear hfz9_9
      obtain ⟨kq, x323003_12, HA, HJ12, BK317, BK322, HB⟩ := hcut
      cases kq with
      | zero => exact absurd HA.out (by simp [quadrigalaw04_RecordSizes.j0])
      | succ kj12 =>
        have H := HA.out
        clear HA
        simp only [quadrigalaw04_RecordSizes.j0] at H
        have HC27 := Aside0.mk H
        clear H
        have hnb28 := NB317_322.out
        have hnc28 := NB322_317.out
        have hcz29_0 : wc.cell? ⟨gb317, 0, none⟩ = some (.int .i64 a0_0) := (blk_cell BK317.out 0).trans rfl
        have hcz29_1 : wc.cell? ⟨gb317, 1, none⟩ = some (.int .i64 a0_1) := (blk_cell BK317.out 1).trans rfl
        have hcz29_2 : wc.cell? ⟨gb317, 2, none⟩ = some (.int .i64 a0_2) := (blk_cell BK317.out 2).trans rfl
        have hcz29_3 : wc.cell? ⟨gb317, 3, none⟩ = some (.int .i64 a0_3) := (blk_cell BK317.out 3).trans rfl
        have hcz29_4 : wc.cell? ⟨gb317, 4, none⟩ = some (.int .i64 a0_4) := (blk_cell BK317.out 4).trans rfl
        have hcz29_5 : wc.cell? ⟨gb317, 5, none⟩ = some (.string a0_5) := (blk_cell BK317.out 5).trans rfl
        have hcz29_6 : wc.cell? ⟨gb317, 6, none⟩ = some (.bool a0_6) := (blk_cell BK317.out 6).trans rfl
        have hcz29_7 : wc.cell? ⟨gb317, 7, none⟩ = some (.string a0_7) := (blk_cell BK317.out 7).trans rfl
        have hcz29_8 : wc.cell? ⟨gb317, 8, none⟩ = some (.bool a0_8) := (blk_cell BK317.out 8).trans rfl
        have hcz29_9 : wc.cell? ⟨gb317, 9, none⟩ = some (.string a0_9) := (blk_cell BK317.out 9).trans rfl
        have hcz29_10 : wc.cell? ⟨gb317, 10, none⟩ = some (.int .i64 a0_10) := (blk_cell BK317.out 10).trans rfl
        have hfz29_0 := blk_frozen BK317.out 0
        have hfz29_1 := blk_frozen BK317.out 1
        have hfz29_2 := blk_frozen BK317.out 2
        have hfz29_3 := blk_frozen BK317.out 3
        have hfz29_4 := blk_frozen BK317.out 4
        have hfz29_5 := blk_frozen BK317.out 5
        have hfz29_6 := blk_frozen BK317.out 6
        have hfz29_7 := blk_frozen BK317.out 7
        have hfz29_8 := blk_frozen BK317.out 8
        have hfz29_9 := blk_frozen BK317.out 9
        have hfz29_10 := blk_frozen BK317.out 10
        go_upto_if 37 with (fail)
        go_cut [] (fun wc => ∃ (kq : Nat) (x323010_26 : Int), Aside0 (quadrigalaw04_RecordSizes.j1 kq a2 a3 t320 t321 a0_0 a0_1 a0_2 a0_3 a0_4 a0_5 a0_6 a0_7 a0_8 a0_9 a0_10 a0_0 a3 a1 x323003_12 a0_4 a0_5 a0_6 a0_7 a0_8 a0_9 x323010_26 = some r) ∧ Aside0 (kq ≤ kj12) ∧ Aside0 (wc.heap[gb317]? = some (.cells #[.int .i64 a0_0, .int .i64 a0_1, .int .i64 a0_2, .int .i64 a0_3, .int .i64 a0_4, .string a0_5, .bool a0_6, .string a0_7, .bool a0_8, .string a0_9, .int .i64 a0_10] 25 (0, 0))) ∧ Aside0 (wc.heap[gb322]? = some (.cells #[.int .i64 a0_0, .int .i64 a3, .int .i64 a1, .int .i64 x323003_12, .int .i64 a0_4, .string a0_5, .bool a0_6, .string a0_7, .bool a0_8, .string a0_9, .int .i64 x323010_26] 25 (0, 0))) ∧ Aside0 (Below w.heap.size w wc))
        case first =>
          have H := HC27.out
          clear HC27
          by_cases c30 : a0_0 = 3
          · rw [if_pos c30] at H
            have c30b0 : (a0_0 == 3) = true := beq_iff_eq.mpr c30
            have c30b1 : (a0_0 != 3) = false := bne_eq_false_iff_eq.mpr c30
            clear c30
            (first | rw [c30b0] | (simp only [i64_w, i32_w]; rw [c30b0]) | skip)
            have H' := Aside0.mk H
            clear H
            have hnb31 := NB322_317.out
            have hnc31 := NB317_322.out
            have hcz32_0 : wc.cell? ⟨gb322, 0, none⟩ = some (.int .i64 a0_0) := (blk_cell BK322.out 0).trans rfl
            have hcz32_1 : wc.cell? ⟨gb322, 1, none⟩ = some (.int .i64 a3) := (blk_cell BK322.out 1).trans rfl
            have hcz32_2 : wc.cell? ⟨gb322, 2, none⟩ = some (.int .i64 a1) := (blk_cell BK322.out 2).trans rfl
            have hcz32_3 : wc.cell? ⟨gb322, 3, none⟩ = some (.int .i64 x323003_12) := (blk_cell BK322.out 3).trans rfl
            have hcz32_4 : wc.cell? ⟨gb322, 4, none⟩ = some (.int .i64 a0_4) := (blk_cell BK322.out 4).trans rfl
            have hcz32_5 : wc.cell? ⟨gb322, 5, none⟩ = some (.string a0_5) := (blk_cell BK322.out 5).trans rfl
            have hcz32_6 : wc.cell? ⟨gb322, 6, none⟩ = some (.bool a0_6) := (blk_cell BK322.out 6).trans rfl
            have hcz32_7 : wc.cell? ⟨gb322, 7, none⟩ = some (.string a0_7) := (blk_cell BK322.out 7).trans rfl
            have hcz32_8 : wc.cell? ⟨gb322, 8, none⟩ = some (.bool a0_8) := (blk_cell BK322.out 8).trans rfl
            have hcz32_9 : wc.cell? ⟨gb322, 9, none⟩ = some (.string a0_9) := (blk_cell BK322.out 9).trans rfl
            have hcz32_10 : wc.cell? ⟨gb322, 10, none⟩ = some (.int .i64 a0_10) := (blk_cell BK322.out 10).trans rfl
            have hfz32_0 := blk_frozen BK322.out 0
            have hfz32_1 := blk_frozen BK322.out 1
            have hfz32_2 := blk_frozen BK322.out 2
            have hfz32_3 := blk_frozen BK322.out 3
            have hfz32_4 := blk_frozen BK322.out 4
            have hfz32_5 := blk_frozen BK322.out 5
            have hfz32_6 := blk_frozen BK322.out 6
            have hfz32_7 := blk_frozen BK322.out 7
            have hfz32_8 := blk_frozen BK322.out 8
            have hfz32_9 := blk_frozen BK322.out 9
            have hfz32_10 := blk_frozen BK322.out 10
            go_wp2
            go_meet
            case rel => exact ⟨_, (1), H', ⟨by have := HJ12.out; first | omega | exact Nat.le_refl _⟩, ⟨by (with_reducible repeat (first | refine blk_drewN ?_ _ | refine blk_drew ?_ | refine blk_alloc ?_ _)); refine blk_far ?_ NB317_322.out _; (with_reducible repeat (first | refine blk_drewN ?_ _ | refine blk_drew ?_ | refine blk_alloc ?_ _)); exact BK317.out⟩, ⟨by (with_reducible repeat (first | refine blk_drewN ?_ _ | refine blk_drew ?_ | refine blk_alloc ?_ _)); refine blk_put (cs := #[.int .i64 a0_0, .int .i64 a3, .int .i64 a1, .int .i64 x323003_12, .int .i64 a0_4, .string a0_5, .bool a0_6, .string a0_7, .bool a0_8, .string a0_9, .int .i64 a0_10]) ?_ 10 _ rfl; (with_reducible repeat (first | refine blk_drewN ?_ _ | refine blk_drew ?_ | refine blk_alloc ?_ _)); exact BK322.out⟩, ⟨by repeat (first | (with_reducible first | exact HB.out | apply below_alloc | apply pw_below_drewN | apply below_drew1 | refine below_set ?_ GE317.out | refine below_set ?_ GE322.out) | exact HB.out)⟩⟩
          · rw [if_neg c30] at H
            have c30b0 : (a0_0 == 3) = false := beq_eq_false_iff_ne.mpr c30
            have c30b1 : (a0_0 != 3) = true := bne_iff_ne.mpr c30
            (first | rw [c30b0] | (simp only [i64_w, i32_w]; rw [c30b0]) | skip)
            have H' := Aside0.mk H
            clear H
            go_wp2
            go_meet
            case rel => exact ⟨_, (a0_10), H', ⟨by have := HJ12.out; first | omega | exact Nat.le_refl _⟩, ⟨by (with_reducible repeat (first | refine blk_drewN ?_ _ | refine blk_drew ?_ | refine blk_alloc ?_ _)); exact BK317.out⟩, ⟨by (with_reducible repeat (first | refine blk_drewN ?_ _ | refine blk_drew ?_ | refine blk_alloc ?_ _)); exact BK322.out⟩, ⟨by repeat (first | (with_reducible first | exact HB.out | apply below_alloc | apply pw_below_drewN | apply below_drew1 | refine below_set ?_ GE317.out | refine below_set ?_ GE322.out) | exact HB.out)⟩⟩
        case rest =>
          clear HC27
          try clear c2
          try clear p2
          try clear c3
          try clear c6
          try clear c8
          try clear c9
          try clear c20
          try clear c21
          try clear c24
          try clear c24b0
          try clear c24b1
          try clear c25
          try clear c28
          try clear c30
          try clear c30b0
          try clear c30b1
          try clear c31
          try clear hcz15_0
          try clear hcz15_1
          try clear hcz15_10
          try clear hcz15_2
          try clear hcz15_3
          try clear hcz15_4
          try clear hcz15_5
          try clear hcz15_6
          try clear hcz15_7
          try clear hcz15_8
          try clear hcz15_9
          try clear hcz17_0
          try clear hcz17_1
          try clear hcz17_10
          try clear hcz17_2
          try clear hcz17_3
          try clear hcz17_4
          try clear hcz17_5
          try clear hcz17_6
          try clear hcz17_7
          try clear hcz17_8
          try clear hcz17_9
          try clear hcz19_0
          try clear hcz19_1
          try clear hcz19_10
          try clear hcz19_2
          try clear hcz19_3
          try clear hcz19_4
          try clear hcz19_5
          try clear hcz19_6
          try clear hcz19_7
          try clear hcz19_8
          try clear hcz19_9
          try clear hcz22_0
          try clear hcz22_1
          try clear hcz22_10
          try clear hcz22_2
          try clear hcz22_3
          try clear hcz22_4
          try clear hcz22_5
          try clear hcz22_6
          try clear hcz22_7
          try clear hcz22_8
          try clear hcz22_9
          try clear hcz23_0
          try clear hcz23_1
          try clear hcz23_10
          try clear hcz23_2
          try clear hcz23_3
          try clear hcz23_4
          try clear hcz23_5
          try clear hcz23_6
          try clear hcz23_7
          try clear hcz23_8
          try clear hcz23_9
          try clear hcz26_0
          try clear hcz26_1
          try clear hcz26_10
          try clear hcz26_2
          try clear hcz26_3
          try clear hcz26_4
          try clear hcz26_5
          try clear hcz26_6
          try clear hcz26_7
          try clear hcz26_8
          try clear hcz26_9
          try clear hcz29_0
          try clear hcz29_1
          try clear hcz29_10
          try clear hcz29_2
          try clear hcz29_3
          try clear hcz29_4
          try clear hcz29_5
          try clear hcz29_6
          try clear hcz29_7
          try clear hcz29_8
          try clear hcz29_9
          try clear hcz32_0
          try clear hcz32_1
          try clear hcz32_10
          try clear hcz32_2
          try clear hcz32_3
          try clear hcz32_4
          try clear hcz32_5
          try clear hcz32_6
          try clear hcz32_7
          try clear hcz32_8
          try clear hcz32_9
          try clear hcz9_0
          try clear hcz9_1
          try clear hcz9_10
          try clear hcz9_2
          try clear hcz9_3
          try clear hcz9_4
          try clear hcz9_5
          try clear hcz9_6
          try clear hcz9_7
          try clear hcz9_8
          try clear hcz9_9
          try clear hfz15_0
          try clear hfz15_1
          try clear hfz15_10
          try clear hfz15_2
          try clear hfz15_3
          try clear hfz15_4
          try clear hfz15_5
          try clear hfz15_6
          try clear hfz15_7
          try clear hfz15_8
          try clear hfz15_9
          try clear hfz17_0
          try clear hfz17_1
          try clear hfz17_10
          try clear hfz17_2
          try clear hfz17_3
          try clear hfz17_4
          try clear hfz17_5
          try clear hfz17_6
          try clear hfz17_7
          try clear hfz17_8
          try clear hfz17_9
          try clear hfz19_0
          try clear hfz19_1
          try clear hfz19_10
          try clear hfz19_2
          try clear hfz19_3
          try clear hfz19_4
          try clear hfz19_5
          try clear hfz19_6
          try clear hfz19_7
          try clear hfz19_8
          try clear hfz19_9
          try clear hfz22_0
          try clear hfz22_1
          try clear hfz22_10
          try clear hfz22_2
          try clear hfz22_3
          try clear hfz22_4
          try clear hfz22_5
          try clear hfz22_6
          try clear hfz22_7
          try clear hfz22_8
          try clear hfz22_9
          try clear hfz23_0
          try clear hfz23_1
          try clear hfz23_10
          try clear hfz23_2
          try clear hfz23_3
          try clear hfz23_4
          try clear hfz23_5
          try clear hfz23_6
          try clear hfz23_7
          try clear hfz23_8
          try clear hfz23_9
          try clear hfz26_0
          try clear hfz26_1
          try clear hfz26_10
          try clear hfz26_2
          try clear hfz26_3
          try clear hfz26_4
          try clear hfz26_5
          try clear hfz26_6
          try clear hfz26_7
          try clear hfz26_8
          try clear hfz26_9
          try clear hfz29_0
          try clear hfz29_1
          try clear hfz29_10
          try clear hfz29_2
          try clear hfz29_3
          try clear hfz29_4
          try clear hfz29_5
          try clear hfz29_6
          try clear hfz29_7
          try clear hfz29_8
          try clear hfz29_9
          try clear hfz32_0
          try clear hfz32_1
          try clear hfz32_10
          try clear hfz32_2
          try clear hfz32_3
          try clear hfz32_4
          try clear hfz32_5
          try clear hfz32_6
          try clear hfz32_7
          try clear hfz32_8
          try clear hfz32_9
          try clear hfz9_0
          try clear hfz9_1
          try clear hfz9_10
          try clear hfz9_2
          try clear hfz9_3
          try clear hfz9_4
          try clear hfz9_5
          try clear hfz9_6
          try clear hfz9_7
          try clear hfz9_8
          try clear hfz9_9
          try clear p2
          obtain ⟨kq, x323010_26, HA, HJ26, BK317, BK322, HB⟩ := hcut
          cases kq with
          | zero => exact absurd HA.out (by simp [quadrigalaw04_RecordSizes.j1])
          | succ kj26 =>
            have H := HA.out
            clear HA
            simp only [quadrigalaw04_RecordSizes.j1] at H
            replace H := Option.bind_eq_some_iff.mp H
            obtain ⟨⟨t323, t324⟩, A330, H⟩ := H
            replace H : (if t321 = 0 then (if t324 = 0 then (quadrigalaw04_RecordSizes.j2 kj26 a2 a3 t320 t321 ((t320.size : Int) != (t323.size : Int)) a0_0 a0_1 a0_2 a0_3 a0_4 a0_5 a0_6 a0_7 a0_8 a0_9 a0_10) else (quadrigalaw04_RecordSizes.j2 kj26 a2 a3 t320 t321 false a0_0 a0_1 a0_2 a0_3 a0_4 a0_5 a0_6 a0_7 a0_8 a0_9 a0_10)) else (quadrigalaw04_RecordSizes.j2 kj26 a2 a3 t320 t321 false a0_0 a0_1 a0_2 a0_3 a0_4 a0_5 a0_6 a0_7 a0_8 a0_9 a0_10)) = some r := H
            have A33 := Aside0.mk A330
            clear A330
            have HC34 := Aside0.mk H
            clear H
            have hnb35 := NB322_317.out
            have hnc35 := NB317_322.out
            have hcz36_0 : wc.cell? ⟨gb322, 0, none⟩ = some (.int .i64 a0_0) := (blk_cell BK322.out 0).trans rfl
            have hcz36_1 : wc.cell? ⟨gb322, 1, none⟩ = some (.int .i64 a3) := (blk_cell BK322.out 1).trans rfl
            have hcz36_2 : wc.cell? ⟨gb322, 2, none⟩ = some (.int .i64 a1) := (blk_cell BK322.out 2).trans rfl
            have hcz36_3 : wc.cell? ⟨gb322, 3, none⟩ = some (.int .i64 x323003_12) := (blk_cell BK322.out 3).trans rfl
            have hcz36_4 : wc.cell? ⟨gb322, 4, none⟩ = some (.int .i64 a0_4) := (blk_cell BK322.out 4).trans rfl
            have hcz36_5 : wc.cell? ⟨gb322, 5, none⟩ = some (.string a0_5) := (blk_cell BK322.out 5).trans rfl
            have hcz36_6 : wc.cell? ⟨gb322, 6, none⟩ = some (.bool a0_6) := (blk_cell BK322.out 6).trans rfl
            have hcz36_7 : wc.cell? ⟨gb322, 7, none⟩ = some (.string a0_7) := (blk_cell BK322.out 7).trans rfl
            have hcz36_8 : wc.cell? ⟨gb322, 8, none⟩ = some (.bool a0_8) := (blk_cell BK322.out 8).trans rfl
            have hcz36_9 : wc.cell? ⟨gb322, 9, none⟩ = some (.string a0_9) := (blk_cell BK322.out 9).trans rfl
            have hcz36_10 : wc.cell? ⟨gb322, 10, none⟩ = some (.int .i64 x323010_26) := (blk_cell BK322.out 10).trans rfl
            have hfz36_0 := blk_frozen BK322.out 0
            have hfz36_1 := blk_frozen BK322.out 1
            have hfz36_2 := blk_frozen BK322.out 2
            have hfz36_3 := blk_frozen BK322.out 3
            have hfz36_4 := blk_frozen BK322.out 4
            have hfz36_5 := blk_frozen BK322.out 5
            have hfz36_6 := blk_frozen BK322.out 6
            have hfz36_7 := blk_frozen BK322.out 7
            have hfz36_8 := blk_frozen BK322.out 8
            have hfz36_9 := blk_frozen BK322.out 9
            have hfz36_10 := blk_frozen BK322.out 10
            go_upto_region 12 with (first | ((with_reducible refine gate_callee (f := 20) rfl ?_); refine goesL_ (some 41) rfl rfl Tryd.func20 (by kernel_rfl) rfl #[.agg #[.int .i64 a0_0, .int .i64 a3, .int .i64 a1, .int .i64 x323003_12, .int .i64 a0_4, .string a0_5, .bool a0_6, .string a0_7, .bool a0_8, .string a0_9, .int .i64 x323010_26]] rfl (by (try simp only [List.map_toArray, List.map_cons, List.map_nil]); first | done | rfl | (simp only [List.length_drop, List.length_take]; rfl)) ?_; (with_reducible refine (record_Encode.calls kj26 a0_0 a3 a1 x323003_12 a0_4 a0_5 a0_6 a0_7 a0_8 a0_9 x323010_26 t323 t324 _ A33.out).mono ?_); rintro e w37 ⟨rfl, hb⟩; refine ⟨_, rfl, ?_⟩; have n0_ := Aside0.mk (blk_below (g := gb317) (o := .cells #[.int .i64 a0_0, .int .i64 a0_1, .int .i64 a0_2, .int .i64 a0_3, .int .i64 a0_4, .string a0_5, .bool a0_6, .string a0_7, .bool a0_8, .string a0_9, .int .i64 a0_10] 25 (0, 0)) (by (with_reducible repeat (first | refine blk_drewN ?_ _ | refine blk_drew ?_ | refine blk_alloc ?_ _)); exact BK317.out) hb); have n1_ := Aside0.mk (blk_below (g := gb322) (o := .cells #[.int .i64 a0_0, .int .i64 a3, .int .i64 a1, .int .i64 x323003_12, .int .i64 a0_4, .string a0_5, .bool a0_6, .string a0_7, .bool a0_8, .string a0_9, .int .i64 x323010_26] 25 (0, 0)) (by (with_reducible repeat (first | refine blk_drewN ?_ _ | refine blk_drew ?_ | refine blk_alloc ?_ _)); exact BK322.out) hb); have n2_ := Aside0.mk (below_step (by repeat (first | (with_reducible first | exact HB.out | apply below_alloc | apply pw_below_drewN | apply below_drew1 | refine below_set ?_ GE317.out | refine below_set ?_ GE322.out) | exact HB.out)) hb); clear BK317; clear BK322; clear HB; have BK317 := n0_; have BK322 := n1_; have HB := n2_; clear n0_ n1_ n2_; (try clear hb); (try clear hb2); (try clear hk); (try clear hi)))
            (try simp only [Act.put, List.setIfInBounds_toArray, List.set_cons_zero, List.set_cons_succ])
            go_cut [56] (fun v56 wc => ∃ (kq : Nat) (x56_33 : Bool), v56 = .bool x56_33 ∧ Aside0 (quadrigalaw04_RecordSizes.j2 kq a2 a3 t320 t321 x56_33 a0_0 a0_1 a0_2 a0_3 a0_4 a0_5 a0_6 a0_7 a0_8 a0_9 a0_10 = some r) ∧ Aside0 (kq ≤ kj26) ∧ Aside0 (wc.heap[gb317]? = some (.cells #[.int .i64 a0_0, .int .i64 a0_1, .int .i64 a0_2, .int .i64 a0_3, .int .i64 a0_4, .string a0_5, .bool a0_6, .string a0_7, .bool a0_8, .string a0_9, .int .i64 a0_10] 25 (0, 0))) ∧ Aside0 (wc.heap[gb322]? = some (.cells #[.int .i64 a0_0, .int .i64 a3, .int .i64 a1, .int .i64 x323003_12, .int .i64 a0_4, .string a0_5, .bool a0_6, .string a0_7, .bool a0_8, .string a0_9, .int .i64 x323010_26] 25 (0, 0))) ∧ Aside0 (Below w.heap.size w wc))
            case first =>
              have H := HC34.out
              clear HC34
              by_cases c38 : t321 = 0
              · rw [if_pos c38] at H
                have c38b0 : (t321 == 0) = true := beq_iff_eq.mpr c38
                have c38b1 : (t321 != 0) = false := bne_eq_false_iff_eq.mpr c38
                clear c38
                (first | rw [c38b0] | (simp only [i64_w, i32_w]; rw [c38b0]) | skip)
                by_cases c39 : t324 = 0
                · rw [if_pos c39] at H
                  have c39b0 : (t324 == 0) = true := beq_iff_eq.mpr c39
                  have c39b1 : (t324 != 0) = false := bne_eq_false_iff_eq.mpr c39
                  clear c39
                  have H' := Aside0.mk H
                  clear H
                  go_wp2
                  go_meet
                  case rel => exact ⟨_, (((t320.size : Int) != (t323.size : Int))), (by first | rfl | (simp; done) | (simp [*]; done)), H', ⟨by have := HJ12.out; have := HJ26.out; first | omega | exact Nat.le_refl _⟩, ⟨by (with_reducible repeat (first | refine blk_drewN ?_ _ | refine blk_drew ?_ | refine blk_alloc ?_ _)); exact BK317.out⟩, ⟨by (with_reducible repeat (first | refine blk_drewN ?_ _ | refine blk_drew ?_ | refine blk_alloc ?_ _)); exact BK322.out⟩, ⟨by repeat (first | (with_reducible first | exact HB.out | apply below_alloc | apply pw_below_drewN | apply below_drew1 | refine below_set ?_ GE317.out | refine below_set ?_ GE322.out) | exact HB.out)⟩⟩
                · rw [if_neg c39] at H
                  have c39b0 : (t324 == 0) = false := beq_eq_false_iff_ne.mpr c39
                  have c39b1 : (t324 != 0) = true := bne_iff_ne.mpr c39
                  have H' := Aside0.mk H
                  clear H
                  go_wp2
                  go_meet
                  case rel => exact ⟨_, (false), (by first | rfl | (simp; done) | (simp [*]; done)), H', ⟨by have := HJ12.out; have := HJ26.out; first | omega | exact Nat.le_refl _⟩, ⟨by (with_reducible repeat (first | refine blk_drewN ?_ _ | refine blk_drew ?_ | refine blk_alloc ?_ _)); exact BK317.out⟩, ⟨by (with_reducible repeat (first | refine blk_drewN ?_ _ | refine blk_drew ?_ | refine blk_alloc ?_ _)); exact BK322.out⟩, ⟨by repeat (first | (with_reducible first | exact HB.out | apply below_alloc | apply pw_below_drewN | apply below_drew1 | refine below_set ?_ GE317.out | refine below_set ?_ GE322.out) | exact HB.out)⟩⟩
              · rw [if_neg c38] at H
                have c38b0 : (t321 == 0) = false := beq_eq_false_iff_ne.mpr c38
                have c38b1 : (t321 != 0) = true := bne_iff_ne.mpr c38
                (first | rw [c38b0] | (simp only [i64_w, i32_w]; rw [c38b0]) | skip)
                have H' := Aside0.mk H
                clear H
                go_wp2
                go_meet
                case rel => exact ⟨_, (false), (by first | rfl | (simp; done) | (simp [*]; done)), H', ⟨by have := HJ12.out; have := HJ26.out; first | omega | exact Nat.le_refl _⟩, ⟨by (with_reducible repeat (first | refine blk_drewN ?_ _ | refine blk_drew ?_ | refine blk_alloc ?_ _)); exact BK317.out⟩, ⟨by (with_reducible repeat (first | refine blk_drewN ?_ _ | refine blk_drew ?_ | refine blk_alloc ?_ _)); exact BK322.out⟩, ⟨by repeat (first | (with_reducible first | exact HB.out | apply below_alloc | apply pw_below_drewN | apply below_drew1 | refine below_set ?_ GE317.out | refine below_set ?_ GE322.out) | exact HB.out)⟩⟩
            case rest =>
              clear HC34
              try clear c2
              try clear p2
              try clear c3
              try clear c6
              try clear c8
              try clear c9
              try clear c20
              try clear c21
              try clear c24
              try clear c24b0
              try clear c24b1
              try clear c25
              try clear c28
              try clear c30
              try clear c30b0
              try clear c30b1
              try clear c31
              try clear c35
              try clear c38
              try clear c38b0
              try clear c38b1
              try clear c39
              try clear c39b0
              try clear c39b1
              try clear hcz15_0
              try clear hcz15_1
              try clear hcz15_10
              try clear hcz15_2
              try clear hcz15_3
              try clear hcz15_4
              try clear hcz15_5
              try clear hcz15_6
              try clear hcz15_7
              try clear hcz15_8
              try clear hcz15_9
              try clear hcz17_0
              try clear hcz17_1
              try clear hcz17_10
              try clear hcz17_2
              try clear hcz17_3
              try clear hcz17_4
              try clear hcz17_5
              try clear hcz17_6
              try clear hcz17_7
              try clear hcz17_8
              try clear hcz17_9
              try clear hcz19_0
              try clear hcz19_1
              try clear hcz19_10
              try clear hcz19_2
              try clear hcz19_3
              try clear hcz19_4
              try clear hcz19_5
              try clear hcz19_6
              try clear hcz19_7
              try clear hcz19_8
              try clear hcz19_9
              try clear hcz22_0
              try clear hcz22_1
              try clear hcz22_10
              try clear hcz22_2
              try clear hcz22_3
              try clear hcz22_4
              try clear hcz22_5
              try clear hcz22_6
              try clear hcz22_7
              try clear hcz22_8
              try clear hcz22_9
              try clear hcz23_0
              try clear hcz23_1
              try clear hcz23_10
              try clear hcz23_2
              try clear hcz23_3
              try clear hcz23_4
              try clear hcz23_5
              try clear hcz23_6
              try clear hcz23_7
              try clear hcz23_8
              try clear hcz23_9
              try clear hcz26_0
              try clear hcz26_1
              try clear hcz26_10
              try clear hcz26_2
              try clear hcz26_3
              try clear hcz26_4
              try clear hcz26_5
              try clear hcz26_6
              try clear hcz26_7
              try clear hcz26_8
              try clear hcz26_9
              try clear hcz29_0
              try clear hcz29_1
              try clear hcz29_10
              try clear hcz29_2
              try clear hcz29_3
              try clear hcz29_4
              try clear hcz29_5
              try clear hcz29_6
              try clear hcz29_7
              try clear hcz29_8
              try clear hcz29_9
              try clear hcz32_0
              try clear hcz32_1
              try clear hcz32_10
              try clear hcz32_2
              try clear hcz32_3
              try clear hcz32_4
              try clear hcz32_5
              try clear hcz32_6
              try clear hcz32_7
              try clear hcz32_8
              try clear hcz32_9
              try clear hcz36_0
              try clear hcz36_1
              try clear hcz36_10
              try clear hcz36_2
              try clear hcz36_3
              try clear hcz36_4
              try clear hcz36_5
              try clear hcz36_6
              try clear hcz36_7
              try clear hcz36_8
              try clear hcz36_9
              try clear hcz9_0
              try clear hcz9_1
              try clear hcz9_10
              try clear hcz9_2
              try clear hcz9_3
              try clear hcz9_4
              try clear hcz9_5
              try clear hcz9_6
              try clear hcz9_7
              try clear hcz9_8
              try clear hcz9_9
              try clear hfz15_0
              try clear hfz15_1
              try clear hfz15_10
              try clear hfz15_2
              try clear hfz15_3
              try clear hfz15_4
              try clear hfz15_5
              try clear hfz15_6
              try clear hfz15_7
              try clear hfz15_8
              try clear hfz15_9
              try clear hfz17_0
              try clear hfz17_1
              try clear hfz17_10
              try clear hfz17_2
              try clear hfz17_3
              try clear hfz17_4
              try clear hfz17_5
              try clear hfz17_6
              try clear hfz17_7
              try clear hfz17_8
              try clear hfz17_9
              try clear hfz19_0
              try clear hfz19_1
              try clear hfz19_10
              try clear hfz19_2
              try clear hfz19_3
              try clear hfz19_4
              try clear hfz19_5
              try clear hfz19_6
              try clear hfz19_7
              try clear hfz19_8
              try clear hfz19_9
              try clear hfz22_0
              try clear hfz22_1
              try clear hfz22_10
              try clear hfz22_2
              try clear hfz22_3
              try clear hfz22_4
              try clear hfz22_5
              try clear hfz22_6
              try clear hfz22_7
              try clear hfz22_8
              try clear hfz22_9
              try clear hfz23_0
              try clear hfz23_1
              try clear hfz23_10
              try clear hfz23_2
              try clear hfz23_3
              try clear hfz23_4
              try clear hfz23_5
              try clear hfz23_6
              try clear hfz23_7
              try clear hfz23_8
              try clear hfz23_9
              try clear hfz26_0
              try clear hfz26_1
              try clear hfz26_10
              try clear hfz26_2
              try clear hfz26_3
              try clear hfz26_4
              try clear hfz26_5
              try clear hfz26_6
              try clear hfz26_7
              try clear hfz26_8
              try clear hfz26_9
              try clear hfz29_0
              try clear hfz29_1
              try clear hfz29_10
              try clear hfz29_2
              try clear hfz29_3
              try clear hfz29_4
              try clear hfz29_5
              try clear hfz29_6
              try clear hfz29_7
              try clear hfz29_8
              try clear hfz29_9
              try clear hfz32_0
              try clear hfz32_1
              try clear hfz32_10
              try clear hfz32_2
              try clear hfz32_3
              try clear hfz32_4
              try clear hfz32_5
              try clear hfz32_6
              try clear hfz32_7
              try clear hfz32_8
              try clear hfz32_9
              try clear hfz36_0
              try clear hfz36_1
              try clear hfz36_10
              try clear hfz36_2
              try clear hfz36_3
              try clear hfz36_4
              try clear hfz36_5
              try clear hfz36_6
              try clear hfz36_7
              try clear hfz36_8
              try clear hfz36_9
              try clear hfz9_0
              try clear hfz9_1
              try clear hfz9_10
              try clear hfz9_2
              try clear hfz9_3
              try clear hfz9_4
              try clear hfz9_5
              try clear hfz9_6
              try clear hfz9_7
              try clear hfz9_8
              try clear hfz9_9
              try clear p2
              obtain ⟨kq, x56_33, rfl, HA, HJ33, BK317, BK322, HB⟩ := hcut
              cases kq with
              | zero => exact absurd HA.out (by simp [quadrigalaw04_RecordSizes.j2])
              | succ kj33 =>
                have H := HA.out
                clear HA
                simp only [quadrigalaw04_RecordSizes.j2] at H
                by_cases c40 : x56_33 = true
                · subst c40
                  have H1 : (some false) = some r := by rw [if_pos rfl] at H; exact H
                  clear H
                  have H := H1
                  clear H1
                  obtain rfl := Option.some.inj H
                  go_wp2
                  go_ret
                  exact ⟨by first | rfl | (simp [errW_none, errW_some] <;> rfl) | (simp [*, errW_none, errW_some] <;> rfl), by repeat (first | (with_reducible first | exact HB.out | apply below_alloc | apply pw_below_drewN | apply below_drew1 | refine below_set ?_ GE317.out | refine below_set ?_ GE322.out) | exact HB.out)⟩
                · replace c40 := Bool.eq_false_iff.mpr c40
                  subst c40
                  have H1 : ((record_Back.f kj33 a0_0 a0_1 a0_2 a0_3 a0_4 a0_5 a0_6 a0_7 a0_8 a0_9 a0_10 a3 a2).bind fun bt325 => ((record_Encode.f kj33 bt325.1 bt325.2.1 bt325.2.2.1 bt325.2.2.2.1 bt325.2.2.2.2.1 bt325.2.2.2.2.2.1 bt325.2.2.2.2.2.2.1 bt325.2.2.2.2.2.2.2.1 bt325.2.2.2.2.2.2.2.2.1 bt325.2.2.2.2.2.2.2.2.2.1 bt325.2.2.2.2.2.2.2.2.2.2).bind fun bt337 => (if t321 = 0 then (if bt337.2 = 0 then (if a0_0 = 2 then (if (bt337.1.size : Int) = (wrap64 ((t320.size : Int) + 8)) then ((quadrigalaw04_awake.f kj33).bind fun t339 => (some t339)) else (some false)) else ((quadrigalaw04_awake.f kj33).bind fun t340 => (some t340))) else ((quadrigalaw04_awake.f kj33).bind fun t341 => (some t341))) else ((quadrigalaw04_awake.f kj33).bind fun t342 => (some t342))))) = some r := by rw [if_neg (show ¬ (false = true) by decide)] at H; exact H
                  clear H
                  have H := H1
                  clear H1
                  replace H := Option.bind_eq_some_iff.mp H
                  obtain ⟨⟨t325, t326, t327, t328, t329, t330, t331, t332, t333, t334, t335⟩, A410, H⟩ := H
                  replace H : ((record_Encode.f kj33 t325 t326 t327 t328 t329 t330 t331 t332 t333 t334 t335).bind fun bt337 => (if t321 = 0 then (if bt337.2 = 0 then (if a0_0 = 2 then (if (bt337.1.size : Int) = (wrap64 ((t320.size : Int) + 8)) then ((quadrigalaw04_awake.f kj33).bind fun t339 => (some t339)) else (some false)) else ((quadrigalaw04_awake.f kj33).bind fun t340 => (some t340))) else ((quadrigalaw04_awake.f kj33).bind fun t341 => (some t341))) else ((quadrigalaw04_awake.f kj33).bind fun t342 => (some t342)))) = some r := H
                  have A41 := Aside0.mk A410
                  clear A410
                  replace H := Option.bind_eq_some_iff.mp H
                  obtain ⟨⟨t337, t338⟩, A420, H⟩ := H
                  replace H : (if t321 = 0 then (if t338 = 0 then (if a0_0 = 2 then (if (t337.size : Int) = (wrap64 ((t320.size : Int) + 8)) then ((quadrigalaw04_awake.f kj33).bind fun t339 => (some t339)) else (some false)) else ((quadrigalaw04_awake.f kj33).bind fun t340 => (some t340))) else ((quadrigalaw04_awake.f kj33).bind fun t341 => (some t341))) else ((quadrigalaw04_awake.f kj33).bind fun t342 => (some t342))) = some r := H
                  have A42 := Aside0.mk A420
                  clear A420
                  by_cases c43 : t321 = 0
                  · rw [if_pos c43] at H
                    have c43b0 : (t321 == 0) = true := beq_iff_eq.mpr c43
                    have c43b1 : (t321 != 0) = false := bne_eq_false_iff_eq.mpr c43
                    clear c43
                    by_cases c44 : t338 = 0
                    · rw [if_pos c44] at H
                      have c44b0 : (t338 == 0) = true := beq_iff_eq.mpr c44
                      have c44b1 : (t338 != 0) = false := bne_eq_false_iff_eq.mpr c44
                      clear c44
                      by_cases c45 : a0_0 = 2
                      · rw [if_pos c45] at H
                        have c45b0 : (a0_0 == 2) = true := beq_iff_eq.mpr c45
                        have c45b1 : (a0_0 != 2) = false := bne_eq_false_iff_eq.mpr c45
                        clear c45
                        by_cases c46 : (t337.size : Int) = (wrap64 ((t320.size : Int) + 8))
                        · rw [if_pos c46] at H
                          have c46b0 : ((t337.size : Int) == (wrap64 ((t320.size : Int) + 8))) = true := beq_iff_eq.mpr c46
                          have c46b1 : ((t337.size : Int) != (wrap64 ((t320.size : Int) + 8))) = false := bne_eq_false_iff_eq.mpr c46
                          clear c46
                          replace H := Option.bind_eq_some_iff.mp H
                          obtain ⟨t339, A470, H⟩ := H
                          replace H : (some t339) = some r := H
                          have A47 := Aside0.mk A470
                          clear A470
                          obtain rfl := Option.some.inj H
                          have hnb48 := NB317_322.out
                          have hnc48 := NB322_317.out
                          have hcz49_0 : wc.cell? ⟨gb317, 0, none⟩ = some (.int .i64 a0_0) := (blk_cell BK317.out 0).trans rfl
                          have hcz49_1 : wc.cell? ⟨gb317, 1, none⟩ = some (.int .i64 a0_1) := (blk_cell BK317.out 1).trans rfl
                          have hcz49_2 : wc.cell? ⟨gb317, 2, none⟩ = some (.int .i64 a0_2) := (blk_cell BK317.out 2).trans rfl
                          have hcz49_3 : wc.cell? ⟨gb317, 3, none⟩ = some (.int .i64 a0_3) := (blk_cell BK317.out 3).trans rfl
                          have hcz49_4 : wc.cell? ⟨gb317, 4, none⟩ = some (.int .i64 a0_4) := (blk_cell BK317.out 4).trans rfl
                          have hcz49_5 : wc.cell? ⟨gb317, 5, none⟩ = some (.string a0_5) := (blk_cell BK317.out 5).trans rfl
                          have hcz49_6 : wc.cell? ⟨gb317, 6, none⟩ = some (.bool a0_6) := (blk_cell BK317.out 6).trans rfl
                          have hcz49_7 : wc.cell? ⟨gb317, 7, none⟩ = some (.string a0_7) := (blk_cell BK317.out 7).trans rfl
                          have hcz49_8 : wc.cell? ⟨gb317, 8, none⟩ = some (.bool a0_8) := (blk_cell BK317.out 8).trans rfl
                          have hcz49_9 : wc.cell? ⟨gb317, 9, none⟩ = some (.string a0_9) := (blk_cell BK317.out 9).trans rfl
                          have hcz49_10 : wc.cell? ⟨gb317, 10, none⟩ = some (.int .i64 a0_10) := (blk_cell BK317.out 10).trans rfl
                          have hfz49_0 := blk_frozen BK317.out 0
                          have hfz49_1 := blk_frozen BK317.out 1
                          have hfz49_2 := blk_frozen BK317.out 2
                          have hfz49_3 := blk_frozen BK317.out 3
                          have hfz49_4 := blk_frozen BK317.out 4
                          have hfz49_5 := blk_frozen BK317.out 5
                          have hfz49_6 := blk_frozen BK317.out 6
                          have hfz49_7 := blk_frozen BK317.out 7
                          have hfz49_8 := blk_frozen BK317.out 8
                          have hfz49_9 := blk_frozen BK317.out 9
                          have hfz49_10 := blk_frozen BK317.out 10
                          go_wp2_with (first | ((with_reducible refine gate_callee (f := 19) rfl ?_); refine goesL_ (some 60) rfl rfl Tryd.func19 (by kernel_rfl) rfl #[.agg #[.int .i64 a0_0, .int .i64 a0_1, .int .i64 a0_2, .int .i64 a0_3, .int .i64 a0_4, .string a0_5, .bool a0_6, .string a0_7, .bool a0_8, .string a0_9, .int .i64 a0_10], .int .i64 a3, .int .i64 a2] rfl (by (try simp only [List.map_toArray, List.map_cons, List.map_nil]); first | done | rfl | (simp only [List.length_drop, List.length_take]; rfl)) ?_; (with_reducible refine (record_Back.calls kj33 a0_0 a0_1 a0_2 a0_3 a0_4 a0_5 a0_6 a0_7 a0_8 a0_9 a0_10 a3 a2 t325 t326 t327 t328 t329 t330 t331 t332 t333 t334 t335 _ A41.out).mono ?_); rintro e w50 ⟨rfl, hb⟩; refine ⟨_, rfl, ?_⟩; have n0_ := Aside0.mk (blk_below (g := gb317) (o := .cells #[.int .i64 a0_0, .int .i64 a0_1, .int .i64 a0_2, .int .i64 a0_3, .int .i64 a0_4, .string a0_5, .bool a0_6, .string a0_7, .bool a0_8, .string a0_9, .int .i64 a0_10] 25 (0, 0)) (by (with_reducible repeat (first | refine blk_drewN ?_ _ | refine blk_drew ?_ | refine blk_alloc ?_ _)); exact BK317.out) hb); have n1_ := Aside0.mk (blk_below (g := gb322) (o := .cells #[.int .i64 a0_0, .int .i64 a3, .int .i64 a1, .int .i64 x323003_12, .int .i64 a0_4, .string a0_5, .bool a0_6, .string a0_7, .bool a0_8, .string a0_9, .int .i64 x323010_26] 25 (0, 0)) (by (with_reducible repeat (first | refine blk_drewN ?_ _ | refine blk_drew ?_ | refine blk_alloc ?_ _)); exact BK322.out) hb); have n2_ := Aside0.mk (below_step (by repeat (first | (with_reducible first | exact HB.out | apply below_alloc | apply pw_below_drewN | apply below_drew1 | refine below_set ?_ GE317.out | refine below_set ?_ GE322.out) | exact HB.out)) hb); clear BK317; clear BK322; clear HB; have BK317 := n0_; have BK322 := n1_; have HB := n2_; clear n0_ n1_ n2_; (try clear hb); (try clear hb2); (try clear hk); (try clear hi)) | ((with_reducible refine gate_dst (N := 14) rfl ?_); (try (refine gate_guard (by rfl) ?_; dsimp only)); refine box_event ?hg (N := 14) ?hd (cs := #[.int .i64 0, .int .i64 0, .int .i64 0, .int .i64 0, .int .i64 0, .string (⟨#[]⟩ : ByteArray), .bool false, .string (⟨#[]⟩ : ByteArray), .bool false, .string (⟨#[]⟩ : ByteArray), .int .i64 0]) (t := 25) ?hr ?_; (case hd => rfl); (case hg => rfl); (case hr => first | (go_simp; done) | (go_simp; rfl)); intro gb336 hg w51 hbox hb; have n0_ := Aside0.mk (blk_below (g := gb317) (o := .cells #[.int .i64 a0_0, .int .i64 a0_1, .int .i64 a0_2, .int .i64 a0_3, .int .i64 a0_4, .string a0_5, .bool a0_6, .string a0_7, .bool a0_8, .string a0_9, .int .i64 a0_10] 25 (0, 0)) (by (with_reducible repeat (first | refine blk_drewN ?_ _ | refine blk_drew ?_ | refine blk_alloc ?_ _)); exact BK317.out) hb); have n1_ := Aside0.mk (blk_below (g := gb322) (o := .cells #[.int .i64 a0_0, .int .i64 a3, .int .i64 a1, .int .i64 x323003_12, .int .i64 a0_4, .string a0_5, .bool a0_6, .string a0_7, .bool a0_8, .string a0_9, .int .i64 x323010_26] 25 (0, 0)) (by (with_reducible repeat (first | refine blk_drewN ?_ _ | refine blk_drew ?_ | refine blk_alloc ?_ _)); exact BK322.out) hb); have n2_ := Aside0.mk (below_step (by repeat (first | (with_reducible first | exact HB.out | apply below_alloc | apply pw_below_drewN | apply below_drew1 | refine below_set ?_ GE317.out | refine below_set ?_ GE322.out) | exact HB.out)) hb); have n3_ := Aside0.mk (hbox); have n4_ := Aside0.mk ((by rw [hg]; exact (below_size (by repeat (first | (with_reducible first | exact HB.out | apply below_alloc | apply pw_below_drewN | apply below_drew1 | refine below_set ?_ GE317.out | refine below_set ?_ GE322.out) | exact HB.out))) : w.heap.size ≤ gb336)); have n5_ := Aside0.mk ((by rw [hg]; exact (below_size (by repeat (first | (with_reducible first | exact HB.out | apply below_alloc | apply pw_below_drewN | apply below_drew1 | refine below_set ?_ GE317.out | refine below_set ?_ GE322.out) | exact HB.out))) : w.heap.size ≤ gb336)); have n6_ := Aside0.mk ((by rw [hg]; exact Nat.ne_of_lt (blk_lt (g := gb317) (o := .cells #[.int .i64 a0_0, .int .i64 a0_1, .int .i64 a0_2, .int .i64 a0_3, .int .i64 a0_4, .string a0_5, .bool a0_6, .string a0_7, .bool a0_8, .string a0_9, .int .i64 a0_10] 25 (0, 0)) (by (with_reducible repeat (first | refine blk_drewN ?_ _ | refine blk_drew ?_ | refine blk_alloc ?_ _)); exact BK317.out)) : gb317 ≠ gb336)); have n7_ := Aside0.mk ((by rw [hg]; exact Nat.ne_of_gt (blk_lt (g := gb317) (o := .cells #[.int .i64 a0_0, .int .i64 a0_1, .int .i64 a0_2, .int .i64 a0_3, .int .i64 a0_4, .string a0_5, .bool a0_6, .string a0_7, .bool a0_8, .string a0_9, .int .i64 a0_10] 25 (0, 0)) (by (with_reducible repeat (first | refine blk_drewN ?_ _ | refine blk_drew ?_ | refine blk_alloc ?_ _)); exact BK317.out)) : gb336 ≠ gb317)); have n8_ := Aside0.mk ((by rw [hg]; exact Nat.ne_of_lt (blk_lt (g := gb322) (o := .cells #[.int .i64 a0_0, .int .i64 a3, .int .i64 a1, .int .i64 x323003_12, .int .i64 a0_4, .string a0_5, .bool a0_6, .string a0_7, .bool a0_8, .string a0_9, .int .i64 x323010_26] 25 (0, 0)) (by (with_reducible repeat (first | refine blk_drewN ?_ _ | refine blk_drew ?_ | refine blk_alloc ?_ _)); exact BK322.out)) : gb322 ≠ gb336)); have n9_ := Aside0.mk ((by rw [hg]; exact Nat.ne_of_gt (blk_lt (g := gb322) (o := .cells #[.int .i64 a0_0, .int .i64 a3, .int .i64 a1, .int .i64 x323003_12, .int .i64 a0_4, .string a0_5, .bool a0_6, .string a0_7, .bool a0_8, .string a0_9, .int .i64 x323010_26] 25 (0, 0)) (by (with_reducible repeat (first | refine blk_drewN ?_ _ | refine blk_drew ?_ | refine blk_alloc ?_ _)); exact BK322.out)) : gb336 ≠ gb322)); clear BK317; clear BK322; clear HB; have BK317 := n0_; have BK322 := n1_; have HB := n2_; have BK336 := n3_; have GW336 := n4_; have GE336 := n5_; have NB317_336 := n6_; have NB336_317 := n7_; have NB322_336 := n8_; have NB336_322 := n9_; clear n0_ n1_ n2_ n3_ n4_ n5_ n6_ n7_ n8_ n9_; clear hb hbox hg; have hnb52 := NB336_317.out; have hnc52 := NB317_336.out; have hnb53 := NB336_322.out; have hnc53 := NB322_336.out; have hcz54_0 : w51.cell? ⟨gb336, 0, none⟩ = some (.int .i64 0) := (blk_cell BK336.out 0).trans rfl; have hcz54_1 : w51.cell? ⟨gb336, 1, none⟩ = some (.int .i64 0) := (blk_cell BK336.out 1).trans rfl; have hcz54_2 : w51.cell? ⟨gb336, 2, none⟩ = some (.int .i64 0) := (blk_cell BK336.out 2).trans rfl; have hcz54_3 : w51.cell? ⟨gb336, 3, none⟩ = some (.int .i64 0) := (blk_cell BK336.out 3).trans rfl; have hcz54_4 : w51.cell? ⟨gb336, 4, none⟩ = some (.int .i64 0) := (blk_cell BK336.out 4).trans rfl; have hcz54_5 : w51.cell? ⟨gb336, 5, none⟩ = some (.string (⟨#[]⟩ : ByteArray)) := (blk_cell BK336.out 5).trans rfl; have hcz54_6 : w51.cell? ⟨gb336, 6, none⟩ = some (.bool false) := (blk_cell BK336.out 6).trans rfl; have hcz54_7 : w51.cell? ⟨gb336, 7, none⟩ = some (.string (⟨#[]⟩ : ByteArray)) := (blk_cell BK336.out 7).trans rfl; have hcz54_8 : w51.cell? ⟨gb336, 8, none⟩ = some (.bool false) := (blk_cell BK336.out 8).trans rfl; have hcz54_9 : w51.cell? ⟨gb336, 9, none⟩ = some (.string (⟨#[]⟩ : ByteArray)) := (blk_cell BK336.out 9).trans rfl; have hcz54_10 : w51.cell? ⟨gb336, 10, none⟩ = some (.int .i64 0) := (blk_cell BK336.out 10).trans rfl; have hfz54_0 := blk_frozen BK336.out 0; have hfz54_1 := blk_frozen BK336.out 1; have hfz54_2 := blk_frozen BK336.out 2; have hfz54_3 := blk_frozen BK336.out 3; have hfz54_4 := blk_frozen BK336.out 4; have hfz54_5 := blk_frozen BK336.out 5; have hfz54_6 := blk_frozen BK336.out 6; have hfz54_7 := blk_frozen BK336.out 7; have hfz54_8 := blk_frozen BK336.out 8; have hfz54_9 := blk_frozen BK336.out 9; have hfz54_10 := blk_frozen BK336.out 10) | ((with_reducible refine gate_callee (f := 20) rfl ?_); refine goesL_ (some 63) rfl rfl Tryd.func20 (by kernel_rfl) rfl #[.agg #[.int .i64 t325, .int .i64 t326, .int .i64 t327, .int .i64 t328, .int .i64 t329, .string t330, .bool t331, .string t332, .bool t333, .string t334, .int .i64 t335]] rfl (by (try simp only [List.map_toArray, List.map_cons, List.map_nil]); first | done | rfl | (simp only [List.length_drop, List.length_take]; rfl)) ?_; (with_reducible refine (record_Encode.calls kj33 t325 t326 t327 t328 t329 t330 t331 t332 t333 t334 t335 t337 t338 _ A42.out).mono ?_); rintro e w55 ⟨rfl, hb⟩; refine ⟨_, rfl, ?_⟩; have n0_ := Aside0.mk (blk_below (g := gb317) (o := .cells #[.int .i64 a0_0, .int .i64 a0_1, .int .i64 a0_2, .int .i64 a0_3, .int .i64 a0_4, .string a0_5, .bool a0_6, .string a0_7, .bool a0_8, .string a0_9, .int .i64 a0_10] 25 (0, 0)) (by (with_reducible repeat (first | refine blk_drewN ?_ _ | refine blk_drew ?_ | refine blk_alloc ?_ _)); refine blk_far ?_ NB317_336.out _; (with_reducible repeat (first | refine blk_drewN ?_ _ | refine blk_drew ?_ | refine blk_alloc ?_ _)); refine blk_far ?_ NB317_336.out _; (with_reducible repeat (first | refine blk_drewN ?_ _ | refine blk_drew ?_ | refine blk_alloc ?_ _)); refine blk_far ?_ NB317_336.out _; (with_reducible repeat (first | refine blk_drewN ?_ _ | refine blk_drew ?_ | refine blk_alloc ?_ _)); refine blk_far ?_ NB317_336.out _; (with_reducible repeat (first | refine blk_drewN ?_ _ | refine blk_drew ?_ | refine blk_alloc ?_ _)); refine blk_far ?_ NB317_336.out _; (with_reducible repeat (first | refine blk_drewN ?_ _ | refine blk_drew ?_ | refine blk_alloc ?_ _)); refine blk_far ?_ NB317_336.out _; (with_reducible repeat (first | refine blk_drewN ?_ _ | refine blk_drew ?_ | refine blk_alloc ?_ _)); refine blk_far ?_ NB317_336.out _; (with_reducible repeat (first | refine blk_drewN ?_ _ | refine blk_drew ?_ | refine blk_alloc ?_ _)); refine blk_far ?_ NB317_336.out _; (with_reducible repeat (first | refine blk_drewN ?_ _ | refine blk_drew ?_ | refine blk_alloc ?_ _)); refine blk_far ?_ NB317_336.out _; (with_reducible repeat (first | refine blk_drewN ?_ _ | refine blk_drew ?_ | refine blk_alloc ?_ _)); refine blk_far ?_ NB317_336.out _; (with_reducible repeat (first | refine blk_drewN ?_ _ | refine blk_drew ?_ | refine blk_alloc ?_ _)); refine blk_far ?_ NB317_336.out _; (with_reducible repeat (first | refine blk_drewN ?_ _ | refine blk_drew ?_ | refine blk_alloc ?_ _)); exact BK317.out) hb); have n1_ := Aside0.mk (blk_below (g := gb322) (o := .cells #[.int .i64 a0_0, .int .i64 a3, .int .i64 a1, .int .i64 x323003_12, .int .i64 a0_4, .string a0_5, .bool a0_6, .string a0_7, .bool a0_8, .string a0_9, .int .i64 x323010_26] 25 (0, 0)) (by (with_reducible repeat (first | refine blk_drewN ?_ _ | refine blk_drew ?_ | refine blk_alloc ?_ _)); refine blk_far ?_ NB322_336.out _; (with_reducible repeat (first | refine blk_drewN ?_ _ | refine blk_drew ?_ | refine blk_alloc ?_ _)); refine blk_far ?_ NB322_336.out _; (with_reducible repeat (first | refine blk_drewN ?_ _ | refine blk_drew ?_ | refine blk_alloc ?_ _)); refine blk_far ?_ NB322_336.out _; (with_reducible repeat (first | refine blk_drewN ?_ _ | refine blk_drew ?_ | refine blk_alloc ?_ _)); refine blk_far ?_ NB322_336.out _; (with_reducible repeat (first | refine blk_drewN ?_ _ | refine blk_drew ?_ | refine blk_alloc ?_ _)); refine blk_far ?_ NB322_336.out _; (with_reducible repeat (first | refine blk_drewN ?_ _ | refine blk_drew ?_ | refine blk_alloc ?_ _)); refine blk_far ?_ NB322_336.out _; (with_reducible repeat (first | refine blk_drewN ?_ _ | refine blk_drew ?_ | refine blk_alloc ?_ _)); refine blk_far ?_ NB322_336.out _; (with_reducible repeat (first | refine blk_drewN ?_ _ | refine blk_drew ?_ | refine blk_alloc ?_ _)); refine blk_far ?_ NB322_336.out _; (with_reducible repeat (first | refine blk_drewN ?_ _ | refine blk_drew ?_ | refine blk_alloc ?_ _)); refine blk_far ?_ NB322_336.out _; (with_reducible repeat (first | refine blk_drewN ?_ _ | refine blk_drew ?_ | refine blk_alloc ?_ _)); refine blk_far ?_ NB322_336.out _; (with_reducible repeat (first | refine blk_drewN ?_ _ | refine blk_drew ?_ | refine blk_alloc ?_ _)); refine blk_far ?_ NB322_336.out _; (with_reducible repeat (first | refine blk_drewN ?_ _ | refine blk_drew ?_ | refine blk_alloc ?_ _)); exact BK322.out) hb); have n2_ := Aside0.mk (blk_below (g := gb336) (o := .cells #[.int .i64 t325, .int .i64 t326, .int .i64 t327, .int .i64 t328, .int .i64 t329, .string t330, .bool t331, .string t332, .bool t333, .string t334, .int .i64 t335] 25 (0, 0)) (by (with_reducible repeat (first | refine blk_drewN ?_ _ | refine blk_drew ?_ | refine blk_alloc ?_ _)); refine blk_put (cs := #[.int .i64 t325, .int .i64 t326, .int .i64 t327, .int .i64 t328, .int .i64 t329, .string t330, .bool t331, .string t332, .bool t333, .string t334, .int .i64 0]) ?_ 10 _ rfl; (with_reducible repeat (first | refine blk_drewN ?_ _ | refine blk_drew ?_ | refine blk_alloc ?_ _)); refine blk_put (cs := #[.int .i64 t325, .int .i64 t326, .int .i64 t327, .int .i64 t328, .int .i64 t329, .string t330, .bool t331, .string t332, .bool t333, .string (⟨#[]⟩ : ByteArray), .int .i64 0]) ?_ 9 _ rfl; (with_reducible repeat (first | refine blk_drewN ?_ _ | refine blk_drew ?_ | refine blk_alloc ?_ _)); refine blk_put (cs := #[.int .i64 t325, .int .i64 t326, .int .i64 t327, .int .i64 t328, .int .i64 t329, .string t330, .bool t331, .string t332, .bool false, .string (⟨#[]⟩ : ByteArray), .int .i64 0]) ?_ 8 _ rfl; (with_reducible repeat (first | refine blk_drewN ?_ _ | refine blk_drew ?_ | refine blk_alloc ?_ _)); refine blk_put (cs := #[.int .i64 t325, .int .i64 t326, .int .i64 t327, .int .i64 t328, .int .i64 t329, .string t330, .bool t331, .string (⟨#[]⟩ : ByteArray), .bool false, .string (⟨#[]⟩ : ByteArray), .int .i64 0]) ?_ 7 _ rfl; (with_reducible repeat (first | refine blk_drewN ?_ _ | refine blk_drew ?_ | refine blk_alloc ?_ _)); refine blk_put (cs := #[.int .i64 t325, .int .i64 t326, .int .i64 t327, .int .i64 t328, .int .i64 t329, .string t330, .bool false, .string (⟨#[]⟩ : ByteArray), .bool false, .string (⟨#[]⟩ : ByteArray), .int .i64 0]) ?_ 6 _ rfl; (with_reducible repeat (first | refine blk_drewN ?_ _ | refine blk_drew ?_ | refine blk_alloc ?_ _)); refine blk_put (cs := #[.int .i64 t325, .int .i64 t326, .int .i64 t327, .int .i64 t328, .int .i64 t329, .string (⟨#[]⟩ : ByteArray), .bool false, .string (⟨#[]⟩ : ByteArray), .bool false, .string (⟨#[]⟩ : ByteArray), .int .i64 0]) ?_ 5 _ rfl; (with_reducible repeat (first | refine blk_drewN ?_ _ | refine blk_drew ?_ | refine blk_alloc ?_ _)); refine blk_put (cs := #[.int .i64 t325, .int .i64 t326, .int .i64 t327, .int .i64 t328, .int .i64 0, .string (⟨#[]⟩ : ByteArray), .bool false, .string (⟨#[]⟩ : ByteArray), .bool false, .string (⟨#[]⟩ : ByteArray), .int .i64 0]) ?_ 4 _ rfl; (with_reducible repeat (first | refine blk_drewN ?_ _ | refine blk_drew ?_ | refine blk_alloc ?_ _)); refine blk_put (cs := #[.int .i64 t325, .int .i64 t326, .int .i64 t327, .int .i64 0, .int .i64 0, .string (⟨#[]⟩ : ByteArray), .bool false, .string (⟨#[]⟩ : ByteArray), .bool false, .string (⟨#[]⟩ : ByteArray), .int .i64 0]) ?_ 3 _ rfl; (with_reducible repeat (first | refine blk_drewN ?_ _ | refine blk_drew ?_ | refine blk_alloc ?_ _)); refine blk_put (cs := #[.int .i64 t325, .int .i64 t326, .int .i64 0, .int .i64 0, .int .i64 0, .string (⟨#[]⟩ : ByteArray), .bool false, .string (⟨#[]⟩ : ByteArray), .bool false, .string (⟨#[]⟩ : ByteArray), .int .i64 0]) ?_ 2 _ rfl; (with_reducible repeat (first | refine blk_drewN ?_ _ | refine blk_drew ?_ | refine blk_alloc ?_ _)); refine blk_put (cs := #[.int .i64 t325, .int .i64 0, .int .i64 0, .int .i64 0, .int .i64 0, .string (⟨#[]⟩ : ByteArray), .bool false, .string (⟨#[]⟩ : ByteArray), .bool false, .string (⟨#[]⟩ : ByteArray), .int .i64 0]) ?_ 1 _ rfl; (with_reducible repeat (first | refine blk_drewN ?_ _ | refine blk_drew ?_ | refine blk_alloc ?_ _)); refine blk_put (cs := #[.int .i64 0, .int .i64 0, .int .i64 0, .int .i64 0, .int .i64 0, .string (⟨#[]⟩ : ByteArray), .bool false, .string (⟨#[]⟩ : ByteArray), .bool false, .string (⟨#[]⟩ : ByteArray), .int .i64 0]) ?_ 0 _ rfl; (with_reducible repeat (first | refine blk_drewN ?_ _ | refine blk_drew ?_ | refine blk_alloc ?_ _)); exact BK336.out) hb); have n3_ := Aside0.mk (below_step (by repeat (first | (with_reducible first | exact HB.out | apply below_alloc | apply pw_below_drewN | apply below_drew1 | refine below_set ?_ GE317.out | refine below_set ?_ GE322.out | refine below_set ?_ GE336.out) | exact HB.out)) hb); clear BK317; clear BK322; clear BK336; clear HB; have BK317 := n0_; have BK322 := n1_; have BK336 := n2_; have HB := n3_; clear n0_ n1_ n2_ n3_; (try clear hb); (try clear hb2); (try clear hk); (try clear hi); have hcz56_0 : w55.cell? ⟨gb317, 0, none⟩ = some (.int .i64 a0_0) := (blk_cell BK317.out 0).trans rfl; have hcz56_1 : w55.cell? ⟨gb317, 1, none⟩ = some (.int .i64 a0_1) := (blk_cell BK317.out 1).trans rfl; have hcz56_2 : w55.cell? ⟨gb317, 2, none⟩ = some (.int .i64 a0_2) := (blk_cell BK317.out 2).trans rfl; have hcz56_3 : w55.cell? ⟨gb317, 3, none⟩ = some (.int .i64 a0_3) := (blk_cell BK317.out 3).trans rfl; have hcz56_4 : w55.cell? ⟨gb317, 4, none⟩ = some (.int .i64 a0_4) := (blk_cell BK317.out 4).trans rfl; have hcz56_5 : w55.cell? ⟨gb317, 5, none⟩ = some (.string a0_5) := (blk_cell BK317.out 5).trans rfl; have hcz56_6 : w55.cell? ⟨gb317, 6, none⟩ = some (.bool a0_6) := (blk_cell BK317.out 6).trans rfl; have hcz56_7 : w55.cell? ⟨gb317, 7, none⟩ = some (.string a0_7) := (blk_cell BK317.out 7).trans rfl; have hcz56_8 : w55.cell? ⟨gb317, 8, none⟩ = some (.bool a0_8) := (blk_cell BK317.out 8).trans rfl; have hcz56_9 : w55.cell? ⟨gb317, 9, none⟩ = some (.string a0_9) := (blk_cell BK317.out 9).trans rfl; have hcz56_10 : w55.cell? ⟨gb317, 10, none⟩ = some (.int .i64 a0_10) := (blk_cell BK317.out 10).trans rfl; have hfz56_0 := blk_frozen BK317.out 0; have hfz56_1 := blk_frozen BK317.out 1; have hfz56_2 := blk_frozen BK317.out 2; have hfz56_3 := blk_frozen BK317.out 3; have hfz56_4 := blk_frozen BK317.out 4; have hfz56_5 := blk_frozen BK317.out 5; have hfz56_6 := blk_frozen BK317.out 6; have hfz56_7 := blk_frozen BK317.out 7; have hfz56_8 := blk_frozen BK317.out 8; have hfz56_9 := blk_frozen BK317.out 9; have hfz56_10 := blk_frozen BK317.out 10) | (go_at_call 9; (with_reducible refine (quadrigalaw04_awake.calls kj33  t339 _ A47.out).mono ?_); rintro e w57 ⟨rfl, hb⟩; have n0_ := Aside0.mk (blk_below (g := gb317) (o := .cells #[.int .i64 a0_0, .int .i64 a0_1, .int .i64 a0_2, .int .i64 a0_3, .int .i64 a0_4, .string a0_5, .bool a0_6, .string a0_7, .bool a0_8, .string a0_9, .int .i64 a0_10] 25 (0, 0)) (by (with_reducible repeat (first | refine blk_drewN ?_ _ | refine blk_drew ?_ | refine blk_alloc ?_ _)); exact BK317.out) hb); have n1_ := Aside0.mk (blk_below (g := gb322) (o := .cells #[.int .i64 a0_0, .int .i64 a3, .int .i64 a1, .int .i64 x323003_12, .int .i64 a0_4, .string a0_5, .bool a0_6, .string a0_7, .bool a0_8, .string a0_9, .int .i64 x323010_26] 25 (0, 0)) (by (with_reducible repeat (first | refine blk_drewN ?_ _ | refine blk_drew ?_ | refine blk_alloc ?_ _)); exact BK322.out) hb); have n2_ := Aside0.mk (blk_below (g := gb336) (o := .cells #[.int .i64 t325, .int .i64 t326, .int .i64 t327, .int .i64 t328, .int .i64 t329, .string t330, .bool t331, .string t332, .bool t333, .string t334, .int .i64 t335] 25 (0, 0)) (by (with_reducible repeat (first | refine blk_drewN ?_ _ | refine blk_drew ?_ | refine blk_alloc ?_ _)); exact BK336.out) hb); have n3_ := Aside0.mk (below_step (by repeat (first | (with_reducible first | exact HB.out | apply below_alloc | apply pw_below_drewN | apply below_drew1 | refine below_set ?_ GE317.out | refine below_set ?_ GE322.out | refine below_set ?_ GE336.out) | exact HB.out)) hb); clear BK317; clear BK322; clear BK336; clear HB; have BK317 := n0_; have BK322 := n1_; have BK336 := n2_; have HB := n3_; clear n0_ n1_ n2_ n3_; (try clear hb); (try clear hb2); (try clear hk); (try clear hi)))
                          go_ret
                          exact ⟨by first | rfl | (simp [errW_none, errW_some] <;> rfl) | (simp [*, errW_none, errW_some] <;> rfl), by repeat (first | (with_reducible first | exact HB.out | apply below_alloc | apply pw_below_drewN | apply below_drew1 | refine below_set ?_ GE317.out | refine below_set ?_ GE322.out | refine below_set ?_ GE336.out) | exact HB.out)⟩
                        · rw [if_neg c46] at H
                          have c46b0 : ((t337.size : Int) == (wrap64 ((t320.size : Int) + 8))) = false := beq_eq_false_iff_ne.mpr c46
                          have c46b1 : ((t337.size : Int) != (wrap64 ((t320.size : Int) + 8))) = true := bne_iff_ne.mpr c46
                          obtain rfl := Option.some.inj H
                          have hnb58 := NB317_322.out
                          have hnc58 := NB322_317.out
                          have hcz59_0 : wc.cell? ⟨gb317, 0, none⟩ = some (.int .i64 a0_0) := (blk_cell BK317.out 0).trans rfl
                          have hcz59_1 : wc.cell? ⟨gb317, 1, none⟩ = some (.int .i64 a0_1) := (blk_cell BK317.out 1).trans rfl
                          have hcz59_2 : wc.cell? ⟨gb317, 2, none⟩ = some (.int .i64 a0_2) := (blk_cell BK317.out 2).trans rfl
                          have hcz59_3 : wc.cell? ⟨gb317, 3, none⟩ = some (.int .i64 a0_3) := (blk_cell BK317.out 3).trans rfl
                          have hcz59_4 : wc.cell? ⟨gb317, 4, none⟩ = some (.int .i64 a0_4) := (blk_cell BK317.out 4).trans rfl
                          have hcz59_5 : wc.cell? ⟨gb317, 5, none⟩ = some (.string a0_5) := (blk_cell BK317.out 5).trans rfl
                          have hcz59_6 : wc.cell? ⟨gb317, 6, none⟩ = some (.bool a0_6) := (blk_cell BK317.out 6).trans rfl
                          have hcz59_7 : wc.cell? ⟨gb317, 7, none⟩ = some (.string a0_7) := (blk_cell BK317.out 7).trans rfl
                          have hcz59_8 : wc.cell? ⟨gb317, 8, none⟩ = some (.bool a0_8) := (blk_cell BK317.out 8).trans rfl
                          have hcz59_9 : wc.cell? ⟨gb317, 9, none⟩ = some (.string a0_9) := (blk_cell BK317.out 9).trans rfl
                          have hcz59_10 : wc.cell? ⟨gb317, 10, none⟩ = some (.int .i64 a0_10) := (blk_cell BK317.out 10).trans rfl
                          have hfz59_0 := blk_frozen BK317.out 0
                          have hfz59_1 := blk_frozen BK317.out 1
                          have hfz59_2 := blk_frozen BK317.out 2
                          have hfz59_3 := blk_frozen BK317.out 3
                          have hfz59_4 := blk_frozen BK317.out 4
                          have hfz59_5 := blk_frozen BK317.out 5
                          have hfz59_6 := blk_frozen BK317.out 6
                          have hfz59_7 := blk_frozen BK317.out 7
                          have hfz59_8 := blk_frozen BK317.out 8
                          have hfz59_9 := blk_frozen BK317.out 9
                          have hfz59_10 := blk_frozen BK317.out 10
                          go_wp2_with (first | ((with_reducible refine gate_callee (f := 19) rfl ?_); refine goesL_ (some 60) rfl rfl Tryd.func19 (by kernel_rfl) rfl #[.agg #[.int .i64 a0_0, .int .i64 a0_1, .int .i64 a0_2, .int .i64 a0_3, .int .i64 a0_4, .string a0_5, .bool a0_6, .string a0_7, .bool a0_8, .string a0_9, .int .i64 a0_10], .int .i64 a3, .int .i64 a2] rfl (by (try simp only [List.map_toArray, List.map_cons, List.map_nil]); first | done | rfl | (simp only [List.length_drop, List.length_take]; rfl)) ?_; (with_reducible refine (record_Back.calls kj33 a0_0 a0_1 a0_2 a0_3 a0_4 a0_5 a0_6 a0_7 a0_8 a0_9 a0_10 a3 a2 t325 t326 t327 t328 t329 t330 t331 t332 t333 t334 t335 _ A41.out).mono ?_); rintro e w60 ⟨rfl, hb⟩; refine ⟨_, rfl, ?_⟩; have n0_ := Aside0.mk (blk_below (g := gb317) (o := .cells #[.int .i64 a0_0, .int .i64 a0_1, .int .i64 a0_2, .int .i64 a0_3, .int .i64 a0_4, .string a0_5, .bool a0_6, .string a0_7, .bool a0_8, .string a0_9, .int .i64 a0_10] 25 (0, 0)) (by (with_reducible repeat (first | refine blk_drewN ?_ _ | refine blk_drew ?_ | refine blk_alloc ?_ _)); exact BK317.out) hb); have n1_ := Aside0.mk (blk_below (g := gb322) (o := .cells #[.int .i64 a0_0, .int .i64 a3, .int .i64 a1, .int .i64 x323003_12, .int .i64 a0_4, .string a0_5, .bool a0_6, .string a0_7, .bool a0_8, .string a0_9, .int .i64 x323010_26] 25 (0, 0)) (by (with_reducible repeat (first | refine blk_drewN ?_ _ | refine blk_drew ?_ | refine blk_alloc ?_ _)); exact BK322.out) hb); have n2_ := Aside0.mk (below_step (by repeat (first | (with_reducible first | exact HB.out | apply below_alloc | apply pw_below_drewN | apply below_drew1 | refine below_set ?_ GE317.out | refine below_set ?_ GE322.out) | exact HB.out)) hb); clear BK317; clear BK322; clear HB; have BK317 := n0_; have BK322 := n1_; have HB := n2_; clear n0_ n1_ n2_; (try clear hb); (try clear hb2); (try clear hk); (try clear hi)) | ((with_reducible refine gate_dst (N := 14) rfl ?_); (try (refine gate_guard (by rfl) ?_; dsimp only)); refine box_event ?hg (N := 14) ?hd (cs := #[.int .i64 0, .int .i64 0, .int .i64 0, .int .i64 0, .int .i64 0, .string (⟨#[]⟩ : ByteArray), .bool false, .string (⟨#[]⟩ : ByteArray), .bool false, .string (⟨#[]⟩ : ByteArray), .int .i64 0]) (t := 25) ?hr ?_; (case hd => rfl); (case hg => rfl); (case hr => first | (go_simp; done) | (go_simp; rfl)); intro gb336 hg w61 hbox hb; have n0_ := Aside0.mk (blk_below (g := gb317) (o := .cells #[.int .i64 a0_0, .int .i64 a0_1, .int .i64 a0_2, .int .i64 a0_3, .int .i64 a0_4, .string a0_5, .bool a0_6, .string a0_7, .bool a0_8, .string a0_9, .int .i64 a0_10] 25 (0, 0)) (by (with_reducible repeat (first | refine blk_drewN ?_ _ | refine blk_drew ?_ | refine blk_alloc ?_ _)); exact BK317.out) hb); have n1_ := Aside0.mk (blk_below (g := gb322) (o := .cells #[.int .i64 a0_0, .int .i64 a3, .int .i64 a1, .int .i64 x323003_12, .int .i64 a0_4, .string a0_5, .bool a0_6, .string a0_7, .bool a0_8, .string a0_9, .int .i64 x323010_26] 25 (0, 0)) (by (with_reducible repeat (first | refine blk_drewN ?_ _ | refine blk_drew ?_ | refine blk_alloc ?_ _)); exact BK322.out) hb); have n2_ := Aside0.mk (below_step (by repeat (first | (with_reducible first | exact HB.out | apply below_alloc | apply pw_below_drewN | apply below_drew1 | refine below_set ?_ GE317.out | refine below_set ?_ GE322.out) | exact HB.out)) hb); have n3_ := Aside0.mk (hbox); have n4_ := Aside0.mk ((by rw [hg]; exact (below_size (by repeat (first | (with_reducible first | exact HB.out | apply below_alloc | apply pw_below_drewN | apply below_drew1 | refine below_set ?_ GE317.out | refine below_set ?_ GE322.out) | exact HB.out))) : w.heap.size ≤ gb336)); have n5_ := Aside0.mk ((by rw [hg]; exact (below_size (by repeat (first | (with_reducible first | exact HB.out | apply below_alloc | apply pw_below_drewN | apply below_drew1 | refine below_set ?_ GE317.out | refine below_set ?_ GE322.out) | exact HB.out))) : w.heap.size ≤ gb336)); have n6_ := Aside0.mk ((by rw [hg]; exact Nat.ne_of_lt (blk_lt (g := gb317) (o := .cells #[.int .i64 a0_0, .int .i64 a0_1, .int .i64 a0_2, .int .i64 a0_3, .int .i64 a0_4, .string a0_5, .bool a0_6, .string a0_7, .bool a0_8, .string a0_9, .int .i64 a0_10] 25 (0, 0)) (by (with_reducible repeat (first | refine blk_drewN ?_ _ | refine blk_drew ?_ | refine blk_alloc ?_ _)); exact BK317.out)) : gb317 ≠ gb336)); have n7_ := Aside0.mk ((by rw [hg]; exact Nat.ne_of_gt (blk_lt (g := gb317) (o := .cells #[.int .i64 a0_0, .int .i64 a0_1, .int .i64 a0_2, .int .i64 a0_3, .int .i64 a0_4, .string a0_5, .bool a0_6, .string a0_7, .bool a0_8, .string a0_9, .int .i64 a0_10] 25 (0, 0)) (by (with_reducible repeat (first | refine blk_drewN ?_ _ | refine blk_drew ?_ | refine blk_alloc ?_ _)); exact BK317.out)) : gb336 ≠ gb317)); have n8_ := Aside0.mk ((by rw [hg]; exact Nat.ne_of_lt (blk_lt (g := gb322) (o := .cells #[.int .i64 a0_0, .int .i64 a3, .int .i64 a1, .int .i64 x323003_12, .int .i64 a0_4, .string a0_5, .bool a0_6, .string a0_7, .bool a0_8, .string a0_9, .int .i64 x323010_26] 25 (0, 0)) (by (with_reducible repeat (first | refine blk_drewN ?_ _ | refine blk_drew ?_ | refine blk_alloc ?_ _)); exact BK322.out)) : gb322 ≠ gb336)); have n9_ := Aside0.mk ((by rw [hg]; exact Nat.ne_of_gt (blk_lt (g := gb322) (o := .cells #[.int .i64 a0_0, .int .i64 a3, .int .i64 a1, .int .i64 x323003_12, .int .i64 a0_4, .string a0_5, .bool a0_6, .string a0_7, .bool a0_8, .string a0_9, .int .i64 x323010_26] 25 (0, 0)) (by (with_reducible repeat (first | refine blk_drewN ?_ _ | refine blk_drew ?_ | refine blk_alloc ?_ _)); exact BK322.out)) : gb336 ≠ gb322)); clear BK317; clear BK322; clear HB; have BK317 := n0_; have BK322 := n1_; have HB := n2_; have BK336 := n3_; have GW336 := n4_; have GE336 := n5_; have NB317_336 := n6_; have NB336_317 := n7_; have NB322_336 := n8_; have NB336_322 := n9_; clear n0_ n1_ n2_ n3_ n4_ n5_ n6_ n7_ n8_ n9_; clear hb hbox hg; have hnb62 := NB336_317.out; have hnc62 := NB317_336.out; have hnb63 := NB336_322.out; have hnc63 := NB322_336.out; have hcz64_0 : w61.cell? ⟨gb336, 0, none⟩ = some (.int .i64 0) := (blk_cell BK336.out 0).trans rfl; have hcz64_1 : w61.cell? ⟨gb336, 1, none⟩ = some (.int .i64 0) := (blk_cell BK336.out 1).trans rfl; have hcz64_2 : w61.cell? ⟨gb336, 2, none⟩ = some (.int .i64 0) := (blk_cell BK336.out 2).trans rfl; have hcz64_3 : w61.cell? ⟨gb336, 3, none⟩ = some (.int .i64 0) := (blk_cell BK336.out 3).trans rfl; have hcz64_4 : w61.cell? ⟨gb336, 4, none⟩ = some (.int .i64 0) := (blk_cell BK336.out 4).trans rfl; have hcz64_5 : w61.cell? ⟨gb336, 5, none⟩ = some (.string (⟨#[]⟩ : ByteArray)) := (blk_cell BK336.out 5).trans rfl; have hcz64_6 : w61.cell? ⟨gb336, 6, none⟩ = some (.bool false) := (blk_cell BK336.out 6).trans rfl; have hcz64_7 : w61.cell? ⟨gb336, 7, none⟩ = some (.string (⟨#[]⟩ : ByteArray)) := (blk_cell BK336.out 7).trans rfl; have hcz64_8 : w61.cell? ⟨gb336, 8, none⟩ = some (.bool false) := (blk_cell BK336.out 8).trans rfl; have hcz64_9 : w61.cell? ⟨gb336, 9, none⟩ = some (.string (⟨#[]⟩ : ByteArray)) := (blk_cell BK336.out 9).trans rfl; have hcz64_10 : w61.cell? ⟨gb336, 10, none⟩ = some (.int .i64 0) := (blk_cell BK336.out 10).trans rfl; have hfz64_0 := blk_frozen BK336.out 0; have hfz64_1 := blk_frozen BK336.out 1; have hfz64_2 := blk_frozen BK336.out 2; have hfz64_3 := blk_frozen BK336.out 3; have hfz64_4 := blk_frozen BK336.out 4; have hfz64_5 := blk_frozen BK336.out 5; have hfz64_6 := blk_frozen BK336.out 6; have hfz64_7 := blk_frozen BK336.out 7; have hfz64_8 := blk_frozen BK336.out 8; have hfz64_9 := blk_frozen BK336.out 9; have hfz64_10 := blk_frozen BK336.out 10) | ((with_reducible refine gate_callee (f := 20) rfl ?_); refine goesL_ (some 63) rfl rfl Tryd.func20 (by kernel_rfl) rfl #[.agg #[.int .i64 t325, .int .i64 t326, .int .i64 t327, .int .i64 t328, .int .i64 t329, .string t330, .bool t331, .string t332, .bool t333, .string t334, .int .i64 t335]] rfl (by (try simp only [List.map_toArray, List.map_cons, List.map_nil]); first | done | rfl | (simp only [List.length_drop, List.length_take]; rfl)) ?_; (with_reducible refine (record_Encode.calls kj33 t325 t326 t327 t328 t329 t330 t331 t332 t333 t334 t335 t337 t338 _ A42.out).mono ?_); rintro e w65 ⟨rfl, hb⟩; refine ⟨_, rfl, ?_⟩; have n0_ := Aside0.mk (blk_below (g := gb317) (o := .cells #[.int .i64 a0_0, .int .i64 a0_1, .int .i64 a0_2, .int .i64 a0_3, .int .i64 a0_4, .string a0_5, .bool a0_6, .string a0_7, .bool a0_8, .string a0_9, .int .i64 a0_10] 25 (0, 0)) (by (with_reducible repeat (first | refine blk_drewN ?_ _ | refine blk_drew ?_ | refine blk_alloc ?_ _)); refine blk_far ?_ NB317_336.out _; (with_reducible repeat (first | refine blk_drewN ?_ _ | refine blk_drew ?_ | refine blk_alloc ?_ _)); refine blk_far ?_ NB317_336.out _; (with_reducible repeat (first | refine blk_drewN ?_ _ | refine blk_drew ?_ | refine blk_alloc ?_ _)); refine blk_far ?_ NB317_336.out _; (with_reducible repeat (first | refine blk_drewN ?_ _ | refine blk_drew ?_ | refine blk_alloc ?_ _)); refine blk_far ?_ NB317_336.out _; (with_reducible repeat (first | refine blk_drewN ?_ _ | refine blk_drew ?_ | refine blk_alloc ?_ _)); refine blk_far ?_ NB317_336.out _; (with_reducible repeat (first | refine blk_drewN ?_ _ | refine blk_drew ?_ | refine blk_alloc ?_ _)); refine blk_far ?_ NB317_336.out _; (with_reducible repeat (first | refine blk_drewN ?_ _ | refine blk_drew ?_ | refine blk_alloc ?_ _)); refine blk_far ?_ NB317_336.out _; (with_reducible repeat (first | refine blk_drewN ?_ _ | refine blk_drew ?_ | refine blk_alloc ?_ _)); refine blk_far ?_ NB317_336.out _; (with_reducible repeat (first | refine blk_drewN ?_ _ | refine blk_drew ?_ | refine blk_alloc ?_ _)); refine blk_far ?_ NB317_336.out _; (with_reducible repeat (first | refine blk_drewN ?_ _ | refine blk_drew ?_ | refine blk_alloc ?_ _)); refine blk_far ?_ NB317_336.out _; (with_reducible repeat (first | refine blk_drewN ?_ _ | refine blk_drew ?_ | refine blk_alloc ?_ _)); refine blk_far ?_ NB317_336.out _; (with_reducible repeat (first | refine blk_drewN ?_ _ | refine blk_drew ?_ | refine blk_alloc ?_ _)); exact BK317.out) hb); have n1_ := Aside0.mk (blk_below (g := gb322) (o := .cells #[.int .i64 a0_0, .int .i64 a3, .int .i64 a1, .int .i64 x323003_12, .int .i64 a0_4, .string a0_5, .bool a0_6, .string a0_7, .bool a0_8, .string a0_9, .int .i64 x323010_26] 25 (0, 0)) (by (with_reducible repeat (first | refine blk_drewN ?_ _ | refine blk_drew ?_ | refine blk_alloc ?_ _)); refine blk_far ?_ NB322_336.out _; (with_reducible repeat (first | refine blk_drewN ?_ _ | refine blk_drew ?_ | refine blk_alloc ?_ _)); refine blk_far ?_ NB322_336.out _; (with_reducible repeat (first | refine blk_drewN ?_ _ | refine blk_drew ?_ | refine blk_alloc ?_ _)); refine blk_far ?_ NB322_336.out _; (with_reducible repeat (first | refine blk_drewN ?_ _ | refine blk_drew ?_ | refine blk_alloc ?_ _)); refine blk_far ?_ NB322_336.out _; (with_reducible repeat (first | refine blk_drewN ?_ _ | refine blk_drew ?_ | refine blk_alloc ?_ _)); refine blk_far ?_ NB322_336.out _; (with_reducible repeat (first | refine blk_drewN ?_ _ | refine blk_drew ?_ | refine blk_alloc ?_ _)); refine blk_far ?_ NB322_336.out _; (with_reducible repeat (first | refine blk_drewN ?_ _ | refine blk_drew ?_ | refine blk_alloc ?_ _)); refine blk_far ?_ NB322_336.out _; (with_reducible repeat (first | refine blk_drewN ?_ _ | refine blk_drew ?_ | refine blk_alloc ?_ _)); refine blk_far ?_ NB322_336.out _; (with_reducible repeat (first | refine blk_drewN ?_ _ | refine blk_drew ?_ | refine blk_alloc ?_ _)); refine blk_far ?_ NB322_336.out _; (with_reducible repeat (first | refine blk_drewN ?_ _ | refine blk_drew ?_ | refine blk_alloc ?_ _)); refine blk_far ?_ NB322_336.out _; (with_reducible repeat (first | refine blk_drewN ?_ _ | refine blk_drew ?_ | refine blk_alloc ?_ _)); refine blk_far ?_ NB322_336.out _; (with_reducible repeat (first | refine blk_drewN ?_ _ | refine blk_drew ?_ | refine blk_alloc ?_ _)); exact BK322.out) hb); have n2_ := Aside0.mk (blk_below (g := gb336) (o := .cells #[.int .i64 t325, .int .i64 t326, .int .i64 t327, .int .i64 t328, .int .i64 t329, .string t330, .bool t331, .string t332, .bool t333, .string t334, .int .i64 t335] 25 (0, 0)) (by (with_reducible repeat (first | refine blk_drewN ?_ _ | refine blk_drew ?_ | refine blk_alloc ?_ _)); refine blk_put (cs := #[.int .i64 t325, .int .i64 t326, .int .i64 t327, .int .i64 t328, .int .i64 t329, .string t330, .bool t331, .string t332, .bool t333, .string t334, .int .i64 0]) ?_ 10 _ rfl; (with_reducible repeat (first | refine blk_drewN ?_ _ | refine blk_drew ?_ | refine blk_alloc ?_ _)); refine blk_put (cs := #[.int .i64 t325, .int .i64 t326, .int .i64 t327, .int .i64 t328, .int .i64 t329, .string t330, .bool t331, .string t332, .bool t333, .string (⟨#[]⟩ : ByteArray), .int .i64 0]) ?_ 9 _ rfl; (with_reducible repeat (first | refine blk_drewN ?_ _ | refine blk_drew ?_ | refine blk_alloc ?_ _)); refine blk_put (cs := #[.int .i64 t325, .int .i64 t326, .int .i64 t327, .int .i64 t328, .int .i64 t329, .string t330, .bool t331, .string t332, .bool false, .string (⟨#[]⟩ : ByteArray), .int .i64 0]) ?_ 8 _ rfl; (with_reducible repeat (first | refine blk_drewN ?_ _ | refine blk_drew ?_ | refine blk_alloc ?_ _)); refine blk_put (cs := #[.int .i64 t325, .int .i64 t326, .int .i64 t327, .int .i64 t328, .int .i64 t329, .string t330, .bool t331, .string (⟨#[]⟩ : ByteArray), .bool false, .string (⟨#[]⟩ : ByteArray), .int .i64 0]) ?_ 7 _ rfl; (with_reducible repeat (first | refine blk_drewN ?_ _ | refine blk_drew ?_ | refine blk_alloc ?_ _)); refine blk_put (cs := #[.int .i64 t325, .int .i64 t326, .int .i64 t327, .int .i64 t328, .int .i64 t329, .string t330, .bool false, .string (⟨#[]⟩ : ByteArray), .bool false, .string (⟨#[]⟩ : ByteArray), .int .i64 0]) ?_ 6 _ rfl; (with_reducible repeat (first | refine blk_drewN ?_ _ | refine blk_drew ?_ | refine blk_alloc ?_ _)); refine blk_put (cs := #[.int .i64 t325, .int .i64 t326, .int .i64 t327, .int .i64 t328, .int .i64 t329, .string (⟨#[]⟩ : ByteArray), .bool false, .string (⟨#[]⟩ : ByteArray), .bool false, .string (⟨#[]⟩ : ByteArray), .int .i64 0]) ?_ 5 _ rfl; (with_reducible repeat (first | refine blk_drewN ?_ _ | refine blk_drew ?_ | refine blk_alloc ?_ _)); refine blk_put (cs := #[.int .i64 t325, .int .i64 t326, .int .i64 t327, .int .i64 t328, .int .i64 0, .string (⟨#[]⟩ : ByteArray), .bool false, .string (⟨#[]⟩ : ByteArray), .bool false, .string (⟨#[]⟩ : ByteArray), .int .i64 0]) ?_ 4 _ rfl; (with_reducible repeat (first | refine blk_drewN ?_ _ | refine blk_drew ?_ | refine blk_alloc ?_ _)); refine blk_put (cs := #[.int .i64 t325, .int .i64 t326, .int .i64 t327, .int .i64 0, .int .i64 0, .string (⟨#[]⟩ : ByteArray), .bool false, .string (⟨#[]⟩ : ByteArray), .bool false, .string (⟨#[]⟩ : ByteArray), .int .i64 0]) ?_ 3 _ rfl; (with_reducible repeat (first | refine blk_drewN ?_ _ | refine blk_drew ?_ | refine blk_alloc ?_ _)); refine blk_put (cs := #[.int .i64 t325, .int .i64 t326, .int .i64 0, .int .i64 0, .int .i64 0, .string (⟨#[]⟩ : ByteArray), .bool false, .string (⟨#[]⟩ : ByteArray), .bool false, .string (⟨#[]⟩ : ByteArray), .int .i64 0]) ?_ 2 _ rfl; (with_reducible repeat (first | refine blk_drewN ?_ _ | refine blk_drew ?_ | refine blk_alloc ?_ _)); refine blk_put (cs := #[.int .i64 t325, .int .i64 0, .int .i64 0, .int .i64 0, .int .i64 0, .string (⟨#[]⟩ : ByteArray), .bool false, .string (⟨#[]⟩ : ByteArray), .bool false, .string (⟨#[]⟩ : ByteArray), .int .i64 0]) ?_ 1 _ rfl; (with_reducible repeat (first | refine blk_drewN ?_ _ | refine blk_drew ?_ | refine blk_alloc ?_ _)); refine blk_put (cs := #[.int .i64 0, .int .i64 0, .int .i64 0, .int .i64 0, .int .i64 0, .string (⟨#[]⟩ : ByteArray), .bool false, .string (⟨#[]⟩ : ByteArray), .bool false, .string (⟨#[]⟩ : ByteArray), .int .i64 0]) ?_ 0 _ rfl; (with_reducible repeat (first | refine blk_drewN ?_ _ | refine blk_drew ?_ | refine blk_alloc ?_ _)); exact BK336.out) hb); have n3_ := Aside0.mk (below_step (by repeat (first | (with_reducible first | exact HB.out | apply below_alloc | apply pw_below_drewN | apply below_drew1 | refine below_set ?_ GE317.out | refine below_set ?_ GE322.out | refine below_set ?_ GE336.out) | exact HB.out)) hb); clear BK317; clear BK322; clear BK336; clear HB; have BK317 := n0_; have BK322 := n1_; have BK336 := n2_; have HB := n3_; clear n0_ n1_ n2_ n3_; (try clear hb); (try clear hb2); (try clear hk); (try clear hi); have hcz66_0 : w65.cell? ⟨gb317, 0, none⟩ = some (.int .i64 a0_0) := (blk_cell BK317.out 0).trans rfl; have hcz66_1 : w65.cell? ⟨gb317, 1, none⟩ = some (.int .i64 a0_1) := (blk_cell BK317.out 1).trans rfl; have hcz66_2 : w65.cell? ⟨gb317, 2, none⟩ = some (.int .i64 a0_2) := (blk_cell BK317.out 2).trans rfl; have hcz66_3 : w65.cell? ⟨gb317, 3, none⟩ = some (.int .i64 a0_3) := (blk_cell BK317.out 3).trans rfl; have hcz66_4 : w65.cell? ⟨gb317, 4, none⟩ = some (.int .i64 a0_4) := (blk_cell BK317.out 4).trans rfl; have hcz66_5 : w65.cell? ⟨gb317, 5, none⟩ = some (.string a0_5) := (blk_cell BK317.out 5).trans rfl; have hcz66_6 : w65.cell? ⟨gb317, 6, none⟩ = some (.bool a0_6) := (blk_cell BK317.out 6).trans rfl; have hcz66_7 : w65.cell? ⟨gb317, 7, none⟩ = some (.string a0_7) := (blk_cell BK317.out 7).trans rfl; have hcz66_8 : w65.cell? ⟨gb317, 8, none⟩ = some (.bool a0_8) := (blk_cell BK317.out 8).trans rfl; have hcz66_9 : w65.cell? ⟨gb317, 9, none⟩ = some (.string a0_9) := (blk_cell BK317.out 9).trans rfl; have hcz66_10 : w65.cell? ⟨gb317, 10, none⟩ = some (.int .i64 a0_10) := (blk_cell BK317.out 10).trans rfl; have hfz66_0 := blk_frozen BK317.out 0; have hfz66_1 := blk_frozen BK317.out 1; have hfz66_2 := blk_frozen BK317.out 2; have hfz66_3 := blk_frozen BK317.out 3; have hfz66_4 := blk_frozen BK317.out 4; have hfz66_5 := blk_frozen BK317.out 5; have hfz66_6 := blk_frozen BK317.out 6; have hfz66_7 := blk_frozen BK317.out 7; have hfz66_8 := blk_frozen BK317.out 8; have hfz66_9 := blk_frozen BK317.out 9; have hfz66_10 := blk_frozen BK317.out 10))
                          go_ret
                          exact ⟨by first | rfl | (simp [errW_none, errW_some] <;> rfl) | (simp [*, errW_none, errW_some] <;> rfl), by repeat (first | (with_reducible first | exact HB.out | apply below_alloc | apply pw_below_drewN | apply below_drew1 | refine below_set ?_ GE317.out | refine below_set ?_ GE322.out | refine below_set ?_ GE336.out) | exact HB.out)⟩
                      · rw [if_neg c45] at H
                        have c45b0 : (a0_0 == 2) = false := beq_eq_false_iff_ne.mpr c45
                        have c45b1 : (a0_0 != 2) = true := bne_iff_ne.mpr c45
                        replace H := Option.bind_eq_some_iff.mp H
                        obtain ⟨t340, A670, H⟩ := H
                        replace H : (some t340) = some r := H
                        have A67 := Aside0.mk A670
                        clear A670
                        obtain rfl := Option.some.inj H
                        have hnb68 := NB317_322.out
                        have hnc68 := NB322_317.out
                        have hcz69_0 : wc.cell? ⟨gb317, 0, none⟩ = some (.int .i64 a0_0) := (blk_cell BK317.out 0).trans rfl
                        have hcz69_1 : wc.cell? ⟨gb317, 1, none⟩ = some (.int .i64 a0_1) := (blk_cell BK317.out 1).trans rfl
                        have hcz69_2 : wc.cell? ⟨gb317, 2, none⟩ = some (.int .i64 a0_2) := (blk_cell BK317.out 2).trans rfl
                        have hcz69_3 : wc.cell? ⟨gb317, 3, none⟩ = some (.int .i64 a0_3) := (blk_cell BK317.out 3).trans rfl
                        have hcz69_4 : wc.cell? ⟨gb317, 4, none⟩ = some (.int .i64 a0_4) := (blk_cell BK317.out 4).trans rfl
                        have hcz69_5 : wc.cell? ⟨gb317, 5, none⟩ = some (.string a0_5) := (blk_cell BK317.out 5).trans rfl
                        have hcz69_6 : wc.cell? ⟨gb317, 6, none⟩ = some (.bool a0_6) := (blk_cell BK317.out 6).trans rfl
                        have hcz69_7 : wc.cell? ⟨gb317, 7, none⟩ = some (.string a0_7) := (blk_cell BK317.out 7).trans rfl
                        have hcz69_8 : wc.cell? ⟨gb317, 8, none⟩ = some (.bool a0_8) := (blk_cell BK317.out 8).trans rfl
                        have hcz69_9 : wc.cell? ⟨gb317, 9, none⟩ = some (.string a0_9) := (blk_cell BK317.out 9).trans rfl
                        have hcz69_10 : wc.cell? ⟨gb317, 10, none⟩ = some (.int .i64 a0_10) := (blk_cell BK317.out 10).trans rfl
                        have hfz69_0 := blk_frozen BK317.out 0
                        have hfz69_1 := blk_frozen BK317.out 1
                        have hfz69_2 := blk_frozen BK317.out 2
                        have hfz69_3 := blk_frozen BK317.out 3
                        have hfz69_4 := blk_frozen BK317.out 4
                        have hfz69_5 := blk_frozen BK317.out 5
                        have hfz69_6 := blk_frozen BK317.out 6
                        have hfz69_7 := blk_frozen BK317.out 7
                        have hfz69_8 := blk_frozen BK317.out 8
                        have hfz69_9 := blk_frozen BK317.out 9
                        have hfz69_10 := blk_frozen BK317.out 10
                        go_wp2_with (first | ((with_reducible refine gate_callee (f := 19) rfl ?_); refine goesL_ (some 60) rfl rfl Tryd.func19 (by kernel_rfl) rfl #[.agg #[.int .i64 a0_0, .int .i64 a0_1, .int .i64 a0_2, .int .i64 a0_3, .int .i64 a0_4, .string a0_5, .bool a0_6, .string a0_7, .bool a0_8, .string a0_9, .int .i64 a0_10], .int .i64 a3, .int .i64 a2] rfl (by (try simp only [List.map_toArray, List.map_cons, List.map_nil]); first | done | rfl | (simp only [List.length_drop, List.length_take]; rfl)) ?_; (with_reducible refine (record_Back.calls kj33 a0_0 a0_1 a0_2 a0_3 a0_4 a0_5 a0_6 a0_7 a0_8 a0_9 a0_10 a3 a2 t325 t326 t327 t328 t329 t330 t331 t332 t333 t334 t335 _ A41.out).mono ?_); rintro e w70 ⟨rfl, hb⟩; refine ⟨_, rfl, ?_⟩; have n0_ := Aside0.mk (blk_below (g := gb317) (o := .cells #[.int .i64 a0_0, .int .i64 a0_1, .int .i64 a0_2, .int .i64 a0_3, .int .i64 a0_4, .string a0_5, .bool a0_6, .string a0_7, .bool a0_8, .string a0_9, .int .i64 a0_10] 25 (0, 0)) (by (with_reducible repeat (first | refine blk_drewN ?_ _ | refine blk_drew ?_ | refine blk_alloc ?_ _)); exact BK317.out) hb); have n1_ := Aside0.mk (blk_below (g := gb322) (o := .cells #[.int .i64 a0_0, .int .i64 a3, .int .i64 a1, .int .i64 x323003_12, .int .i64 a0_4, .string a0_5, .bool a0_6, .string a0_7, .bool a0_8, .string a0_9, .int .i64 x323010_26] 25 (0, 0)) (by (with_reducible repeat (first | refine blk_drewN ?_ _ | refine blk_drew ?_ | refine blk_alloc ?_ _)); exact BK322.out) hb); have n2_ := Aside0.mk (below_step (by repeat (first | (with_reducible first | exact HB.out | apply below_alloc | apply pw_below_drewN | apply below_drew1 | refine below_set ?_ GE317.out | refine below_set ?_ GE322.out) | exact HB.out)) hb); clear BK317; clear BK322; clear HB; have BK317 := n0_; have BK322 := n1_; have HB := n2_; clear n0_ n1_ n2_; (try clear hb); (try clear hb2); (try clear hk); (try clear hi)) | ((with_reducible refine gate_dst (N := 14) rfl ?_); (try (refine gate_guard (by rfl) ?_; dsimp only)); refine box_event ?hg (N := 14) ?hd (cs := #[.int .i64 0, .int .i64 0, .int .i64 0, .int .i64 0, .int .i64 0, .string (⟨#[]⟩ : ByteArray), .bool false, .string (⟨#[]⟩ : ByteArray), .bool false, .string (⟨#[]⟩ : ByteArray), .int .i64 0]) (t := 25) ?hr ?_; (case hd => rfl); (case hg => rfl); (case hr => first | (go_simp; done) | (go_simp; rfl)); intro gb336 hg w71 hbox hb; have n0_ := Aside0.mk (blk_below (g := gb317) (o := .cells #[.int .i64 a0_0, .int .i64 a0_1, .int .i64 a0_2, .int .i64 a0_3, .int .i64 a0_4, .string a0_5, .bool a0_6, .string a0_7, .bool a0_8, .string a0_9, .int .i64 a0_10] 25 (0, 0)) (by (with_reducible repeat (first | refine blk_drewN ?_ _ | refine blk_drew ?_ | refine blk_alloc ?_ _)); exact BK317.out) hb); have n1_ := Aside0.mk (blk_below (g := gb322) (o := .cells #[.int .i64 a0_0, .int .i64 a3, .int .i64 a1, .int .i64 x323003_12, .int .i64 a0_4, .string a0_5, .bool a0_6, .string a0_7, .bool a0_8, .string a0_9, .int .i64 x323010_26] 25 (0, 0)) (by (with_reducible repeat (first | refine blk_drewN ?_ _ | refine blk_drew ?_ | refine blk_alloc ?_ _)); exact BK322.out) hb); have n2_ := Aside0.mk (below_step (by repeat (first | (with_reducible first | exact HB.out | apply below_alloc | apply pw_below_drewN | apply below_drew1 | refine below_set ?_ GE317.out | refine below_set ?_ GE322.out) | exact HB.out)) hb); have n3_ := Aside0.mk (hbox); have n4_ := Aside0.mk ((by rw [hg]; exact (below_size (by repeat (first | (with_reducible first | exact HB.out | apply below_alloc | apply pw_below_drewN | apply below_drew1 | refine below_set ?_ GE317.out | refine below_set ?_ GE322.out) | exact HB.out))) : w.heap.size ≤ gb336)); have n5_ := Aside0.mk ((by rw [hg]; exact (below_size (by repeat (first | (with_reducible first | exact HB.out | apply below_alloc | apply pw_below_drewN | apply below_drew1 | refine below_set ?_ GE317.out | refine below_set ?_ GE322.out) | exact HB.out))) : w.heap.size ≤ gb336)); have n6_ := Aside0.mk ((by rw [hg]; exact Nat.ne_of_lt (blk_lt (g := gb317) (o := .cells #[.int .i64 a0_0, .int .i64 a0_1, .int .i64 a0_2, .int .i64 a0_3, .int .i64 a0_4, .string a0_5, .bool a0_6, .string a0_7, .bool a0_8, .string a0_9, .int .i64 a0_10] 25 (0, 0)) (by (with_reducible repeat (first | refine blk_drewN ?_ _ | refine blk_drew ?_ | refine blk_alloc ?_ _)); exact BK317.out)) : gb317 ≠ gb336)); have n7_ := Aside0.mk ((by rw [hg]; exact Nat.ne_of_gt (blk_lt (g := gb317) (o := .cells #[.int .i64 a0_0, .int .i64 a0_1, .int .i64 a0_2, .int .i64 a0_3, .int .i64 a0_4, .string a0_5, .bool a0_6, .string a0_7, .bool a0_8, .string a0_9, .int .i64 a0_10] 25 (0, 0)) (by (with_reducible repeat (first | refine blk_drewN ?_ _ | refine blk_drew ?_ | refine blk_alloc ?_ _)); exact BK317.out)) : gb336 ≠ gb317)); have n8_ := Aside0.mk ((by rw [hg]; exact Nat.ne_of_lt (blk_lt (g := gb322) (o := .cells #[.int .i64 a0_0, .int .i64 a3, .int .i64 a1, .int .i64 x323003_12, .int .i64 a0_4, .string a0_5, .bool a0_6, .string a0_7, .bool a0_8, .string a0_9, .int .i64 x323010_26] 25 (0, 0)) (by (with_reducible repeat (first | refine blk_drewN ?_ _ | refine blk_drew ?_ | refine blk_alloc ?_ _)); exact BK322.out)) : gb322 ≠ gb336)); have n9_ := Aside0.mk ((by rw [hg]; exact Nat.ne_of_gt (blk_lt (g := gb322) (o := .cells #[.int .i64 a0_0, .int .i64 a3, .int .i64 a1, .int .i64 x323003_12, .int .i64 a0_4, .string a0_5, .bool a0_6, .string a0_7, .bool a0_8, .string a0_9, .int .i64 x323010_26] 25 (0, 0)) (by (with_reducible repeat (first | refine blk_drewN ?_ _ | refine blk_drew ?_ | refine blk_alloc ?_ _)); exact BK322.out)) : gb336 ≠ gb322)); clear BK317; clear BK322; clear HB; have BK317 := n0_; have BK322 := n1_; have HB := n2_; have BK336 := n3_; have GW336 := n4_; have GE336 := n5_; have NB317_336 := n6_; have NB336_317 := n7_; have NB322_336 := n8_; have NB336_322 := n9_; clear n0_ n1_ n2_ n3_ n4_ n5_ n6_ n7_ n8_ n9_; clear hb hbox hg; have hnb72 := NB336_317.out; have hnc72 := NB317_336.out; have hnb73 := NB336_322.out; have hnc73 := NB322_336.out; have hcz74_0 : w71.cell? ⟨gb336, 0, none⟩ = some (.int .i64 0) := (blk_cell BK336.out 0).trans rfl; have hcz74_1 : w71.cell? ⟨gb336, 1, none⟩ = some (.int .i64 0) := (blk_cell BK336.out 1).trans rfl; have hcz74_2 : w71.cell? ⟨gb336, 2, none⟩ = some (.int .i64 0) := (blk_cell BK336.out 2).trans rfl; have hcz74_3 : w71.cell? ⟨gb336, 3, none⟩ = some (.int .i64 0) := (blk_cell BK336.out 3).trans rfl; have hcz74_4 : w71.cell? ⟨gb336, 4, none⟩ = some (.int .i64 0) := (blk_cell BK336.out 4).trans rfl; have hcz74_5 : w71.cell? ⟨gb336, 5, none⟩ = some (.string (⟨#[]⟩ : ByteArray)) := (blk_cell BK336.out 5).trans rfl; have hcz74_6 : w71.cell? ⟨gb336, 6, none⟩ = some (.bool false) := (blk_cell BK336.out 6).trans rfl; have hcz74_7 : w71.cell? ⟨gb336, 7, none⟩ = some (.string (⟨#[]⟩ : ByteArray)) := (blk_cell BK336.out 7).trans rfl; have hcz74_8 : w71.cell? ⟨gb336, 8, none⟩ = some (.bool false) := (blk_cell BK336.out 8).trans rfl; have hcz74_9 : w71.cell? ⟨gb336, 9, none⟩ = some (.string (⟨#[]⟩ : ByteArray)) := (blk_cell BK336.out 9).trans rfl; have hcz74_10 : w71.cell? ⟨gb336, 10, none⟩ = some (.int .i64 0) := (blk_cell BK336.out 10).trans rfl; have hfz74_0 := blk_frozen BK336.out 0; have hfz74_1 := blk_frozen BK336.out 1; have hfz74_2 := blk_frozen BK336.out 2; have hfz74_3 := blk_frozen BK336.out 3; have hfz74_4 := blk_frozen BK336.out 4; have hfz74_5 := blk_frozen BK336.out 5; have hfz74_6 := blk_frozen BK336.out 6; have hfz74_7 := blk_frozen BK336.out 7; have hfz74_8 := blk_frozen BK336.out 8; have hfz74_9 := blk_frozen BK336.out 9; have hfz74_10 := blk_frozen BK336.out 10) | ((with_reducible refine gate_callee (f := 20) rfl ?_); refine goesL_ (some 63) rfl rfl Tryd.func20 (by kernel_rfl) rfl #[.agg #[.int .i64 t325, .int .i64 t326, .int .i64 t327, .int .i64 t328, .int .i64 t329, .string t330, .bool t331, .string t332, .bool t333, .string t334, .int .i64 t335]] rfl (by (try simp only [List.map_toArray, List.map_cons, List.map_nil]); first | done | rfl | (simp only [List.length_drop, List.length_take]; rfl)) ?_; (with_reducible refine (record_Encode.calls kj33 t325 t326 t327 t328 t329 t330 t331 t332 t333 t334 t335 t337 t338 _ A42.out).mono ?_); rintro e w75 ⟨rfl, hb⟩; refine ⟨_, rfl, ?_⟩; have n0_ := Aside0.mk (blk_below (g := gb317) (o := .cells #[.int .i64 a0_0, .int .i64 a0_1, .int .i64 a0_2, .int .i64 a0_3, .int .i64 a0_4, .string a0_5, .bool a0_6, .string a0_7, .bool a0_8, .string a0_9, .int .i64 a0_10] 25 (0, 0)) (by (with_reducible repeat (first | refine blk_drewN ?_ _ | refine blk_drew ?_ | refine blk_alloc ?_ _)); refine blk_far ?_ NB317_336.out _; (with_reducible repeat (first | refine blk_drewN ?_ _ | refine blk_drew ?_ | refine blk_alloc ?_ _)); refine blk_far ?_ NB317_336.out _; (with_reducible repeat (first | refine blk_drewN ?_ _ | refine blk_drew ?_ | refine blk_alloc ?_ _)); refine blk_far ?_ NB317_336.out _; (with_reducible repeat (first | refine blk_drewN ?_ _ | refine blk_drew ?_ | refine blk_alloc ?_ _)); refine blk_far ?_ NB317_336.out _; (with_reducible repeat (first | refine blk_drewN ?_ _ | refine blk_drew ?_ | refine blk_alloc ?_ _)); refine blk_far ?_ NB317_336.out _; (with_reducible repeat (first | refine blk_drewN ?_ _ | refine blk_drew ?_ | refine blk_alloc ?_ _)); refine blk_far ?_ NB317_336.out _; (with_reducible repeat (first | refine blk_drewN ?_ _ | refine blk_drew ?_ | refine blk_alloc ?_ _)); refine blk_far ?_ NB317_336.out _; (with_reducible repeat (first | refine blk_drewN ?_ _ | refine blk_drew ?_ | refine blk_alloc ?_ _)); refine blk_far ?_ NB317_336.out _; (with_reducible repeat (first | refine blk_drewN ?_ _ | refine blk_drew ?_ | refine blk_alloc ?_ _)); refine blk_far ?_ NB317_336.out _; (with_reducible repeat (first | refine blk_drewN ?_ _ | refine blk_drew ?_ | refine blk_alloc ?_ _)); refine blk_far ?_ NB317_336.out _; (with_reducible repeat (first | refine blk_drewN ?_ _ | refine blk_drew ?_ | refine blk_alloc ?_ _)); refine blk_far ?_ NB317_336.out _; (with_reducible repeat (first | refine blk_drewN ?_ _ | refine blk_drew ?_ | refine blk_alloc ?_ _)); exact BK317.out) hb); have n1_ := Aside0.mk (blk_below (g := gb322) (o := .cells #[.int .i64 a0_0, .int .i64 a3, .int .i64 a1, .int .i64 x323003_12, .int .i64 a0_4, .string a0_5, .bool a0_6, .string a0_7, .bool a0_8, .string a0_9, .int .i64 x323010_26] 25 (0, 0)) (by (with_reducible repeat (first | refine blk_drewN ?_ _ | refine blk_drew ?_ | refine blk_alloc ?_ _)); refine blk_far ?_ NB322_336.out _; (with_reducible repeat (first | refine blk_drewN ?_ _ | refine blk_drew ?_ | refine blk_alloc ?_ _)); refine blk_far ?_ NB322_336.out _; (with_reducible repeat (first | refine blk_drewN ?_ _ | refine blk_drew ?_ | refine blk_alloc ?_ _)); refine blk_far ?_ NB322_336.out _; (with_reducible repeat (first | refine blk_drewN ?_ _ | refine blk_drew ?_ | refine blk_alloc ?_ _)); refine blk_far ?_ NB322_336.out _; (with_reducible repeat (first | refine blk_drewN ?_ _ | refine blk_drew ?_ | refine blk_alloc ?_ _)); refine blk_far ?_ NB322_336.out _; (with_reducible repeat (first | refine blk_drewN ?_ _ | refine blk_drew ?_ | refine blk_alloc ?_ _)); refine blk_far ?_ NB322_336.out _; (with_reducible repeat (first | refine blk_drewN ?_ _ | refine blk_drew ?_ | refine blk_alloc ?_ _)); refine blk_far ?_ NB322_336.out _; (with_reducible repeat (first | refine blk_drewN ?_ _ | refine blk_drew ?_ | refine blk_alloc ?_ _)); refine blk_far ?_ NB322_336.out _; (with_reducible repeat (first | refine blk_drewN ?_ _ | refine blk_drew ?_ | refine blk_alloc ?_ _)); refine blk_far ?_ NB322_336.out _; (with_reducible repeat (first | refine blk_drewN ?_ _ | refine blk_drew ?_ | refine blk_alloc ?_ _)); refine blk_far ?_ NB322_336.out _; (with_reducible repeat (first | refine blk_drewN ?_ _ | refine blk_drew ?_ | refine blk_alloc ?_ _)); refine blk_far ?_ NB322_336.out _; (with_reducible repeat (first | refine blk_drewN ?_ _ | refine blk_drew ?_ | refine blk_alloc ?_ _)); exact BK322.out) hb); have n2_ := Aside0.mk (blk_below (g := gb336) (o := .cells #[.int .i64 t325, .int .i64 t326, .int .i64 t327, .int .i64 t328, .int .i64 t329, .string t330, .bool t331, .string t332, .bool t333, .string t334, .int .i64 t335] 25 (0, 0)) (by (with_reducible repeat (first | refine blk_drewN ?_ _ | refine blk_drew ?_ | refine blk_alloc ?_ _)); refine blk_put (cs := #[.int .i64 t325, .int .i64 t326, .int .i64 t327, .int .i64 t328, .int .i64 t329, .string t330, .bool t331, .string t332, .bool t333, .string t334, .int .i64 0]) ?_ 10 _ rfl; (with_reducible repeat (first | refine blk_drewN ?_ _ | refine blk_drew ?_ | refine blk_alloc ?_ _)); refine blk_put (cs := #[.int .i64 t325, .int .i64 t326, .int .i64 t327, .int .i64 t328, .int .i64 t329, .string t330, .bool t331, .string t332, .bool t333, .string (⟨#[]⟩ : ByteArray), .int .i64 0]) ?_ 9 _ rfl; (with_reducible repeat (first | refine blk_drewN ?_ _ | refine blk_drew ?_ | refine blk_alloc ?_ _)); refine blk_put (cs := #[.int .i64 t325, .int .i64 t326, .int .i64 t327, .int .i64 t328, .int .i64 t329, .string t330, .bool t331, .string t332, .bool false, .string (⟨#[]⟩ : ByteArray), .int .i64 0]) ?_ 8 _ rfl; (with_reducible repeat (first | refine blk_drewN ?_ _ | refine blk_drew ?_ | refine blk_alloc ?_ _)); refine blk_put (cs := #[.int .i64 t325, .int .i64 t326, .int .i64 t327, .int .i64 t328, .int .i64 t329, .string t330, .bool t331, .string (⟨#[]⟩ : ByteArray), .bool false, .string (⟨#[]⟩ : ByteArray), .int .i64 0]) ?_ 7 _ rfl; (with_reducible repeat (first | refine blk_drewN ?_ _ | refine blk_drew ?_ | refine blk_alloc ?_ _)); refine blk_put (cs := #[.int .i64 t325, .int .i64 t326, .int .i64 t327, .int .i64 t328, .int .i64 t329, .string t330, .bool false, .string (⟨#[]⟩ : ByteArray), .bool false, .string (⟨#[]⟩ : ByteArray), .int .i64 0]) ?_ 6 _ rfl; (with_reducible repeat (first | refine blk_drewN ?_ _ | refine blk_drew ?_ | refine blk_alloc ?_ _)); refine blk_put (cs := #[.int .i64 t325, .int .i64 t326, .int .i64 t327, .int .i64 t328, .int .i64 t329, .string (⟨#[]⟩ : ByteArray), .bool false, .string (⟨#[]⟩ : ByteArray), .bool false, .string (⟨#[]⟩ : ByteArray), .int .i64 0]) ?_ 5 _ rfl; (with_reducible repeat (first | refine blk_drewN ?_ _ | refine blk_drew ?_ | refine blk_alloc ?_ _)); refine blk_put (cs := #[.int .i64 t325, .int .i64 t326, .int .i64 t327, .int .i64 t328, .int .i64 0, .string (⟨#[]⟩ : ByteArray), .bool false, .string (⟨#[]⟩ : ByteArray), .bool false, .string (⟨#[]⟩ : ByteArray), .int .i64 0]) ?_ 4 _ rfl; (with_reducible repeat (first | refine blk_drewN ?_ _ | refine blk_drew ?_ | refine blk_alloc ?_ _)); refine blk_put (cs := #[.int .i64 t325, .int .i64 t326, .int .i64 t327, .int .i64 0, .int .i64 0, .string (⟨#[]⟩ : ByteArray), .bool false, .string (⟨#[]⟩ : ByteArray), .bool false, .string (⟨#[]⟩ : ByteArray), .int .i64 0]) ?_ 3 _ rfl; (with_reducible repeat (first | refine blk_drewN ?_ _ | refine blk_drew ?_ | refine blk_alloc ?_ _)); refine blk_put (cs := #[.int .i64 t325, .int .i64 t326, .int .i64 0, .int .i64 0, .int .i64 0, .string (⟨#[]⟩ : ByteArray), .bool false, .string (⟨#[]⟩ : ByteArray), .bool false, .string (⟨#[]⟩ : ByteArray), .int .i64 0]) ?_ 2 _ rfl; (with_reducible repeat (first | refine blk_drewN ?_ _ | refine blk_drew ?_ | refine blk_alloc ?_ _)); refine blk_put (cs := #[.int .i64 t325, .int .i64 0, .int .i64 0, .int .i64 0, .int .i64 0, .string (⟨#[]⟩ : ByteArray), .bool false, .string (⟨#[]⟩ : ByteArray), .bool false, .string (⟨#[]⟩ : ByteArray), .int .i64 0]) ?_ 1 _ rfl; (with_reducible repeat (first | refine blk_drewN ?_ _ | refine blk_drew ?_ | refine blk_alloc ?_ _)); refine blk_put (cs := #[.int .i64 0, .int .i64 0, .int .i64 0, .int .i64 0, .int .i64 0, .string (⟨#[]⟩ : ByteArray), .bool false, .string (⟨#[]⟩ : ByteArray), .bool false, .string (⟨#[]⟩ : ByteArray), .int .i64 0]) ?_ 0 _ rfl; (with_reducible repeat (first | refine blk_drewN ?_ _ | refine blk_drew ?_ | refine blk_alloc ?_ _)); exact BK336.out) hb); have n3_ := Aside0.mk (below_step (by repeat (first | (with_reducible first | exact HB.out | apply below_alloc | apply pw_below_drewN | apply below_drew1 | refine below_set ?_ GE317.out | refine below_set ?_ GE322.out | refine below_set ?_ GE336.out) | exact HB.out)) hb); clear BK317; clear BK322; clear BK336; clear HB; have BK317 := n0_; have BK322 := n1_; have BK336 := n2_; have HB := n3_; clear n0_ n1_ n2_ n3_; (try clear hb); (try clear hb2); (try clear hk); (try clear hi); have hcz76_0 : w75.cell? ⟨gb317, 0, none⟩ = some (.int .i64 a0_0) := (blk_cell BK317.out 0).trans rfl; have hcz76_1 : w75.cell? ⟨gb317, 1, none⟩ = some (.int .i64 a0_1) := (blk_cell BK317.out 1).trans rfl; have hcz76_2 : w75.cell? ⟨gb317, 2, none⟩ = some (.int .i64 a0_2) := (blk_cell BK317.out 2).trans rfl; have hcz76_3 : w75.cell? ⟨gb317, 3, none⟩ = some (.int .i64 a0_3) := (blk_cell BK317.out 3).trans rfl; have hcz76_4 : w75.cell? ⟨gb317, 4, none⟩ = some (.int .i64 a0_4) := (blk_cell BK317.out 4).trans rfl; have hcz76_5 : w75.cell? ⟨gb317, 5, none⟩ = some (.string a0_5) := (blk_cell BK317.out 5).trans rfl; have hcz76_6 : w75.cell? ⟨gb317, 6, none⟩ = some (.bool a0_6) := (blk_cell BK317.out 6).trans rfl; have hcz76_7 : w75.cell? ⟨gb317, 7, none⟩ = some (.string a0_7) := (blk_cell BK317.out 7).trans rfl; have hcz76_8 : w75.cell? ⟨gb317, 8, none⟩ = some (.bool a0_8) := (blk_cell BK317.out 8).trans rfl; have hcz76_9 : w75.cell? ⟨gb317, 9, none⟩ = some (.string a0_9) := (blk_cell BK317.out 9).trans rfl; have hcz76_10 : w75.cell? ⟨gb317, 10, none⟩ = some (.int .i64 a0_10) := (blk_cell BK317.out 10).trans rfl; have hfz76_0 := blk_frozen BK317.out 0; have hfz76_1 := blk_frozen BK317.out 1; have hfz76_2 := blk_frozen BK317.out 2; have hfz76_3 := blk_frozen BK317.out 3; have hfz76_4 := blk_frozen BK317.out 4; have hfz76_5 := blk_frozen BK317.out 5; have hfz76_6 := blk_frozen BK317.out 6; have hfz76_7 := blk_frozen BK317.out 7; have hfz76_8 := blk_frozen BK317.out 8; have hfz76_9 := blk_frozen BK317.out 9; have hfz76_10 := blk_frozen BK317.out 10) | (go_at_call 9; (with_reducible refine (quadrigalaw04_awake.calls kj33  t340 _ A67.out).mono ?_); rintro e w77 ⟨rfl, hb⟩; have n0_ := Aside0.mk (blk_below (g := gb317) (o := .cells #[.int .i64 a0_0, .int .i64 a0_1, .int .i64 a0_2, .int .i64 a0_3, .int .i64 a0_4, .string a0_5, .bool a0_6, .string a0_7, .bool a0_8, .string a0_9, .int .i64 a0_10] 25 (0, 0)) (by (with_reducible repeat (first | refine blk_drewN ?_ _ | refine blk_drew ?_ | refine blk_alloc ?_ _)); exact BK317.out) hb); have n1_ := Aside0.mk (blk_below (g := gb322) (o := .cells #[.int .i64 a0_0, .int .i64 a3, .int .i64 a1, .int .i64 x323003_12, .int .i64 a0_4, .string a0_5, .bool a0_6, .string a0_7, .bool a0_8, .string a0_9, .int .i64 x323010_26] 25 (0, 0)) (by (with_reducible repeat (first | refine blk_drewN ?_ _ | refine blk_drew ?_ | refine blk_alloc ?_ _)); exact BK322.out) hb); have n2_ := Aside0.mk (blk_below (g := gb336) (o := .cells #[.int .i64 t325, .int .i64 t326, .int .i64 t327, .int .i64 t328, .int .i64 t329, .string t330, .bool t331, .string t332, .bool t333, .string t334, .int .i64 t335] 25 (0, 0)) (by (with_reducible repeat (first | refine blk_drewN ?_ _ | refine blk_drew ?_ | refine blk_alloc ?_ _)); exact BK336.out) hb); have n3_ := Aside0.mk (below_step (by repeat (first | (with_reducible first | exact HB.out | apply below_alloc | apply pw_below_drewN | apply below_drew1 | refine below_set ?_ GE317.out | refine below_set ?_ GE322.out | refine below_set ?_ GE336.out) | exact HB.out)) hb); clear BK317; clear BK322; clear BK336; clear HB; have BK317 := n0_; have BK322 := n1_; have BK336 := n2_; have HB := n3_; clear n0_ n1_ n2_ n3_; (try clear hb); (try clear hb2); (try clear hk); (try clear hi)))
                        go_ret
                        exact ⟨by first | rfl | (simp [errW_none, errW_some] <;> rfl) | (simp [*, errW_none, errW_some] <;> rfl), by repeat (first | (with_reducible first | exact HB.out | apply below_alloc | apply pw_below_drewN | apply below_drew1 | refine below_set ?_ GE317.out | refine below_set ?_ GE322.out | refine below_set ?_ GE336.out) | exact HB.out)⟩
                    · rw [if_neg c44] at H
                      have c44b0 : (t338 == 0) = false := beq_eq_false_iff_ne.mpr c44
                      have c44b1 : (t338 != 0) = true := bne_iff_ne.mpr c44
                      replace H := Option.bind_eq_some_iff.mp H
                      obtain ⟨t341, A780, H⟩ := H
                      replace H : (some t341) = some r := H
                      have A78 := Aside0.mk A780
                      clear A780
                      obtain rfl := Option.some.inj H
                      have hnb79 := NB317_322.out
                      have hnc79 := NB322_317.out
                      have hcz80_0 : wc.cell? ⟨gb317, 0, none⟩ = some (.int .i64 a0_0) := (blk_cell BK317.out 0).trans rfl
                      have hcz80_1 : wc.cell? ⟨gb317, 1, none⟩ = some (.int .i64 a0_1) := (blk_cell BK317.out 1).trans rfl
                      have hcz80_2 : wc.cell? ⟨gb317, 2, none⟩ = some (.int .i64 a0_2) := (blk_cell BK317.out 2).trans rfl
                      have hcz80_3 : wc.cell? ⟨gb317, 3, none⟩ = some (.int .i64 a0_3) := (blk_cell BK317.out 3).trans rfl
                      have hcz80_4 : wc.cell? ⟨gb317, 4, none⟩ = some (.int .i64 a0_4) := (blk_cell BK317.out 4).trans rfl
                      have hcz80_5 : wc.cell? ⟨gb317, 5, none⟩ = some (.string a0_5) := (blk_cell BK317.out 5).trans rfl
                      have hcz80_6 : wc.cell? ⟨gb317, 6, none⟩ = some (.bool a0_6) := (blk_cell BK317.out 6).trans rfl
                      have hcz80_7 : wc.cell? ⟨gb317, 7, none⟩ = some (.string a0_7) := (blk_cell BK317.out 7).trans rfl
                      have hcz80_8 : wc.cell? ⟨gb317, 8, none⟩ = some (.bool a0_8) := (blk_cell BK317.out 8).trans rfl
                      have hcz80_9 : wc.cell? ⟨gb317, 9, none⟩ = some (.string a0_9) := (blk_cell BK317.out 9).trans rfl
                      have hcz80_10 : wc.cell? ⟨gb317, 10, none⟩ = some (.int .i64 a0_10) := (blk_cell BK317.out 10).trans rfl
                      have hfz80_0 := blk_frozen BK317.out 0
                      have hfz80_1 := blk_frozen BK317.out 1
                      have hfz80_2 := blk_frozen BK317.out 2
                      have hfz80_3 := blk_frozen BK317.out 3
                      have hfz80_4 := blk_frozen BK317.out 4
                      have hfz80_5 := blk_frozen BK317.out 5
                      have hfz80_6 := blk_frozen BK317.out 6
                      have hfz80_7 := blk_frozen BK317.out 7
                      have hfz80_8 := blk_frozen BK317.out 8
                      have hfz80_9 := blk_frozen BK317.out 9
                      have hfz80_10 := blk_frozen BK317.out 10
                      go_wp2_with (first | ((with_reducible refine gate_callee (f := 19) rfl ?_); refine goesL_ (some 60) rfl rfl Tryd.func19 (by kernel_rfl) rfl #[.agg #[.int .i64 a0_0, .int .i64 a0_1, .int .i64 a0_2, .int .i64 a0_3, .int .i64 a0_4, .string a0_5, .bool a0_6, .string a0_7, .bool a0_8, .string a0_9, .int .i64 a0_10], .int .i64 a3, .int .i64 a2] rfl (by (try simp only [List.map_toArray, List.map_cons, List.map_nil]); first | done | rfl | (simp only [List.length_drop, List.length_take]; rfl)) ?_; (with_reducible refine (record_Back.calls kj33 a0_0 a0_1 a0_2 a0_3 a0_4 a0_5 a0_6 a0_7 a0_8 a0_9 a0_10 a3 a2 t325 t326 t327 t328 t329 t330 t331 t332 t333 t334 t335 _ A41.out).mono ?_); rintro e w81 ⟨rfl, hb⟩; refine ⟨_, rfl, ?_⟩; have n0_ := Aside0.mk (blk_below (g := gb317) (o := .cells #[.int .i64 a0_0, .int .i64 a0_1, .int .i64 a0_2, .int .i64 a0_3, .int .i64 a0_4, .string a0_5, .bool a0_6, .string a0_7, .bool a0_8, .string a0_9, .int .i64 a0_10] 25 (0, 0)) (by (with_reducible repeat (first | refine blk_drewN ?_ _ | refine blk_drew ?_ | refine blk_alloc ?_ _)); exact BK317.out) hb); have n1_ := Aside0.mk (blk_below (g := gb322) (o := .cells #[.int .i64 a0_0, .int .i64 a3, .int .i64 a1, .int .i64 x323003_12, .int .i64 a0_4, .string a0_5, .bool a0_6, .string a0_7, .bool a0_8, .string a0_9, .int .i64 x323010_26] 25 (0, 0)) (by (with_reducible repeat (first | refine blk_drewN ?_ _ | refine blk_drew ?_ | refine blk_alloc ?_ _)); exact BK322.out) hb); have n2_ := Aside0.mk (below_step (by repeat (first | (with_reducible first | exact HB.out | apply below_alloc | apply pw_below_drewN | apply below_drew1 | refine below_set ?_ GE317.out | refine below_set ?_ GE322.out) | exact HB.out)) hb); clear BK317; clear BK322; clear HB; have BK317 := n0_; have BK322 := n1_; have HB := n2_; clear n0_ n1_ n2_; (try clear hb); (try clear hb2); (try clear hk); (try clear hi)) | ((with_reducible refine gate_dst (N := 14) rfl ?_); (try (refine gate_guard (by rfl) ?_; dsimp only)); refine box_event ?hg (N := 14) ?hd (cs := #[.int .i64 0, .int .i64 0, .int .i64 0, .int .i64 0, .int .i64 0, .string (⟨#[]⟩ : ByteArray), .bool false, .string (⟨#[]⟩ : ByteArray), .bool false, .string (⟨#[]⟩ : ByteArray), .int .i64 0]) (t := 25) ?hr ?_; (case hd => rfl); (case hg => rfl); (case hr => first | (go_simp; done) | (go_simp; rfl)); intro gb336 hg w82 hbox hb; have n0_ := Aside0.mk (blk_below (g := gb317) (o := .cells #[.int .i64 a0_0, .int .i64 a0_1, .int .i64 a0_2, .int .i64 a0_3, .int .i64 a0_4, .string a0_5, .bool a0_6, .string a0_7, .bool a0_8, .string a0_9, .int .i64 a0_10] 25 (0, 0)) (by (with_reducible repeat (first | refine blk_drewN ?_ _ | refine blk_drew ?_ | refine blk_alloc ?_ _)); exact BK317.out) hb); have n1_ := Aside0.mk (blk_below (g := gb322) (o := .cells #[.int .i64 a0_0, .int .i64 a3, .int .i64 a1, .int .i64 x323003_12, .int .i64 a0_4, .string a0_5, .bool a0_6, .string a0_7, .bool a0_8, .string a0_9, .int .i64 x323010_26] 25 (0, 0)) (by (with_reducible repeat (first | refine blk_drewN ?_ _ | refine blk_drew ?_ | refine blk_alloc ?_ _)); exact BK322.out) hb); have n2_ := Aside0.mk (below_step (by repeat (first | (with_reducible first | exact HB.out | apply below_alloc | apply pw_below_drewN | apply below_drew1 | refine below_set ?_ GE317.out | refine below_set ?_ GE322.out) | exact HB.out)) hb); have n3_ := Aside0.mk (hbox); have n4_ := Aside0.mk ((by rw [hg]; exact (below_size (by repeat (first | (with_reducible first | exact HB.out | apply below_alloc | apply pw_below_drewN | apply below_drew1 | refine below_set ?_ GE317.out | refine below_set ?_ GE322.out) | exact HB.out))) : w.heap.size ≤ gb336)); have n5_ := Aside0.mk ((by rw [hg]; exact (below_size (by repeat (first | (with_reducible first | exact HB.out | apply below_alloc | apply pw_below_drewN | apply below_drew1 | refine below_set ?_ GE317.out | refine below_set ?_ GE322.out) | exact HB.out))) : w.heap.size ≤ gb336)); have n6_ := Aside0.mk ((by rw [hg]; exact Nat.ne_of_lt (blk_lt (g := gb317) (o := .cells #[.int .i64 a0_0, .int .i64 a0_1, .int .i64 a0_2, .int .i64 a0_3, .int .i64 a0_4, .string a0_5, .bool a0_6, .string a0_7, .bool a0_8, .string a0_9, .int .i64 a0_10] 25 (0, 0)) (by (with_reducible repeat (first | refine blk_drewN ?_ _ | refine blk_drew ?_ | refine blk_alloc ?_ _)); exact BK317.out)) : gb317 ≠ gb336)); have n7_ := Aside0.mk ((by rw [hg]; exact Nat.ne_of_gt (blk_lt (g := gb317) (o := .cells #[.int .i64 a0_0, .int .i64 a0_1, .int .i64 a0_2, .int .i64 a0_3, .int .i64 a0_4, .string a0_5, .bool a0_6, .string a0_7, .bool a0_8, .string a0_9, .int .i64 a0_10] 25 (0, 0)) (by (with_reducible repeat (first | refine blk_drewN ?_ _ | refine blk_drew ?_ | refine blk_alloc ?_ _)); exact BK317.out)) : gb336 ≠ gb317)); have n8_ := Aside0.mk ((by rw [hg]; exact Nat.ne_of_lt (blk_lt (g := gb322) (o := .cells #[.int .i64 a0_0, .int .i64 a3, .int .i64 a1, .int .i64 x323003_12, .int .i64 a0_4, .string a0_5, .bool a0_6, .string a0_7, .bool a0_8, .string a0_9, .int .i64 x323010_26] 25 (0, 0)) (by (with_reducible repeat (first | refine blk_drewN ?_ _ | refine blk_drew ?_ | refine blk_alloc ?_ _)); exact BK322.out)) : gb322 ≠ gb336)); have n9_ := Aside0.mk ((by rw [hg]; exact Nat.ne_of_gt (blk_lt (g := gb322) (o := .cells #[.int .i64 a0_0, .int .i64 a3, .int .i64 a1, .int .i64 x323003_12, .int .i64 a0_4, .string a0_5, .bool a0_6, .string a0_7, .bool a0_8, .string a0_9, .int .i64 x323010_26] 25 (0, 0)) (by (with_reducible repeat (first | refine blk_drewN ?_ _ | refine blk_drew ?_ | refine blk_alloc ?_ _)); exact BK322.out)) : gb336 ≠ gb322)); clear BK317; clear BK322; clear HB; have BK317 := n0_; have BK322 := n1_; have HB := n2_; have BK336 := n3_; have GW336 := n4_; have GE336 := n5_; have NB317_336 := n6_; have NB336_317 := n7_; have NB322_336 := n8_; have NB336_322 := n9_; clear n0_ n1_ n2_ n3_ n4_ n5_ n6_ n7_ n8_ n9_; clear hb hbox hg; have hnb83 := NB336_317.out; have hnc83 := NB317_336.out; have hnb84 := NB336_322.out; have hnc84 := NB322_336.out; have hcz85_0 : w82.cell? ⟨gb336, 0, none⟩ = some (.int .i64 0) := (blk_cell BK336.out 0).trans rfl; have hcz85_1 : w82.cell? ⟨gb336, 1, none⟩ = some (.int .i64 0) := (blk_cell BK336.out 1).trans rfl; have hcz85_2 : w82.cell? ⟨gb336, 2, none⟩ = some (.int .i64 0) := (blk_cell BK336.out 2).trans rfl; have hcz85_3 : w82.cell? ⟨gb336, 3, none⟩ = some (.int .i64 0) := (blk_cell BK336.out 3).trans rfl; have hcz85_4 : w82.cell? ⟨gb336, 4, none⟩ = some (.int .i64 0) := (blk_cell BK336.out 4).trans rfl; have hcz85_5 : w82.cell? ⟨gb336, 5, none⟩ = some (.string (⟨#[]⟩ : ByteArray)) := (blk_cell BK336.out 5).trans rfl; have hcz85_6 : w82.cell? ⟨gb336, 6, none⟩ = some (.bool false) := (blk_cell BK336.out 6).trans rfl; have hcz85_7 : w82.cell? ⟨gb336, 7, none⟩ = some (.string (⟨#[]⟩ : ByteArray)) := (blk_cell BK336.out 7).trans rfl; have hcz85_8 : w82.cell? ⟨gb336, 8, none⟩ = some (.bool false) := (blk_cell BK336.out 8).trans rfl; have hcz85_9 : w82.cell? ⟨gb336, 9, none⟩ = some (.string (⟨#[]⟩ : ByteArray)) := (blk_cell BK336.out 9).trans rfl; have hcz85_10 : w82.cell? ⟨gb336, 10, none⟩ = some (.int .i64 0) := (blk_cell BK336.out 10).trans rfl; have hfz85_0 := blk_frozen BK336.out 0; have hfz85_1 := blk_frozen BK336.out 1; have hfz85_2 := blk_frozen BK336.out 2; have hfz85_3 := blk_frozen BK336.out 3; have hfz85_4 := blk_frozen BK336.out 4; have hfz85_5 := blk_frozen BK336.out 5; have hfz85_6 := blk_frozen BK336.out 6; have hfz85_7 := blk_frozen BK336.out 7; have hfz85_8 := blk_frozen BK336.out 8; have hfz85_9 := blk_frozen BK336.out 9; have hfz85_10 := blk_frozen BK336.out 10) | ((with_reducible refine gate_callee (f := 20) rfl ?_); refine goesL_ (some 63) rfl rfl Tryd.func20 (by kernel_rfl) rfl #[.agg #[.int .i64 t325, .int .i64 t326, .int .i64 t327, .int .i64 t328, .int .i64 t329, .string t330, .bool t331, .string t332, .bool t333, .string t334, .int .i64 t335]] rfl (by (try simp only [List.map_toArray, List.map_cons, List.map_nil]); first | done | rfl | (simp only [List.length_drop, List.length_take]; rfl)) ?_; (with_reducible refine (record_Encode.calls kj33 t325 t326 t327 t328 t329 t330 t331 t332 t333 t334 t335 t337 t338 _ A42.out).mono ?_); rintro e w86 ⟨rfl, hb⟩; refine ⟨_, rfl, ?_⟩; have n0_ := Aside0.mk (blk_below (g := gb317) (o := .cells #[.int .i64 a0_0, .int .i64 a0_1, .int .i64 a0_2, .int .i64 a0_3, .int .i64 a0_4, .string a0_5, .bool a0_6, .string a0_7, .bool a0_8, .string a0_9, .int .i64 a0_10] 25 (0, 0)) (by (with_reducible repeat (first | refine blk_drewN ?_ _ | refine blk_drew ?_ | refine blk_alloc ?_ _)); refine blk_far ?_ NB317_336.out _; (with_reducible repeat (first | refine blk_drewN ?_ _ | refine blk_drew ?_ | refine blk_alloc ?_ _)); refine blk_far ?_ NB317_336.out _; (with_reducible repeat (first | refine blk_drewN ?_ _ | refine blk_drew ?_ | refine blk_alloc ?_ _)); refine blk_far ?_ NB317_336.out _; (with_reducible repeat (first | refine blk_drewN ?_ _ | refine blk_drew ?_ | refine blk_alloc ?_ _)); refine blk_far ?_ NB317_336.out _; (with_reducible repeat (first | refine blk_drewN ?_ _ | refine blk_drew ?_ | refine blk_alloc ?_ _)); refine blk_far ?_ NB317_336.out _; (with_reducible repeat (first | refine blk_drewN ?_ _ | refine blk_drew ?_ | refine blk_alloc ?_ _)); refine blk_far ?_ NB317_336.out _; (with_reducible repeat (first | refine blk_drewN ?_ _ | refine blk_drew ?_ | refine blk_alloc ?_ _)); refine blk_far ?_ NB317_336.out _; (with_reducible repeat (first | refine blk_drewN ?_ _ | refine blk_drew ?_ | refine blk_alloc ?_ _)); refine blk_far ?_ NB317_336.out _; (with_reducible repeat (first | refine blk_drewN ?_ _ | refine blk_drew ?_ | refine blk_alloc ?_ _)); refine blk_far ?_ NB317_336.out _; (with_reducible repeat (first | refine blk_drewN ?_ _ | refine blk_drew ?_ | refine blk_alloc ?_ _)); refine blk_far ?_ NB317_336.out _; (with_reducible repeat (first | refine blk_drewN ?_ _ | refine blk_drew ?_ | refine blk_alloc ?_ _)); refine blk_far ?_ NB317_336.out _; (with_reducible repeat (first | refine blk_drewN ?_ _ | refine blk_drew ?_ | refine blk_alloc ?_ _)); exact BK317.out) hb); have n1_ := Aside0.mk (blk_below (g := gb322) (o := .cells #[.int .i64 a0_0, .int .i64 a3, .int .i64 a1, .int .i64 x323003_12, .int .i64 a0_4, .string a0_5, .bool a0_6, .string a0_7, .bool a0_8, .string a0_9, .int .i64 x323010_26] 25 (0, 0)) (by (with_reducible repeat (first | refine blk_drewN ?_ _ | refine blk_drew ?_ | refine blk_alloc ?_ _)); refine blk_far ?_ NB322_336.out _; (with_reducible repeat (first | refine blk_drewN ?_ _ | refine blk_drew ?_ | refine blk_alloc ?_ _)); refine blk_far ?_ NB322_336.out _; (with_reducible repeat (first | refine blk_drewN ?_ _ | refine blk_drew ?_ | refine blk_alloc ?_ _)); refine blk_far ?_ NB322_336.out _; (with_reducible repeat (first | refine blk_drewN ?_ _ | refine blk_drew ?_ | refine blk_alloc ?_ _)); refine blk_far ?_ NB322_336.out _; (with_reducible repeat (first | refine blk_drewN ?_ _ | refine blk_drew ?_ | refine blk_alloc ?_ _)); refine blk_far ?_ NB322_336.out _; (with_reducible repeat (first | refine blk_drewN ?_ _ | refine blk_drew ?_ | refine blk_alloc ?_ _)); refine blk_far ?_ NB322_336.out _; (with_reducible repeat (first | refine blk_drewN ?_ _ | refine blk_drew ?_ | refine blk_alloc ?_ _)); refine blk_far ?_ NB322_336.out _; (with_reducible repeat (first | refine blk_drewN ?_ _ | refine blk_drew ?_ | refine blk_alloc ?_ _)); refine blk_far ?_ NB322_336.out _; (with_reducible repeat (first | refine blk_drewN ?_ _ | refine blk_drew ?_ | refine blk_alloc ?_ _)); refine blk_far ?_ NB322_336.out _; (with_reducible repeat (first | refine blk_drewN ?_ _ | refine blk_drew ?_ | refine blk_alloc ?_ _)); refine blk_far ?_ NB322_336.out _; (with_reducible repeat (first | refine blk_drewN ?_ _ | refine blk_drew ?_ | refine blk_alloc ?_ _)); refine blk_far ?_ NB322_336.out _; (with_reducible repeat (first | refine blk_drewN ?_ _ | refine blk_drew ?_ | refine blk_alloc ?_ _)); exact BK322.out) hb); have n2_ := Aside0.mk (blk_below (g := gb336) (o := .cells #[.int .i64 t325, .int .i64 t326, .int .i64 t327, .int .i64 t328, .int .i64 t329, .string t330, .bool t331, .string t332, .bool t333, .string t334, .int .i64 t335] 25 (0, 0)) (by (with_reducible repeat (first | refine blk_drewN ?_ _ | refine blk_drew ?_ | refine blk_alloc ?_ _)); refine blk_put (cs := #[.int .i64 t325, .int .i64 t326, .int .i64 t327, .int .i64 t328, .int .i64 t329, .string t330, .bool t331, .string t332, .bool t333, .string t334, .int .i64 0]) ?_ 10 _ rfl; (with_reducible repeat (first | refine blk_drewN ?_ _ | refine blk_drew ?_ | refine blk_alloc ?_ _)); refine blk_put (cs := #[.int .i64 t325, .int .i64 t326, .int .i64 t327, .int .i64 t328, .int .i64 t329, .string t330, .bool t331, .string t332, .bool t333, .string (⟨#[]⟩ : ByteArray), .int .i64 0]) ?_ 9 _ rfl; (with_reducible repeat (first | refine blk_drewN ?_ _ | refine blk_drew ?_ | refine blk_alloc ?_ _)); refine blk_put (cs := #[.int .i64 t325, .int .i64 t326, .int .i64 t327, .int .i64 t328, .int .i64 t329, .string t330, .bool t331, .string t332, .bool false, .string (⟨#[]⟩ : ByteArray), .int .i64 0]) ?_ 8 _ rfl; (with_reducible repeat (first | refine blk_drewN ?_ _ | refine blk_drew ?_ | refine blk_alloc ?_ _)); refine blk_put (cs := #[.int .i64 t325, .int .i64 t326, .int .i64 t327, .int .i64 t328, .int .i64 t329, .string t330, .bool t331, .string (⟨#[]⟩ : ByteArray), .bool false, .string (⟨#[]⟩ : ByteArray), .int .i64 0]) ?_ 7 _ rfl; (with_reducible repeat (first | refine blk_drewN ?_ _ | refine blk_drew ?_ | refine blk_alloc ?_ _)); refine blk_put (cs := #[.int .i64 t325, .int .i64 t326, .int .i64 t327, .int .i64 t328, .int .i64 t329, .string t330, .bool false, .string (⟨#[]⟩ : ByteArray), .bool false, .string (⟨#[]⟩ : ByteArray), .int .i64 0]) ?_ 6 _ rfl; (with_reducible repeat (first | refine blk_drewN ?_ _ | refine blk_drew ?_ | refine blk_alloc ?_ _)); refine blk_put (cs := #[.int .i64 t325, .int .i64 t326, .int .i64 t327, .int .i64 t328, .int .i64 t329, .string (⟨#[]⟩ : ByteArray), .bool false, .string (⟨#[]⟩ : ByteArray), .bool false, .string (⟨#[]⟩ : ByteArray), .int .i64 0]) ?_ 5 _ rfl; (with_reducible repeat (first | refine blk_drewN ?_ _ | refine blk_drew ?_ | refine blk_alloc ?_ _)); refine blk_put (cs := #[.int .i64 t325, .int .i64 t326, .int .i64 t327, .int .i64 t328, .int .i64 0, .string (⟨#[]⟩ : ByteArray), .bool false, .string (⟨#[]⟩ : ByteArray), .bool false, .string (⟨#[]⟩ : ByteArray), .int .i64 0]) ?_ 4 _ rfl; (with_reducible repeat (first | refine blk_drewN ?_ _ | refine blk_drew ?_ | refine blk_alloc ?_ _)); refine blk_put (cs := #[.int .i64 t325, .int .i64 t326, .int .i64 t327, .int .i64 0, .int .i64 0, .string (⟨#[]⟩ : ByteArray), .bool false, .string (⟨#[]⟩ : ByteArray), .bool false, .string (⟨#[]⟩ : ByteArray), .int .i64 0]) ?_ 3 _ rfl; (with_reducible repeat (first | refine blk_drewN ?_ _ | refine blk_drew ?_ | refine blk_alloc ?_ _)); refine blk_put (cs := #[.int .i64 t325, .int .i64 t326, .int .i64 0, .int .i64 0, .int .i64 0, .string (⟨#[]⟩ : ByteArray), .bool false, .string (⟨#[]⟩ : ByteArray), .bool false, .string (⟨#[]⟩ : ByteArray), .int .i64 0]) ?_ 2 _ rfl; (with_reducible repeat (first | refine blk_drewN ?_ _ | refine blk_drew ?_ | refine blk_alloc ?_ _)); refine blk_put (cs := #[.int .i64 t325, .int .i64 0, .int .i64 0, .int .i64 0, .int .i64 0, .string (⟨#[]⟩ : ByteArray), .bool false, .string (⟨#[]⟩ : ByteArray), .bool false, .string (⟨#[]⟩ : ByteArray), .int .i64 0]) ?_ 1 _ rfl; (with_reducible repeat (first | refine blk_drewN ?_ _ | refine blk_drew ?_ | refine blk_alloc ?_ _)); refine blk_put (cs := #[.int .i64 0, .int .i64 0, .int .i64 0, .int .i64 0, .int .i64 0, .string (⟨#[]⟩ : ByteArray), .bool false, .string (⟨#[]⟩ : ByteArray), .bool false, .string (⟨#[]⟩ : ByteArray), .int .i64 0]) ?_ 0 _ rfl; (with_reducible repeat (first | refine blk_drewN ?_ _ | refine blk_drew ?_ | refine blk_alloc ?_ _)); exact BK336.out) hb); have n3_ := Aside0.mk (below_step (by repeat (first | (with_reducible first | exact HB.out | apply below_alloc | apply pw_below_drewN | apply below_drew1 | refine below_set ?_ GE317.out | refine below_set ?_ GE322.out | refine below_set ?_ GE336.out) | exact HB.out)) hb); clear BK317; clear BK322; clear BK336; clear HB; have BK317 := n0_; have BK322 := n1_; have BK336 := n2_; have HB := n3_; clear n0_ n1_ n2_ n3_; (try clear hb); (try clear hb2); (try clear hk); (try clear hi)) | (go_at_call 9; (with_reducible refine (quadrigalaw04_awake.calls kj33  t341 _ A78.out).mono ?_); rintro e w87 ⟨rfl, hb⟩; have n0_ := Aside0.mk (blk_below (g := gb317) (o := .cells #[.int .i64 a0_0, .int .i64 a0_1, .int .i64 a0_2, .int .i64 a0_3, .int .i64 a0_4, .string a0_5, .bool a0_6, .string a0_7, .bool a0_8, .string a0_9, .int .i64 a0_10] 25 (0, 0)) (by (with_reducible repeat (first | refine blk_drewN ?_ _ | refine blk_drew ?_ | refine blk_alloc ?_ _)); exact BK317.out) hb); have n1_ := Aside0.mk (blk_below (g := gb322) (o := .cells #[.int .i64 a0_0, .int .i64 a3, .int .i64 a1, .int .i64 x323003_12, .int .i64 a0_4, .string a0_5, .bool a0_6, .string a0_7, .bool a0_8, .string a0_9, .int .i64 x323010_26] 25 (0, 0)) (by (with_reducible repeat (first | refine blk_drewN ?_ _ | refine blk_drew ?_ | refine blk_alloc ?_ _)); exact BK322.out) hb); have n2_ := Aside0.mk (blk_below (g := gb336) (o := .cells #[.int .i64 t325, .int .i64 t326, .int .i64 t327, .int .i64 t328, .int .i64 t329, .string t330, .bool t331, .string t332, .bool t333, .string t334, .int .i64 t335] 25 (0, 0)) (by (with_reducible repeat (first | refine blk_drewN ?_ _ | refine blk_drew ?_ | refine blk_alloc ?_ _)); exact BK336.out) hb); have n3_ := Aside0.mk (below_step (by repeat (first | (with_reducible first | exact HB.out | apply below_alloc | apply pw_below_drewN | apply below_drew1 | refine below_set ?_ GE317.out | refine below_set ?_ GE322.out | refine below_set ?_ GE336.out) | exact HB.out)) hb); clear BK317; clear BK322; clear BK336; clear HB; have BK317 := n0_; have BK322 := n1_; have BK336 := n2_; have HB := n3_; clear n0_ n1_ n2_ n3_; (try clear hb); (try clear hb2); (try clear hk); (try clear hi)))
                      go_ret
                      exact ⟨by first | rfl | (simp [errW_none, errW_some] <;> rfl) | (simp [*, errW_none, errW_some] <;> rfl), by repeat (first | (with_reducible first | exact HB.out | apply below_alloc | apply pw_below_drewN | apply below_drew1 | refine below_set ?_ GE317.out | refine below_set ?_ GE322.out | refine below_set ?_ GE336.out) | exact HB.out)⟩
                  · rw [if_neg c43] at H
                    have c43b0 : (t321 == 0) = false := beq_eq_false_iff_ne.mpr c43
                    have c43b1 : (t321 != 0) = true := bne_iff_ne.mpr c43
                    replace H := Option.bind_eq_some_iff.mp H
                    obtain ⟨t342, A880, H⟩ := H
                    replace H : (some t342) = some r := H
                    have A88 := Aside0.mk A880
                    clear A880
                    obtain rfl := Option.some.inj H
                    have hnb89 := NB317_322.out
                    have hnc89 := NB322_317.out
                    have hcz90_0 : wc.cell? ⟨gb317, 0, none⟩ = some (.int .i64 a0_0) := (blk_cell BK317.out 0).trans rfl
                    have hcz90_1 : wc.cell? ⟨gb317, 1, none⟩ = some (.int .i64 a0_1) := (blk_cell BK317.out 1).trans rfl
                    have hcz90_2 : wc.cell? ⟨gb317, 2, none⟩ = some (.int .i64 a0_2) := (blk_cell BK317.out 2).trans rfl
                    have hcz90_3 : wc.cell? ⟨gb317, 3, none⟩ = some (.int .i64 a0_3) := (blk_cell BK317.out 3).trans rfl
                    have hcz90_4 : wc.cell? ⟨gb317, 4, none⟩ = some (.int .i64 a0_4) := (blk_cell BK317.out 4).trans rfl
                    have hcz90_5 : wc.cell? ⟨gb317, 5, none⟩ = some (.string a0_5) := (blk_cell BK317.out 5).trans rfl
                    have hcz90_6 : wc.cell? ⟨gb317, 6, none⟩ = some (.bool a0_6) := (blk_cell BK317.out 6).trans rfl
                    have hcz90_7 : wc.cell? ⟨gb317, 7, none⟩ = some (.string a0_7) := (blk_cell BK317.out 7).trans rfl
                    have hcz90_8 : wc.cell? ⟨gb317, 8, none⟩ = some (.bool a0_8) := (blk_cell BK317.out 8).trans rfl
                    have hcz90_9 : wc.cell? ⟨gb317, 9, none⟩ = some (.string a0_9) := (blk_cell BK317.out 9).trans rfl
                    have hcz90_10 : wc.cell? ⟨gb317, 10, none⟩ = some (.int .i64 a0_10) := (blk_cell BK317.out 10).trans rfl
                    have hfz90_0 := blk_frozen BK317.out 0
                    have hfz90_1 := blk_frozen BK317.out 1
                    have hfz90_2 := blk_frozen BK317.out 2
                    have hfz90_3 := blk_frozen BK317.out 3
                    have hfz90_4 := blk_frozen BK317.out 4
                    have hfz90_5 := blk_frozen BK317.out 5
                    have hfz90_6 := blk_frozen BK317.out 6
                    have hfz90_7 := blk_frozen BK317.out 7
                    have hfz90_8 := blk_frozen BK317.out 8
                    have hfz90_9 := blk_frozen BK317.out 9
                    have hfz90_10 := blk_frozen BK317.out 10
                    go_wp2_with (first | ((with_reducible refine gate_callee (f := 19) rfl ?_); refine goesL_ (some 60) rfl rfl Tryd.func19 (by kernel_rfl) rfl #[.agg #[.int .i64 a0_0, .int .i64 a0_1, .int .i64 a0_2, .int .i64 a0_3, .int .i64 a0_4, .string a0_5, .bool a0_6, .string a0_7, .bool a0_8, .string a0_9, .int .i64 a0_10], .int .i64 a3, .int .i64 a2] rfl (by (try simp only [List.map_toArray, List.map_cons, List.map_nil]); first | done | rfl | (simp only [List.length_drop, List.length_take]; rfl)) ?_; (with_reducible refine (record_Back.calls kj33 a0_0 a0_1 a0_2 a0_3 a0_4 a0_5 a0_6 a0_7 a0_8 a0_9 a0_10 a3 a2 t325 t326 t327 t328 t329 t330 t331 t332 t333 t334 t335 _ A41.out).mono ?_); rintro e w91 ⟨rfl, hb⟩; refine ⟨_, rfl, ?_⟩; have n0_ := Aside0.mk (blk_below (g := gb317) (o := .cells #[.int .i64 a0_0, .int .i64 a0_1, .int .i64 a0_2, .int .i64 a0_3, .int .i64 a0_4, .string a0_5, .bool a0_6, .string a0_7, .bool a0_8, .string a0_9, .int .i64 a0_10] 25 (0, 0)) (by (with_reducible repeat (first | refine blk_drewN ?_ _ | refine blk_drew ?_ | refine blk_alloc ?_ _)); exact BK317.out) hb); have n1_ := Aside0.mk (blk_below (g := gb322) (o := .cells #[.int .i64 a0_0, .int .i64 a3, .int .i64 a1, .int .i64 x323003_12, .int .i64 a0_4, .string a0_5, .bool a0_6, .string a0_7, .bool a0_8, .string a0_9, .int .i64 x323010_26] 25 (0, 0)) (by (with_reducible repeat (first | refine blk_drewN ?_ _ | refine blk_drew ?_ | refine blk_alloc ?_ _)); exact BK322.out) hb); have n2_ := Aside0.mk (below_step (by repeat (first | (with_reducible first | exact HB.out | apply below_alloc | apply pw_below_drewN | apply below_drew1 | refine below_set ?_ GE317.out | refine below_set ?_ GE322.out) | exact HB.out)) hb); clear BK317; clear BK322; clear HB; have BK317 := n0_; have BK322 := n1_; have HB := n2_; clear n0_ n1_ n2_; (try clear hb); (try clear hb2); (try clear hk); (try clear hi)) | ((with_reducible refine gate_dst (N := 14) rfl ?_); (try (refine gate_guard (by rfl) ?_; dsimp only)); refine box_event ?hg (N := 14) ?hd (cs := #[.int .i64 0, .int .i64 0, .int .i64 0, .int .i64 0, .int .i64 0, .string (⟨#[]⟩ : ByteArray), .bool false, .string (⟨#[]⟩ : ByteArray), .bool false, .string (⟨#[]⟩ : ByteArray), .int .i64 0]) (t := 25) ?hr ?_; (case hd => rfl); (case hg => rfl); (case hr => first | (go_simp; done) | (go_simp; rfl)); intro gb336 hg w92 hbox hb; have n0_ := Aside0.mk (blk_below (g := gb317) (o := .cells #[.int .i64 a0_0, .int .i64 a0_1, .int .i64 a0_2, .int .i64 a0_3, .int .i64 a0_4, .string a0_5, .bool a0_6, .string a0_7, .bool a0_8, .string a0_9, .int .i64 a0_10] 25 (0, 0)) (by (with_reducible repeat (first | refine blk_drewN ?_ _ | refine blk_drew ?_ | refine blk_alloc ?_ _)); exact BK317.out) hb); have n1_ := Aside0.mk (blk_below (g := gb322) (o := .cells #[.int .i64 a0_0, .int .i64 a3, .int .i64 a1, .int .i64 x323003_12, .int .i64 a0_4, .string a0_5, .bool a0_6, .string a0_7, .bool a0_8, .string a0_9, .int .i64 x323010_26] 25 (0, 0)) (by (with_reducible repeat (first | refine blk_drewN ?_ _ | refine blk_drew ?_ | refine blk_alloc ?_ _)); exact BK322.out) hb); have n2_ := Aside0.mk (below_step (by repeat (first | (with_reducible first | exact HB.out | apply below_alloc | apply pw_below_drewN | apply below_drew1 | refine below_set ?_ GE317.out | refine below_set ?_ GE322.out) | exact HB.out)) hb); have n3_ := Aside0.mk (hbox); have n4_ := Aside0.mk ((by rw [hg]; exact (below_size (by repeat (first | (with_reducible first | exact HB.out | apply below_alloc | apply pw_below_drewN | apply below_drew1 | refine below_set ?_ GE317.out | refine below_set ?_ GE322.out) | exact HB.out))) : w.heap.size ≤ gb336)); have n5_ := Aside0.mk ((by rw [hg]; exact (below_size (by repeat (first | (with_reducible first | exact HB.out | apply below_alloc | apply pw_below_drewN | apply below_drew1 | refine below_set ?_ GE317.out | refine below_set ?_ GE322.out) | exact HB.out))) : w.heap.size ≤ gb336)); have n6_ := Aside0.mk ((by rw [hg]; exact Nat.ne_of_lt (blk_lt (g := gb317) (o := .cells #[.int .i64 a0_0, .int .i64 a0_1, .int .i64 a0_2, .int .i64 a0_3, .int .i64 a0_4, .string a0_5, .bool a0_6, .string a0_7, .bool a0_8, .string a0_9, .int .i64 a0_10] 25 (0, 0)) (by (with_reducible repeat (first | refine blk_drewN ?_ _ | refine blk_drew ?_ | refine blk_alloc ?_ _)); exact BK317.out)) : gb317 ≠ gb336)); have n7_ := Aside0.mk ((by rw [hg]; exact Nat.ne_of_gt (blk_lt (g := gb317) (o := .cells #[.int .i64 a0_0, .int .i64 a0_1, .int .i64 a0_2, .int .i64 a0_3, .int .i64 a0_4, .string a0_5, .bool a0_6, .string a0_7, .bool a0_8, .string a0_9, .int .i64 a0_10] 25 (0, 0)) (by (with_reducible repeat (first | refine blk_drewN ?_ _ | refine blk_drew ?_ | refine blk_alloc ?_ _)); exact BK317.out)) : gb336 ≠ gb317)); have n8_ := Aside0.mk ((by rw [hg]; exact Nat.ne_of_lt (blk_lt (g := gb322) (o := .cells #[.int .i64 a0_0, .int .i64 a3, .int .i64 a1, .int .i64 x323003_12, .int .i64 a0_4, .string a0_5, .bool a0_6, .string a0_7, .bool a0_8, .string a0_9, .int .i64 x323010_26] 25 (0, 0)) (by (with_reducible repeat (first | refine blk_drewN ?_ _ | refine blk_drew ?_ | refine blk_alloc ?_ _)); exact BK322.out)) : gb322 ≠ gb336)); have n9_ := Aside0.mk ((by rw [hg]; exact Nat.ne_of_gt (blk_lt (g := gb322) (o := .cells #[.int .i64 a0_0, .int .i64 a3, .int .i64 a1, .int .i64 x323003_12, .int .i64 a0_4, .string a0_5, .bool a0_6, .string a0_7, .bool a0_8, .string a0_9, .int .i64 x323010_26] 25 (0, 0)) (by (with_reducible repeat (first | refine blk_drewN ?_ _ | refine blk_drew ?_ | refine blk_alloc ?_ _)); exact BK322.out)) : gb336 ≠ gb322)); clear BK317; clear BK322; clear HB; have BK317 := n0_; have BK322 := n1_; have HB := n2_; have BK336 := n3_; have GW336 := n4_; have GE336 := n5_; have NB317_336 := n6_; have NB336_317 := n7_; have NB322_336 := n8_; have NB336_322 := n9_; clear n0_ n1_ n2_ n3_ n4_ n5_ n6_ n7_ n8_ n9_; clear hb hbox hg; have hnb93 := NB336_317.out; have hnc93 := NB317_336.out; have hnb94 := NB336_322.out; have hnc94 := NB322_336.out; have hcz95_0 : w92.cell? ⟨gb336, 0, none⟩ = some (.int .i64 0) := (blk_cell BK336.out 0).trans rfl; have hcz95_1 : w92.cell? ⟨gb336, 1, none⟩ = some (.int .i64 0) := (blk_cell BK336.out 1).trans rfl; have hcz95_2 : w92.cell? ⟨gb336, 2, none⟩ = some (.int .i64 0) := (blk_cell BK336.out 2).trans rfl; have hcz95_3 : w92.cell? ⟨gb336, 3, none⟩ = some (.int .i64 0) := (blk_cell BK336.out 3).trans rfl; have hcz95_4 : w92.cell? ⟨gb336, 4, none⟩ = some (.int .i64 0) := (blk_cell BK336.out 4).trans rfl; have hcz95_5 : w92.cell? ⟨gb336, 5, none⟩ = some (.string (⟨#[]⟩ : ByteArray)) := (blk_cell BK336.out 5).trans rfl; have hcz95_6 : w92.cell? ⟨gb336, 6, none⟩ = some (.bool false) := (blk_cell BK336.out 6).trans rfl; have hcz95_7 : w92.cell? ⟨gb336, 7, none⟩ = some (.string (⟨#[]⟩ : ByteArray)) := (blk_cell BK336.out 7).trans rfl; have hcz95_8 : w92.cell? ⟨gb336, 8, none⟩ = some (.bool false) := (blk_cell BK336.out 8).trans rfl; have hcz95_9 : w92.cell? ⟨gb336, 9, none⟩ = some (.string (⟨#[]⟩ : ByteArray)) := (blk_cell BK336.out 9).trans rfl; have hcz95_10 : w92.cell? ⟨gb336, 10, none⟩ = some (.int .i64 0) := (blk_cell BK336.out 10).trans rfl; have hfz95_0 := blk_frozen BK336.out 0; have hfz95_1 := blk_frozen BK336.out 1; have hfz95_2 := blk_frozen BK336.out 2; have hfz95_3 := blk_frozen BK336.out 3; have hfz95_4 := blk_frozen BK336.out 4; have hfz95_5 := blk_frozen BK336.out 5; have hfz95_6 := blk_frozen BK336.out 6; have hfz95_7 := blk_frozen BK336.out 7; have hfz95_8 := blk_frozen BK336.out 8; have hfz95_9 := blk_frozen BK336.out 9; have hfz95_10 := blk_frozen BK336.out 10) | ((with_reducible refine gate_callee (f := 20) rfl ?_); refine goesL_ (some 63) rfl rfl Tryd.func20 (by kernel_rfl) rfl #[.agg #[.int .i64 t325, .int .i64 t326, .int .i64 t327, .int .i64 t328, .int .i64 t329, .string t330, .bool t331, .string t332, .bool t333, .string t334, .int .i64 t335]] rfl (by (try simp only [List.map_toArray, List.map_cons, List.map_nil]); first | done | rfl | (simp only [List.length_drop, List.length_take]; rfl)) ?_; (with_reducible refine (record_Encode.calls kj33 t325 t326 t327 t328 t329 t330 t331 t332 t333 t334 t335 t337 t338 _ A42.out).mono ?_); rintro e w96 ⟨rfl, hb⟩; refine ⟨_, rfl, ?_⟩; have n0_ := Aside0.mk (blk_below (g := gb317) (o := .cells #[.int .i64 a0_0, .int .i64 a0_1, .int .i64 a0_2, .int .i64 a0_3, .int .i64 a0_4, .string a0_5, .bool a0_6, .string a0_7, .bool a0_8, .string a0_9, .int .i64 a0_10] 25 (0, 0)) (by (with_reducible repeat (first | refine blk_drewN ?_ _ | refine blk_drew ?_ | refine blk_alloc ?_ _)); refine blk_far ?_ NB317_336.out _; (with_reducible repeat (first | refine blk_drewN ?_ _ | refine blk_drew ?_ | refine blk_alloc ?_ _)); refine blk_far ?_ NB317_336.out _; (with_reducible repeat (first | refine blk_drewN ?_ _ | refine blk_drew ?_ | refine blk_alloc ?_ _)); refine blk_far ?_ NB317_336.out _; (with_reducible repeat (first | refine blk_drewN ?_ _ | refine blk_drew ?_ | refine blk_alloc ?_ _)); refine blk_far ?_ NB317_336.out _; (with_reducible repeat (first | refine blk_drewN ?_ _ | refine blk_drew ?_ | refine blk_alloc ?_ _)); refine blk_far ?_ NB317_336.out _; (with_reducible repeat (first | refine blk_drewN ?_ _ | refine blk_drew ?_ | refine blk_alloc ?_ _)); refine blk_far ?_ NB317_336.out _; (with_reducible repeat (first | refine blk_drewN ?_ _ | refine blk_drew ?_ | refine blk_alloc ?_ _)); refine blk_far ?_ NB317_336.out _; (with_reducible repeat (first | refine blk_drewN ?_ _ | refine blk_drew ?_ | refine blk_alloc ?_ _)); refine blk_far ?_ NB317_336.out _; (with_reducible repeat (first | refine blk_drewN ?_ _ | refine blk_drew ?_ | refine blk_alloc ?_ _)); refine blk_far ?_ NB317_336.out _; (with_reducible repeat (first | refine blk_drewN ?_ _ | refine blk_drew ?_ | refine blk_alloc ?_ _)); refine blk_far ?_ NB317_336.out _; (with_reducible repeat (first | refine blk_drewN ?_ _ | refine blk_drew ?_ | refine blk_alloc ?_ _)); refine blk_far ?_ NB317_336.out _; (with_reducible repeat (first | refine blk_drewN ?_ _ | refine blk_drew ?_ | refine blk_alloc ?_ _)); exact BK317.out) hb); have n1_ := Aside0.mk (blk_below (g := gb322) (o := .cells #[.int .i64 a0_0, .int .i64 a3, .int .i64 a1, .int .i64 x323003_12, .int .i64 a0_4, .string a0_5, .bool a0_6, .string a0_7, .bool a0_8, .string a0_9, .int .i64 x323010_26] 25 (0, 0)) (by (with_reducible repeat (first | refine blk_drewN ?_ _ | refine blk_drew ?_ | refine blk_alloc ?_ _)); refine blk_far ?_ NB322_336.out _; (with_reducible repeat (first | refine blk_drewN ?_ _ | refine blk_drew ?_ | refine blk_alloc ?_ _)); refine blk_far ?_ NB322_336.out _; (with_reducible repeat (first | refine blk_drewN ?_ _ | refine blk_drew ?_ | refine blk_alloc ?_ _)); refine blk_far ?_ NB322_336.out _; (with_reducible repeat (first | refine blk_drewN ?_ _ | refine blk_drew ?_ | refine blk_alloc ?_ _)); refine blk_far ?_ NB322_336.out _; (with_reducible repeat (first | refine blk_drewN ?_ _ | refine blk_drew ?_ | refine blk_alloc ?_ _)); refine blk_far ?_ NB322_336.out _; (with_reducible repeat (first | refine blk_drewN ?_ _ | refine blk_drew ?_ | refine blk_alloc ?_ _)); refine blk_far ?_ NB322_336.out _; (with_reducible repeat (first | refine blk_drewN ?_ _ | refine blk_drew ?_ | refine blk_alloc ?_ _)); refine blk_far ?_ NB322_336.out _; (with_reducible repeat (first | refine blk_drewN ?_ _ | refine blk_drew ?_ | refine blk_alloc ?_ _)); refine blk_far ?_ NB322_336.out _; (with_reducible repeat (first | refine blk_drewN ?_ _ | refine blk_drew ?_ | refine blk_alloc ?_ _)); refine blk_far ?_ NB322_336.out _; (with_reducible repeat (first | refine blk_drewN ?_ _ | refine blk_drew ?_ | refine blk_alloc ?_ _)); refine blk_far ?_ NB322_336.out _; (with_reducible repeat (first | refine blk_drewN ?_ _ | refine blk_drew ?_ | refine blk_alloc ?_ _)); refine blk_far ?_ NB322_336.out _; (with_reducible repeat (first | refine blk_drewN ?_ _ | refine blk_drew ?_ | refine blk_alloc ?_ _)); exact BK322.out) hb); have n2_ := Aside0.mk (blk_below (g := gb336) (o := .cells #[.int .i64 t325, .int .i64 t326, .int .i64 t327, .int .i64 t328, .int .i64 t329, .string t330, .bool t331, .string t332, .bool t333, .string t334, .int .i64 t335] 25 (0, 0)) (by (with_reducible repeat (first | refine blk_drewN ?_ _ | refine blk_drew ?_ | refine blk_alloc ?_ _)); refine blk_put (cs := #[.int .i64 t325, .int .i64 t326, .int .i64 t327, .int .i64 t328, .int .i64 t329, .string t330, .bool t331, .string t332, .bool t333, .string t334, .int .i64 0]) ?_ 10 _ rfl; (with_reducible repeat (first | refine blk_drewN ?_ _ | refine blk_drew ?_ | refine blk_alloc ?_ _)); refine blk_put (cs := #[.int .i64 t325, .int .i64 t326, .int .i64 t327, .int .i64 t328, .int .i64 t329, .string t330, .bool t331, .string t332, .bool t333, .string (⟨#[]⟩ : ByteArray), .int .i64 0]) ?_ 9 _ rfl; (with_reducible repeat (first | refine blk_drewN ?_ _ | refine blk_drew ?_ | refine blk_alloc ?_ _)); refine blk_put (cs := #[.int .i64 t325, .int .i64 t326, .int .i64 t327, .int .i64 t328, .int .i64 t329, .string t330, .bool t331, .string t332, .bool false, .string (⟨#[]⟩ : ByteArray), .int .i64 0]) ?_ 8 _ rfl; (with_reducible repeat (first | refine blk_drewN ?_ _ | refine blk_drew ?_ | refine blk_alloc ?_ _)); refine blk_put (cs := #[.int .i64 t325, .int .i64 t326, .int .i64 t327, .int .i64 t328, .int .i64 t329, .string t330, .bool t331, .string (⟨#[]⟩ : ByteArray), .bool false, .string (⟨#[]⟩ : ByteArray), .int .i64 0]) ?_ 7 _ rfl; (with_reducible repeat (first | refine blk_drewN ?_ _ | refine blk_drew ?_ | refine blk_alloc ?_ _)); refine blk_put (cs := #[.int .i64 t325, .int .i64 t326, .int .i64 t327, .int .i64 t328, .int .i64 t329, .string t330, .bool false, .string (⟨#[]⟩ : ByteArray), .bool false, .string (⟨#[]⟩ : ByteArray), .int .i64 0]) ?_ 6 _ rfl; (with_reducible repeat (first | refine blk_drewN ?_ _ | refine blk_drew ?_ | refine blk_alloc ?_ _)); refine blk_put (cs := #[.int .i64 t325, .int .i64 t326, .int .i64 t327, .int .i64 t328, .int .i64 t329, .string (⟨#[]⟩ : ByteArray), .bool false, .string (⟨#[]⟩ : ByteArray), .bool false, .string (⟨#[]⟩ : ByteArray), .int .i64 0]) ?_ 5 _ rfl; (with_reducible repeat (first | refine blk_drewN ?_ _ | refine blk_drew ?_ | refine blk_alloc ?_ _)); refine blk_put (cs := #[.int .i64 t325, .int .i64 t326, .int .i64 t327, .int .i64 t328, .int .i64 0, .string (⟨#[]⟩ : ByteArray), .bool false, .string (⟨#[]⟩ : ByteArray), .bool false, .string (⟨#[]⟩ : ByteArray), .int .i64 0]) ?_ 4 _ rfl; (with_reducible repeat (first | refine blk_drewN ?_ _ | refine blk_drew ?_ | refine blk_alloc ?_ _)); refine blk_put (cs := #[.int .i64 t325, .int .i64 t326, .int .i64 t327, .int .i64 0, .int .i64 0, .string (⟨#[]⟩ : ByteArray), .bool false, .string (⟨#[]⟩ : ByteArray), .bool false, .string (⟨#[]⟩ : ByteArray), .int .i64 0]) ?_ 3 _ rfl; (with_reducible repeat (first | refine blk_drewN ?_ _ | refine blk_drew ?_ | refine blk_alloc ?_ _)); refine blk_put (cs := #[.int .i64 t325, .int .i64 t326, .int .i64 0, .int .i64 0, .int .i64 0, .string (⟨#[]⟩ : ByteArray), .bool false, .string (⟨#[]⟩ : ByteArray), .bool false, .string (⟨#[]⟩ : ByteArray), .int .i64 0]) ?_ 2 _ rfl; (with_reducible repeat (first | refine blk_drewN ?_ _ | refine blk_drew ?_ | refine blk_alloc ?_ _)); refine blk_put (cs := #[.int .i64 t325, .int .i64 0, .int .i64 0, .int .i64 0, .int .i64 0, .string (⟨#[]⟩ : ByteArray), .bool false, .string (⟨#[]⟩ : ByteArray), .bool false, .string (⟨#[]⟩ : ByteArray), .int .i64 0]) ?_ 1 _ rfl; (with_reducible repeat (first | refine blk_drewN ?_ _ | refine blk_drew ?_ | refine blk_alloc ?_ _)); refine blk_put (cs := #[.int .i64 0, .int .i64 0, .int .i64 0, .int .i64 0, .int .i64 0, .string (⟨#[]⟩ : ByteArray), .bool false, .string (⟨#[]⟩ : ByteArray), .bool false, .string (⟨#[]⟩ : ByteArray), .int .i64 0]) ?_ 0 _ rfl; (with_reducible repeat (first | refine blk_drewN ?_ _ | refine blk_drew ?_ | refine blk_alloc ?_ _)); exact BK336.out) hb); have n3_ := Aside0.mk (below_step (by repeat (first | (with_reducible first | exact HB.out | apply below_alloc | apply pw_below_drewN | apply below_drew1 | refine below_set ?_ GE317.out | refine below_set ?_ GE322.out | refine below_set ?_ GE336.out) | exact HB.out)) hb); clear BK317; clear BK322; clear BK336; clear HB; have BK317 := n0_; have BK322 := n1_; have BK336 := n2_; have HB := n3_; clear n0_ n1_ n2_ n3_; (try clear hb); (try clear hb2); (try clear hk); (try clear hi)) | (go_at_call 9; (with_reducible refine (quadrigalaw04_awake.calls kj33  t342 _ A88.out).mono ?_); rintro e w97 ⟨rfl, hb⟩; have n0_ := Aside0.mk (blk_below (g := gb317) (o := .cells #[.int .i64 a0_0, .int .i64 a0_1, .int .i64 a0_2, .int .i64 a0_3, .int .i64 a0_4, .string a0_5, .bool a0_6, .string a0_7, .bool a0_8, .string a0_9, .int .i64 a0_10] 25 (0, 0)) (by (with_reducible repeat (first | refine blk_drewN ?_ _ | refine blk_drew ?_ | refine blk_alloc ?_ _)); exact BK317.out) hb); have n1_ := Aside0.mk (blk_below (g := gb322) (o := .cells #[.int .i64 a0_0, .int .i64 a3, .int .i64 a1, .int .i64 x323003_12, .int .i64 a0_4, .string a0_5, .bool a0_6, .string a0_7, .bool a0_8, .string a0_9, .int .i64 x323010_26] 25 (0, 0)) (by (with_reducible repeat (first | refine blk_drewN ?_ _ | refine blk_drew ?_ | refine blk_alloc ?_ _)); exact BK322.out) hb); have n2_ := Aside0.mk (blk_below (g := gb336) (o := .cells #[.int .i64 t325, .int .i64 t326, .int .i64 t327, .int .i64 t328, .int .i64 t329, .string t330, .bool t331, .string t332, .bool t333, .string t334, .int .i64 t335] 25 (0, 0)) (by (with_reducible repeat (first | refine blk_drewN ?_ _ | refine blk_drew ?_ | refine blk_alloc ?_ _)); exact BK336.out) hb); have n3_ := Aside0.mk (below_step (by repeat (first | (with_reducible first | exact HB.out | apply below_alloc | apply pw_below_drewN | apply below_drew1 | refine below_set ?_ GE317.out | refine below_set ?_ GE322.out | refine below_set ?_ GE336.out) | exact HB.out)) hb); clear BK317; clear BK322; clear BK336; clear HB; have BK317 := n0_; have BK322 := n1_; have BK336 := n2_; have HB := n3_; clear n0_ n1_ n2_ n3_; (try clear hb); (try clear hb2); (try clear hk); (try clear hi)))
                    go_ret
                    exact ⟨by first | rfl | (simp [errW_none, errW_some] <;> rfl) | (simp [*, errW_none, errW_some] <;> rfl), by repeat (first | (with_reducible first | exact HB.out | apply below_alloc | apply pw_below_drewN | apply below_drew1 | refine below_set ?_ GE317.out | refine below_set ?_ GE322.out | refine below_set ?_ GE336.out) | exact HB.out)⟩

end Go.Proofs.YtlicobfjeajcfaaDoor.Q04
