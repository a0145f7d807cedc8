-- Written by a program of this session (wip/bin/stubprint.py) out of the translation; not trusted: Lean checks it.
import Derived.Test.YtlicobfjeajcfaaQ29x0
import Derived.Test.YtlicobfjeajcfaaSgNum
namespace Go.Proofs.Ytlicobfjeajcfaa.Q29
open Go.RowKit Go.Proofs.YtlicobfjeajcfaaW.PrintWords Go.Proofs.YtlicobfjeajcfaaW.PrintLast Go.Proofs.YtlicobfjeajcfaaW.PrintMore
attribute [local go_sem] max2_int min2_int max_two min_two max_three min_three max_four min_four   -- for this text's walks alone
set_option linter.unusedVariables false
set_option linter.unusedSimpArgs false

-- NOT PRINTED: function 34 (single_numbers_of)

-- BY HAND: function 23 (single_Number), in YtlicobfjeajcfaaSgNum

/-! ### quadrigalaw29_awake: function 22 -/
def quadrigalaw29_awake.f  : Option (Bool) := (single_Number.f (([(⟨0, (⟨1, 1, 1, 0, 0, (⟨#[]⟩ : ByteArray), (⟨false, (⟨#[]⟩ : ByteArray)⟩ : S77), (⟨false, (⟨#[]⟩ : ByteArray)⟩ : S77), 0⟩ : S79)⟩ : S84), (⟨1, (⟨1, 1, 2, 0, 0, (⟨#[]⟩ : ByteArray), (⟨false, (⟨#[]⟩ : ByteArray)⟩ : S77), (⟨false, (⟨#[]⟩ : ByteArray)⟩ : S77), 0⟩ : S79)⟩ : S84)] : List (S84)))).bind fun bt145 => (if bt145.2 = 0 then (if (bt145.1.length : Int) = 2 then (if 0 < (bt145.1.length : Int) then (if ((rd_T79 bt145.1 0).f1) = 1 then (if 1 < (bt145.1.length : Int) then (if ((rd_T79 bt145.1 1).f1) = 2 then (some (((rd_T79 bt145.1 1).f2) == 2)) else (some false)) else (none)) else (some false)) else (none)) else (some false)) else (some false))
set_option maxHeartbeats 8000000 in
set_option maxRecDepth 100000 in
theorem quadrigalaw29_awake.calls  (r : Bool) (w : World) (h : quadrigalaw29_awake.f  = some r) :
    Calls Try.prog 22 #[] w fun e w' => e = .returned (.bool r) ∧ Below w.heap.size w w' := by
  have hu79 := Try.underlying79
  have hu84 := Try.underlying84
  have HB := Aside0.mk (Below.refl w.heap.size w)
  have H : ((single_Number.f (([(⟨0, (⟨1, 1, 1, 0, 0, (⟨#[]⟩ : ByteArray), (⟨false, (⟨#[]⟩ : ByteArray)⟩ : S77), (⟨false, (⟨#[]⟩ : ByteArray)⟩ : S77), 0⟩ : S79)⟩ : S84), (⟨1, (⟨1, 1, 2, 0, 0, (⟨#[]⟩ : ByteArray), (⟨false, (⟨#[]⟩ : ByteArray)⟩ : S77), (⟨false, (⟨#[]⟩ : ByteArray)⟩ : S77), 0⟩ : S79)⟩ : S84)] : List (S84)))).bind fun bt145 => (if bt145.2 = 0 then (if (bt145.1.length : Int) = 2 then (if 0 < (bt145.1.length : Int) then (if ((rd_T79 bt145.1 0).f1) = 1 then (if 1 < (bt145.1.length : Int) then (if ((rd_T79 bt145.1 1).f1) = 2 then (some (((rd_T79 bt145.1 1).f2) == 2)) else (some false)) else (none)) else (some false)) else (none)) else (some false)) else (some false))) = some r := h
  clear h
  obtain ⟨y142, hy142⟩ : ∃ y_ : List (S84), y_ = (([(⟨0, (⟨1, 1, 1, 0, 0, (⟨#[]⟩ : ByteArray), (⟨false, (⟨#[]⟩ : ByteArray)⟩ : S77), (⟨false, (⟨#[]⟩ : ByteArray)⟩ : S77), 0⟩ : S79)⟩ : S84), (⟨1, (⟨1, 1, 2, 0, 0, (⟨#[]⟩ : ByteArray), (⟨false, (⟨#[]⟩ : ByteArray)⟩ : S77), (⟨false, (⟨#[]⟩ : ByteArray)⟩ : S77), 0⟩ : S79)⟩ : S84)] : List (S84))) := ⟨_, rfl⟩
  replace H : ((single_Number.f y142).bind fun bt145 => (if bt145.2 = 0 then (if (bt145.1.length : Int) = 2 then (if 0 < (bt145.1.length : Int) then (if ((rd_T79 bt145.1 0).f1) = 1 then (if 1 < (bt145.1.length : Int) then (if ((rd_T79 bt145.1 1).f1) = 2 then (some (((rd_T79 bt145.1 1).f2) == 2)) else (some false)) else (none)) else (some false)) else (none)) else (some false)) else (some false))) = some r := by first | (rw [hy142]; with_reducible exact H) | (have H2_ := (Option.bind_some _ _).symm.trans H; rw [hy142]; with_reducible exact H2_) | (have H2_ := (Option.bind_some _ _).symm.trans H; with_reducible exact H2_) | with_reducible exact H | (rw [hy142]; exact H) | exact H
  have Ny142 := Aside0.mk hy142
  clear hy142
  replace H := Option.bind_eq_some_iff.mp H
  obtain ⟨⟨t145, t146⟩, A10, H⟩ := H
  replace H : (if t146 = 0 then (if (t145.length : Int) = 2 then (if 0 < (t145.length : Int) then (if ((rd_T79 t145 0).f1) = 1 then (if 1 < (t145.length : Int) then (if ((rd_T79 t145 1).f1) = 2 then (some (((rd_T79 t145 1).f2) == 2)) else (some false)) else (none)) else (some false)) else (none)) else (some false)) else (some false)) = some r := H
  have A1 := Aside0.mk A10
  clear A10
  by_cases c2 : t146 = 0
  · rw [if_pos c2] at H
    have c2b0 : (t146 == 0) = true := beq_iff_eq.mpr c2
    have c2b1 : (t146 != 0) = false := bne_eq_false_iff_eq.mpr c2
    clear c2
    by_cases c3 : (t145.length : Int) = 2
    · rw [if_pos c3] at H
      have c3b0 : ((t145.length : Int) == 2) = true := beq_iff_eq.mpr c3
      have c3b1 : ((t145.length : Int) != 2) = false := bne_eq_false_iff_eq.mpr c3
      clear c3
      by_cases c4 : 0 < (t145.length : Int)
      · rw [if_pos c4] at H
        have c4b0 : decide (0 < (t145.length : Int)) = true := decide_eq_true c4
        have c4b1 : decide (0 < t145.length) = true := decide_eq_true (by omega)
        clear c4
        by_cases c5 : ((rd_T79 t145 0).f1) = 1
        · rw [if_pos c5] at H
          have c5b0 : (((rd_T79 t145 0).f1) == 1) = true := beq_iff_eq.mpr c5
          have c5b1 : (((rd_T79 t145 0).f1) != 1) = false := bne_eq_false_iff_eq.mpr c5
          clear c5
          by_cases c6 : 1 < (t145.length : Int)
          · rw [if_pos c6] at H
            have c6b0 : decide (1 < (t145.length : Int)) = true := decide_eq_true c6
            have c6b1 : decide (1 < t145.length) = true := decide_eq_true (by omega)
            clear c6
            by_cases c7 : ((rd_T79 t145 1).f1) = 2
            · rw [if_pos c7] at H
              have c7b0 : (((rd_T79 t145 1).f1) == 2) = true := beq_iff_eq.mpr c7
              have c7b1 : (((rd_T79 t145 1).f1) != 2) = false := bne_eq_false_iff_eq.mpr c7
              clear c7
              obtain rfl := Option.some.inj H
              go_enter Try.func22, Try.ntmps22
              go_wp2_with (first | ((with_reducible refine gate_dst (N := 8) rfl ?_); (try (refine gate_guard (by rfl) ?_; dsimp only)); refine Kd.R_lit k84 _ 84 ?hg (N := 8) ?hd (xs := ([(⟨0, (⟨1, 1, 1, 0, 0, (⟨#[]⟩ : ByteArray), (⟨false, (⟨#[]⟩ : ByteArray)⟩ : S77), (⟨false, (⟨#[]⟩ : ByteArray)⟩ : S77), 0⟩ : S79)⟩ : S84), (⟨1, (⟨1, 1, 2, 0, 0, (⟨#[]⟩ : ByteArray), (⟨false, (⟨#[]⟩ : ByteArray)⟩ : S77), (⟨false, (⟨#[]⟩ : ByteArray)⟩ : S77), 0⟩ : S79)⟩ : S84)] : List (S84))) (inner := [.int .i64 0, .int .i64 1, .int .i64 1, .int .i64 1, .int .i64 0, .int .i64 0, .string (⟨#[]⟩ : ByteArray), .bool false, .string (⟨#[]⟩ : ByteArray), .bool false, .string (⟨#[]⟩ : ByteArray), .int .i64 0, .int .i64 1, .int .i64 1, .int .i64 1, .int .i64 2, .int .i64 0, .int .i64 0, .string (⟨#[]⟩ : ByteArray), .bool false, .string (⟨#[]⟩ : ByteArray), .bool false, .string (⟨#[]⟩ : ByteArray), .int .i64 0]) (ok := fun _ => True) (okp := fun _ => True) ?hr ?hp (fun _ hk => hk) trivial (Below.refl _ _) (Nat.le_refl _) (by simp) ?_; (case hd => rfl); (case hg => rfl); (case hr => first | (go_simp; done) | (go_simp; rfl)); (case hp => exact (Reps.front (show Kd.M k84 _ _ _ (⟨0, (⟨1, 1, 1, 0, 0, (⟨#[]⟩ : ByteArray), (⟨false, (⟨#[]⟩ : ByteArray)⟩ : S77), (⟨false, (⟨#[]⟩ : ByteArray)⟩ : S77), 0⟩ : S79)⟩ : S84) [.int .i64 0, .int .i64 1, .int .i64 1, .int .i64 1, .int .i64 0, .int .i64 0, .string (⟨#[]⟩ : ByteArray), .bool false, .string (⟨#[]⟩ : ByteArray), .bool false, .string (⟨#[]⟩ : ByteArray), .int .i64 0] from (k84_mkM _ _ _ (⟨0, (⟨1, 1, 1, 0, 0, (⟨#[]⟩ : ByteArray), (⟨false, (⟨#[]⟩ : ByteArray)⟩ : S77), (⟨false, (⟨#[]⟩ : ByteArray)⟩ : S77), 0⟩ : S79)⟩ : S84) )) rfl (Reps.front (show Kd.M k84 _ _ _ (⟨1, (⟨1, 1, 2, 0, 0, (⟨#[]⟩ : ByteArray), (⟨false, (⟨#[]⟩ : ByteArray)⟩ : S77), (⟨false, (⟨#[]⟩ : ByteArray)⟩ : S77), 0⟩ : S79)⟩ : S84) [.int .i64 1, .int .i64 1, .int .i64 1, .int .i64 2, .int .i64 0, .int .i64 0, .string (⟨#[]⟩ : ByteArray), .bool false, .string (⟨#[]⟩ : ByteArray), .bool false, .string (⟨#[]⟩ : ByteArray), .int .i64 0] from (k84_mkM _ _ _ (⟨1, (⟨1, 1, 2, 0, 0, (⟨#[]⟩ : ByteArray), (⟨false, (⟨#[]⟩ : ByteArray)⟩ : S77), (⟨false, (⟨#[]⟩ : ByteArray)⟩ : S77), 0⟩ : S79)⟩ : S84) )) rfl (Reps.none _ _) rfl) rfl)); intro v143 w8 ho9 hb hg_ hnew_; clear hg_ hnew_; (first | rw [← Ny142.out] at ho9 | (simp only [Int.reduceToNat] at ho9; rw [← Ny142.out] at ho9)); have n0_ := Aside0.mk (Kd.R_lower ho9 (below_size (by repeat (first | (with_reducible first | exact HB.out | apply below_alloc | apply pw_below_drewN | apply below_drew1) | exact HB.out)))); have n1_ := Aside0.mk (below_step (by repeat (first | (with_reducible first | exact HB.out | apply below_alloc | apply pw_below_drewN | apply below_drew1) | exact HB.out)) hb); clear HB; have HO144 := n0_; have HB := n1_; clear n0_ n1_; clear hb ho9; obtain ⟨Ao10, co10, eo10⟩ := Kd.R_slice HO144.out; subst eo10) | ((with_reducible refine gate_callee (f := 23) rfl ?_); refine goesL_ (some 9) rfl rfl Try.func23 (by kernel_rfl) rfl #[.slice Ao10 y142.length co10] rfl (by (try simp only [List.map_toArray, List.map_cons, List.map_nil]); first | done | rfl | (simp only [List.length_drop, List.length_take]; rfl)) ?_; (with_reducible refine (single_Number.calls _ _ y142 t145 t146 _ ?side1 ?side2 A1.out).mono ?_); (case side1 => repeat (first | exact (Kd.R_reads' HO144.out).2.2 | (with_reducible refine Kd.C_alloc ?_ _) | (with_reducible refine Kd.C_drewN ?_ _) | (with_reducible refine Kd.C_drew ?_))); (case side2 => exact (Kd.R_reads' HO144.out).2.1); rintro e w11 ⟨v147, rfl, ho0, hb⟩; refine ⟨_, rfl, ?_⟩; have n0_ := Aside0.mk (Kd.R_below (by (with_reducible repeat (first | apply Kd.R_alloc | apply Kd.R_drewN | apply Kd.R_drew)); exact HO144.out) hb); have n1_ := Aside0.mk (Kd.R_lower ho0 (below_size (by repeat (first | (with_reducible first | exact HB.out | apply below_alloc | apply pw_below_drewN | apply below_drew1) | exact HB.out)))); have n2_ := Aside0.mk (below_step (by repeat (first | (with_reducible first | exact HB.out | apply below_alloc | apply pw_below_drewN | apply below_drew1) | exact HB.out)) hb); clear HO144; clear HB; have HO144 := n0_; have HO148 := n1_; have HB := n2_; clear n0_ n1_ n2_; (try clear hb); (try clear hb2); (try clear hk); (try clear hi); (try clear ho0); obtain ⟨Ao12, co12, eo12⟩ := Kd.R_slice HO148.out; subst eo12; have p149 : 0 ≤ (0 : Int) := (by omega); have q149 : 0 < (t145.length : Int) := of_decide_eq_true (by first | (with_reducible assumption) | assumption); obtain ⟨ad149, e149, hx149_0, hx149_1, hx149_2, hx149_3, hx149_4, hx149_5, hx149_6, hx149_7, hx149_8, hx149_9, hx149_10⟩ := at_T79 (Kd.R_reads' HO148.out).2.2 0 p149 q149; cases e149; have qi149 : (0 < t145.length) = True := eq_true (by omega); (try rw [show ((0 : Int)).toNat = 0 from rfl] at hx149_0); (try rw [show 0 * 11 = 0 from rfl] at hx149_0); (try rw [Addr.add_zero'] at hx149_0); (try rw [show ((0 : Int)).toNat = 0 from rfl] at hx149_1); (try rw [show 0 * 11 = 0 from rfl] at hx149_1); (try rw [Addr.add_zero'] at hx149_1); (try rw [show ((0 : Int)).toNat = 0 from rfl] at hx149_2); (try rw [show 0 * 11 = 0 from rfl] at hx149_2); (try rw [Addr.add_zero'] at hx149_2); (try rw [show ((0 : Int)).toNat = 0 from rfl] at hx149_3); (try rw [show 0 * 11 = 0 from rfl] at hx149_3); (try rw [Addr.add_zero'] at hx149_3); (try rw [show ((0 : Int)).toNat = 0 from rfl] at hx149_4); (try rw [show 0 * 11 = 0 from rfl] at hx149_4); (try rw [Addr.add_zero'] at hx149_4); (try rw [show ((0 : Int)).toNat = 0 from rfl] at hx149_5); (try rw [show 0 * 11 = 0 from rfl] at hx149_5); (try rw [Addr.add_zero'] at hx149_5); (try rw [show ((0 : Int)).toNat = 0 from rfl] at hx149_6); (try rw [show 0 * 11 = 0 from rfl] at hx149_6); (try rw [Addr.add_zero'] at hx149_6); (try rw [show ((0 : Int)).toNat = 0 from rfl] at hx149_7); (try rw [show 0 * 11 = 0 from rfl] at hx149_7); (try rw [Addr.add_zero'] at hx149_7); (try rw [show ((0 : Int)).toNat = 0 from rfl] at hx149_8); (try rw [show 0 * 11 = 0 from rfl] at hx149_8); (try rw [Addr.add_zero'] at hx149_8); (try rw [show ((0 : Int)).toNat = 0 from rfl] at hx149_9); (try rw [show 0 * 11 = 0 from rfl] at hx149_9); (try rw [Addr.add_zero'] at hx149_9); (try rw [show ((0 : Int)).toNat = 0 from rfl] at hx149_10); (try rw [show 0 * 11 = 0 from rfl] at hx149_10); (try rw [Addr.add_zero'] at hx149_10); replace p149 := eq_true p149; replace q149 := eq_true q149; have p150 : 0 ≤ (1 : Int) := (by omega); have q150 : 1 < (t145.length : Int) := of_decide_eq_true (by first | (with_reducible assumption) | assumption); obtain ⟨ad150, e150, hx150_0, hx150_1, hx150_2, hx150_3, hx150_4, hx150_5, hx150_6, hx150_7, hx150_8, hx150_9, hx150_10⟩ := at_T79 (Kd.R_reads' HO148.out).2.2 1 p150 q150; obtain rfl : ad149 = ad150 := (by injection e150); (try simp only [show (1 : Int).toNat = 1 from rfl, Nat.reduceMul, Nat.reduceEqDiff, Go.Addr.add, ↓reduceIte] at hx150_0); (try simp only [show (1 : Int).toNat = 1 from rfl, Nat.reduceMul, Nat.reduceEqDiff, Go.Addr.add, ↓reduceIte] at hx150_1); (try simp only [show (1 : Int).toNat = 1 from rfl, Nat.reduceMul, Nat.reduceEqDiff, Go.Addr.add, ↓reduceIte] at hx150_2); (try simp only [show (1 : Int).toNat = 1 from rfl, Nat.reduceMul, Nat.reduceEqDiff, Go.Addr.add, ↓reduceIte] at hx150_3); (try simp only [show (1 : Int).toNat = 1 from rfl, Nat.reduceMul, Nat.reduceEqDiff, Go.Addr.add, ↓reduceIte] at hx150_4); (try simp only [show (1 : Int).toNat = 1 from rfl, Nat.reduceMul, Nat.reduceEqDiff, Go.Addr.add, ↓reduceIte] at hx150_5); (try simp only [show (1 : Int).toNat = 1 from rfl, Nat.reduceMul, Nat.reduceEqDiff, Go.Addr.add, ↓reduceIte] at hx150_6); (try simp only [show (1 : Int).toNat = 1 from rfl, Nat.reduceMul, Nat.reduceEqDiff, Go.Addr.add, ↓reduceIte] at hx150_7); (try simp only [show (1 : Int).toNat = 1 from rfl, Nat.reduceMul, Nat.reduceEqDiff, Go.Addr.add, ↓reduceIte] at hx150_8); (try simp only [show (1 : Int).toNat = 1 from rfl, Nat.reduceMul, Nat.reduceEqDiff, Go.Addr.add, ↓reduceIte] at hx150_9); (try simp only [show (1 : Int).toNat = 1 from rfl, Nat.reduceMul, Nat.reduceEqDiff, Go.Addr.add, ↓reduceIte] at hx150_10); have qi150 : (1 < t145.length) = True := eq_true (by omega); (try rw [show ((1 : Int)).toNat = 1 from rfl] at hx150_0); (try rw [show 1 * 11 = 11 from rfl] at hx150_0); (try rw [show ((1 : Int)).toNat = 1 from rfl] at hx150_1); (try rw [show 1 * 11 = 11 from rfl] at hx150_1); (try rw [show ((1 : Int)).toNat = 1 from rfl] at hx150_2); (try rw [show 1 * 11 = 11 from rfl] at hx150_2); (try rw [show ((1 : Int)).toNat = 1 from rfl] at hx150_3); (try rw [show 1 * 11 = 11 from rfl] at hx150_3); (try rw [show ((1 : Int)).toNat = 1 from rfl] at hx150_4); (try rw [show 1 * 11 = 11 from rfl] at hx150_4); (try rw [show ((1 : Int)).toNat = 1 from rfl] at hx150_5); (try rw [show 1 * 11 = 11 from rfl] at hx150_5); (try rw [show ((1 : Int)).toNat = 1 from rfl] at hx150_6); (try rw [show 1 * 11 = 11 from rfl] at hx150_6); (try rw [show ((1 : Int)).toNat = 1 from rfl] at hx150_7); (try rw [show 1 * 11 = 11 from rfl] at hx150_7); (try rw [show ((1 : Int)).toNat = 1 from rfl] at hx150_8); (try rw [show 1 * 11 = 11 from rfl] at hx150_8); (try rw [show ((1 : Int)).toNat = 1 from rfl] at hx150_9); (try rw [show 1 * 11 = 11 from rfl] at hx150_9); (try rw [show ((1 : Int)).toNat = 1 from rfl] at hx150_10); (try rw [show 1 * 11 = 11 from rfl] at hx150_10); replace p150 := eq_true p150; replace q150 := eq_true q150; have p151 : 0 ≤ (1 : Int) := (by omega); have q151 : 1 < (t145.length : Int) := of_decide_eq_true (by first | (with_reducible assumption) | assumption); obtain ⟨ad151, e151, hx151_0, hx151_1, hx151_2, hx151_3, hx151_4, hx151_5, hx151_6, hx151_7, hx151_8, hx151_9, hx151_10⟩ := at_T79 (Kd.R_reads' HO148.out).2.2 1 p151 q151; obtain rfl : ad149 = ad151 := (by injection e151); (try simp only [show (1 : Int).toNat = 1 from rfl, Nat.reduceMul, Nat.reduceEqDiff, Go.Addr.add, ↓reduceIte] at hx151_0); (try simp only [show (1 : Int).toNat = 1 from rfl, Nat.reduceMul, Nat.reduceEqDiff, Go.Addr.add, ↓reduceIte] at hx151_1); (try simp only [show (1 : Int).toNat = 1 from rfl, Nat.reduceMul, Nat.reduceEqDiff, Go.Addr.add, ↓reduceIte] at hx151_2); (try simp only [show (1 : Int).toNat = 1 from rfl, Nat.reduceMul, Nat.reduceEqDiff, Go.Addr.add, ↓reduceIte] at hx151_3); (try simp only [show (1 : Int).toNat = 1 from rfl, Nat.reduceMul, Nat.reduceEqDiff, Go.Addr.add, ↓reduceIte] at hx151_4); (try simp only [show (1 : Int).toNat = 1 from rfl, Nat.reduceMul, Nat.reduceEqDiff, Go.Addr.add, ↓reduceIte] at hx151_5); (try simp only [show (1 : Int).toNat = 1 from rfl, Nat.reduceMul, Nat.reduceEqDiff, Go.Addr.add, ↓reduceIte] at hx151_6); (try simp only [show (1 : Int).toNat = 1 from rfl, Nat.reduceMul, Nat.reduceEqDiff, Go.Addr.add, ↓reduceIte] at hx151_7); (try simp only [show (1 : Int).toNat = 1 from rfl, Nat.reduceMul, Nat.reduceEqDiff, Go.Addr.add, ↓reduceIte] at hx151_8); (try simp only [show (1 : Int).toNat = 1 from rfl, Nat.reduceMul, Nat.reduceEqDiff, Go.Addr.add, ↓reduceIte] at hx151_9); (try simp only [show (1 : Int).toNat = 1 from rfl, Nat.reduceMul, Nat.reduceEqDiff, Go.Addr.add, ↓reduceIte] at hx151_10); have qi151 : (1 < t145.length) = True := eq_true (by omega); (try rw [show ((1 : Int)).toNat = 1 from rfl] at hx151_0); (try rw [show 1 * 11 = 11 from rfl] at hx151_0); (try rw [show ((1 : Int)).toNat = 1 from rfl] at hx151_1); (try rw [show 1 * 11 = 11 from rfl] at hx151_1); (try rw [show ((1 : Int)).toNat = 1 from rfl] at hx151_2); (try rw [show 1 * 11 = 11 from rfl] at hx151_2); (try rw [show ((1 : Int)).toNat = 1 from rfl] at hx151_3); (try rw [show 1 * 11 = 11 from rfl] at hx151_3); (try rw [show ((1 : Int)).toNat = 1 from rfl] at hx151_4); (try rw [show 1 * 11 = 11 from rfl] at hx151_4); (try rw [show ((1 : Int)).toNat = 1 from rfl] at hx151_5); (try rw [show 1 * 11 = 11 from rfl] at hx151_5); (try rw [show ((1 : Int)).toNat = 1 from rfl] at hx151_6); (try rw [show 1 * 11 = 11 from rfl] at hx151_6); (try rw [show ((1 : Int)).toNat = 1 from rfl] at hx151_7); (try rw [show 1 * 11 = 11 from rfl] at hx151_7); (try rw [show ((1 : Int)).toNat = 1 from rfl] at hx151_8); (try rw [show 1 * 11 = 11 from rfl] at hx151_8); (try rw [show ((1 : Int)).toNat = 1 from rfl] at hx151_9); (try rw [show 1 * 11 = 11 from rfl] at hx151_9); (try rw [show ((1 : Int)).toNat = 1 from rfl] at hx151_10); (try rw [show 1 * 11 = 11 from rfl] at hx151_10); replace p151 := eq_true p151; replace q151 := eq_true q151))
              go_ret
              exact ⟨by first | rfl | (simp [errW_none, errW_some] <;> rfl) | (simp [*, errW_none, errW_some] <;> rfl), by repeat (first | (with_reducible first | exact HB.out | apply below_alloc | apply pw_below_drewN | apply below_drew1) | exact HB.out)⟩
            · rw [if_neg c7] at H
              have c7b0 : (((rd_T79 t145 1).f1) == 2) = false := beq_eq_false_iff_ne.mpr c7
              have c7b1 : (((rd_T79 t145 1).f1) != 2) = true := bne_iff_ne.mpr c7
              obtain rfl := Option.some.inj H
              go_enter Try.func22, Try.ntmps22
              go_wp2_with (first | ((with_reducible refine gate_dst (N := 8) rfl ?_); (try (refine gate_guard (by rfl) ?_; dsimp only)); refine Kd.R_lit k84 _ 84 ?hg (N := 8) ?hd (xs := ([(⟨0, (⟨1, 1, 1, 0, 0, (⟨#[]⟩ : ByteArray), (⟨false, (⟨#[]⟩ : ByteArray)⟩ : S77), (⟨false, (⟨#[]⟩ : ByteArray)⟩ : S77), 0⟩ : S79)⟩ : S84), (⟨1, (⟨1, 1, 2, 0, 0, (⟨#[]⟩ : ByteArray), (⟨false, (⟨#[]⟩ : ByteArray)⟩ : S77), (⟨false, (⟨#[]⟩ : ByteArray)⟩ : S77), 0⟩ : S79)⟩ : S84)] : List (S84))) (inner := [.int .i64 0, .int .i64 1, .int .i64 1, .int .i64 1, .int .i64 0, .int .i64 0, .string (⟨#[]⟩ : ByteArray), .bool false, .string (⟨#[]⟩ : ByteArray), .bool false, .string (⟨#[]⟩ : ByteArray), .int .i64 0, .int .i64 1, .int .i64 1, .int .i64 1, .int .i64 2, .int .i64 0, .int .i64 0, .string (⟨#[]⟩ : ByteArray), .bool false, .string (⟨#[]⟩ : ByteArray), .bool false, .string (⟨#[]⟩ : ByteArray), .int .i64 0]) (ok := fun _ => True) (okp := fun _ => True) ?hr ?hp (fun _ hk => hk) trivial (Below.refl _ _) (Nat.le_refl _) (by simp) ?_; (case hd => rfl); (case hg => rfl); (case hr => first | (go_simp; done) | (go_simp; rfl)); (case hp => exact (Reps.front (show Kd.M k84 _ _ _ (⟨0, (⟨1, 1, 1, 0, 0, (⟨#[]⟩ : ByteArray), (⟨false, (⟨#[]⟩ : ByteArray)⟩ : S77), (⟨false, (⟨#[]⟩ : ByteArray)⟩ : S77), 0⟩ : S79)⟩ : S84) [.int .i64 0, .int .i64 1, .int .i64 1, .int .i64 1, .int .i64 0, .int .i64 0, .string (⟨#[]⟩ : ByteArray), .bool false, .string (⟨#[]⟩ : ByteArray), .bool false, .string (⟨#[]⟩ : ByteArray), .int .i64 0] from (k84_mkM _ _ _ (⟨0, (⟨1, 1, 1, 0, 0, (⟨#[]⟩ : ByteArray), (⟨false, (⟨#[]⟩ : ByteArray)⟩ : S77), (⟨false, (⟨#[]⟩ : ByteArray)⟩ : S77), 0⟩ : S79)⟩ : S84) )) rfl (Reps.front (show Kd.M k84 _ _ _ (⟨1, (⟨1, 1, 2, 0, 0, (⟨#[]⟩ : ByteArray), (⟨false, (⟨#[]⟩ : ByteArray)⟩ : S77), (⟨false, (⟨#[]⟩ : ByteArray)⟩ : S77), 0⟩ : S79)⟩ : S84) [.int .i64 1, .int .i64 1, .int .i64 1, .int .i64 2, .int .i64 0, .int .i64 0, .string (⟨#[]⟩ : ByteArray), .bool false, .string (⟨#[]⟩ : ByteArray), .bool false, .string (⟨#[]⟩ : ByteArray), .int .i64 0] from (k84_mkM _ _ _ (⟨1, (⟨1, 1, 2, 0, 0, (⟨#[]⟩ : ByteArray), (⟨false, (⟨#[]⟩ : ByteArray)⟩ : S77), (⟨false, (⟨#[]⟩ : ByteArray)⟩ : S77), 0⟩ : S79)⟩ : S84) )) rfl (Reps.none _ _) rfl) rfl)); intro v143 w13 ho14 hb hg_ hnew_; clear hg_ hnew_; (first | rw [← Ny142.out] at ho14 | (simp only [Int.reduceToNat] at ho14; rw [← Ny142.out] at ho14)); have n0_ := Aside0.mk (Kd.R_lower ho14 (below_size (by repeat (first | (with_reducible first | exact HB.out | apply below_alloc | apply pw_below_drewN | apply below_drew1) | exact HB.out)))); have n1_ := Aside0.mk (below_step (by repeat (first | (with_reducible first | exact HB.out | apply below_alloc | apply pw_below_drewN | apply below_drew1) | exact HB.out)) hb); clear HB; have HO144 := n0_; have HB := n1_; clear n0_ n1_; clear hb ho14; obtain ⟨Ao15, co15, eo15⟩ := Kd.R_slice HO144.out; subst eo15) | ((with_reducible refine gate_callee (f := 23) rfl ?_); refine goesL_ (some 9) rfl rfl Try.func23 (by kernel_rfl) rfl #[.slice Ao15 y142.length co15] rfl (by (try simp only [List.map_toArray, List.map_cons, List.map_nil]); first | done | rfl | (simp only [List.length_drop, List.length_take]; rfl)) ?_; (with_reducible refine (single_Number.calls _ _ y142 t145 t146 _ ?side1 ?side2 A1.out).mono ?_); (case side1 => repeat (first | exact (Kd.R_reads' HO144.out).2.2 | (with_reducible refine Kd.C_alloc ?_ _) | (with_reducible refine Kd.C_drewN ?_ _) | (with_reducible refine Kd.C_drew ?_))); (case side2 => exact (Kd.R_reads' HO144.out).2.1); rintro e w16 ⟨v147, rfl, ho0, hb⟩; refine ⟨_, rfl, ?_⟩; have n0_ := Aside0.mk (Kd.R_below (by (with_reducible repeat (first | apply Kd.R_alloc | apply Kd.R_drewN | apply Kd.R_drew)); exact HO144.out) hb); have n1_ := Aside0.mk (Kd.R_lower ho0 (below_size (by repeat (first | (with_reducible first | exact HB.out | apply below_alloc | apply pw_below_drewN | apply below_drew1) | exact HB.out)))); have n2_ := Aside0.mk (below_step (by repeat (first | (with_reducible first | exact HB.out | apply below_alloc | apply pw_below_drewN | apply below_drew1) | exact HB.out)) hb); clear HO144; clear HB; have HO144 := n0_; have HO148 := n1_; have HB := n2_; clear n0_ n1_ n2_; (try clear hb); (try clear hb2); (try clear hk); (try clear hi); (try clear ho0); obtain ⟨Ao17, co17, eo17⟩ := Kd.R_slice HO148.out; subst eo17; have p149 : 0 ≤ (0 : Int) := (by omega); have q149 : 0 < (t145.length : Int) := of_decide_eq_true (by first | (with_reducible assumption) | assumption); obtain ⟨ad149, e149, hx149_0, hx149_1, hx149_2, hx149_3, hx149_4, hx149_5, hx149_6, hx149_7, hx149_8, hx149_9, hx149_10⟩ := at_T79 (Kd.R_reads' HO148.out).2.2 0 p149 q149; cases e149; have qi149 : (0 < t145.length) = True := eq_true (by omega); (try rw [show ((0 : Int)).toNat = 0 from rfl] at hx149_0); (try rw [show 0 * 11 = 0 from rfl] at hx149_0); (try rw [Addr.add_zero'] at hx149_0); (try rw [show ((0 : Int)).toNat = 0 from rfl] at hx149_1); (try rw [show 0 * 11 = 0 from rfl] at hx149_1); (try rw [Addr.add_zero'] at hx149_1); (try rw [show ((0 : Int)).toNat = 0 from rfl] at hx149_2); (try rw [show 0 * 11 = 0 from rfl] at hx149_2); (try rw [Addr.add_zero'] at hx149_2); (try rw [show ((0 : Int)).toNat = 0 from rfl] at hx149_3); (try rw [show 0 * 11 = 0 from rfl] at hx149_3); (try rw [Addr.add_zero'] at hx149_3); (try rw [show ((0 : Int)).toNat = 0 from rfl] at hx149_4); (try rw [show 0 * 11 = 0 from rfl] at hx149_4); (try rw [Addr.add_zero'] at hx149_4); (try rw [show ((0 : Int)).toNat = 0 from rfl] at hx149_5); (try rw [show 0 * 11 = 0 from rfl] at hx149_5); (try rw [Addr.add_zero'] at hx149_5); (try rw [show ((0 : Int)).toNat = 0 from rfl] at hx149_6); (try rw [show 0 * 11 = 0 from rfl] at hx149_6); (try rw [Addr.add_zero'] at hx149_6); (try rw [show ((0 : Int)).toNat = 0 from rfl] at hx149_7); (try rw [show 0 * 11 = 0 from rfl] at hx149_7); (try rw [Addr.add_zero'] at hx149_7); (try rw [show ((0 : Int)).toNat = 0 from rfl] at hx149_8); (try rw [show 0 * 11 = 0 from rfl] at hx149_8); (try rw [Addr.add_zero'] at hx149_8); (try rw [show ((0 : Int)).toNat = 0 from rfl] at hx149_9); (try rw [show 0 * 11 = 0 from rfl] at hx149_9); (try rw [Addr.add_zero'] at hx149_9); (try rw [show ((0 : Int)).toNat = 0 from rfl] at hx149_10); (try rw [show 0 * 11 = 0 from rfl] at hx149_10); (try rw [Addr.add_zero'] at hx149_10); replace p149 := eq_true p149; replace q149 := eq_true q149; have p150 : 0 ≤ (1 : Int) := (by omega); have q150 : 1 < (t145.length : Int) := of_decide_eq_true (by first | (with_reducible assumption) | assumption); obtain ⟨ad150, e150, hx150_0, hx150_1, hx150_2, hx150_3, hx150_4, hx150_5, hx150_6, hx150_7, hx150_8, hx150_9, hx150_10⟩ := at_T79 (Kd.R_reads' HO148.out).2.2 1 p150 q150; obtain rfl : ad149 = ad150 := (by injection e150); (try simp only [show (1 : Int).toNat = 1 from rfl, Nat.reduceMul, Nat.reduceEqDiff, Go.Addr.add, ↓reduceIte] at hx150_0); (try simp only [show (1 : Int).toNat = 1 from rfl, Nat.reduceMul, Nat.reduceEqDiff, Go.Addr.add, ↓reduceIte] at hx150_1); (try simp only [show (1 : Int).toNat = 1 from rfl, Nat.reduceMul, Nat.reduceEqDiff, Go.Addr.add, ↓reduceIte] at hx150_2); (try simp only [show (1 : Int).toNat = 1 from rfl, Nat.reduceMul, Nat.reduceEqDiff, Go.Addr.add, ↓reduceIte] at hx150_3); (try simp only [show (1 : Int).toNat = 1 from rfl, Nat.reduceMul, Nat.reduceEqDiff, Go.Addr.add, ↓reduceIte] at hx150_4); (try simp only [show (1 : Int).toNat = 1 from rfl, Nat.reduceMul, Nat.reduceEqDiff, Go.Addr.add, ↓reduceIte] at hx150_5); (try simp only [show (1 : Int).toNat = 1 from rfl, Nat.reduceMul, Nat.reduceEqDiff, Go.Addr.add, ↓reduceIte] at hx150_6); (try simp only [show (1 : Int).toNat = 1 from rfl, Nat.reduceMul, Nat.reduceEqDiff, Go.Addr.add, ↓reduceIte] at hx150_7); (try simp only [show (1 : Int).toNat = 1 from rfl, Nat.reduceMul, Nat.reduceEqDiff, Go.Addr.add, ↓reduceIte] at hx150_8); (try simp only [show (1 : Int).toNat = 1 from rfl, Nat.reduceMul, Nat.reduceEqDiff, Go.Addr.add, ↓reduceIte] at hx150_9); (try simp only [show (1 : Int).toNat = 1 from rfl, Nat.reduceMul, Nat.reduceEqDiff, Go.Addr.add, ↓reduceIte] at hx150_10); have qi150 : (1 < t145.length) = True := eq_true (by omega); (try rw [show ((1 : Int)).toNat = 1 from rfl] at hx150_0); (try rw [show 1 * 11 = 11 from rfl] at hx150_0); (try rw [show ((1 : Int)).toNat = 1 from rfl] at hx150_1); (try rw [show 1 * 11 = 11 from rfl] at hx150_1); (try rw [show ((1 : Int)).toNat = 1 from rfl] at hx150_2); (try rw [show 1 * 11 = 11 from rfl] at hx150_2); (try rw [show ((1 : Int)).toNat = 1 from rfl] at hx150_3); (try rw [show 1 * 11 = 11 from rfl] at hx150_3); (try rw [show ((1 : Int)).toNat = 1 from rfl] at hx150_4); (try rw [show 1 * 11 = 11 from rfl] at hx150_4); (try rw [show ((1 : Int)).toNat = 1 from rfl] at hx150_5); (try rw [show 1 * 11 = 11 from rfl] at hx150_5); (try rw [show ((1 : Int)).toNat = 1 from rfl] at hx150_6); (try rw [show 1 * 11 = 11 from rfl] at hx150_6); (try rw [show ((1 : Int)).toNat = 1 from rfl] at hx150_7); (try rw [show 1 * 11 = 11 from rfl] at hx150_7); (try rw [show ((1 : Int)).toNat = 1 from rfl] at hx150_8); (try rw [show 1 * 11 = 11 from rfl] at hx150_8); (try rw [show ((1 : Int)).toNat = 1 from rfl] at hx150_9); (try rw [show 1 * 11 = 11 from rfl] at hx150_9); (try rw [show ((1 : Int)).toNat = 1 from rfl] at hx150_10); (try rw [show 1 * 11 = 11 from rfl] at hx150_10); replace p150 := eq_true p150; replace q150 := eq_true q150))
              go_ret
              exact ⟨by first | rfl | (simp [errW_none, errW_some] <;> rfl) | (simp [*, errW_none, errW_some] <;> rfl), by repeat (first | (with_reducible first | exact HB.out | apply below_alloc | apply pw_below_drewN | apply below_drew1) | exact HB.out)⟩
          · rw [if_neg c6] at H
            exact absurd H (by simp)
        · rw [if_neg c5] at H
          have c5b0 : (((rd_T79 t145 0).f1) == 1) = false := beq_eq_false_iff_ne.mpr c5
          have c5b1 : (((rd_T79 t145 0).f1) != 1) = true := bne_iff_ne.mpr c5
          obtain rfl := Option.some.inj H
          go_enter Try.func22, Try.ntmps22
          go_wp2_with (first | ((with_reducible refine gate_dst (N := 8) rfl ?_); (try (refine gate_guard (by rfl) ?_; dsimp only)); refine Kd.R_lit k84 _ 84 ?hg (N := 8) ?hd (xs := ([(⟨0, (⟨1, 1, 1, 0, 0, (⟨#[]⟩ : ByteArray), (⟨false, (⟨#[]⟩ : ByteArray)⟩ : S77), (⟨false, (⟨#[]⟩ : ByteArray)⟩ : S77), 0⟩ : S79)⟩ : S84), (⟨1, (⟨1, 1, 2, 0, 0, (⟨#[]⟩ : ByteArray), (⟨false, (⟨#[]⟩ : ByteArray)⟩ : S77), (⟨false, (⟨#[]⟩ : ByteArray)⟩ : S77), 0⟩ : S79)⟩ : S84)] : List (S84))) (inner := [.int .i64 0, .int .i64 1, .int .i64 1, .int .i64 1, .int .i64 0, .int .i64 0, .string (⟨#[]⟩ : ByteArray), .bool false, .string (⟨#[]⟩ : ByteArray), .bool false, .string (⟨#[]⟩ : ByteArray), .int .i64 0, .int .i64 1, .int .i64 1, .int .i64 1, .int .i64 2, .int .i64 0, .int .i64 0, .string (⟨#[]⟩ : ByteArray), .bool false, .string (⟨#[]⟩ : ByteArray), .bool false, .string (⟨#[]⟩ : ByteArray), .int .i64 0]) (ok := fun _ => True) (okp := fun _ => True) ?hr ?hp (fun _ hk => hk) trivial (Below.refl _ _) (Nat.le_refl _) (by simp) ?_; (case hd => rfl); (case hg => rfl); (case hr => first | (go_simp; done) | (go_simp; rfl)); (case hp => exact (Reps.front (show Kd.M k84 _ _ _ (⟨0, (⟨1, 1, 1, 0, 0, (⟨#[]⟩ : ByteArray), (⟨false, (⟨#[]⟩ : ByteArray)⟩ : S77), (⟨false, (⟨#[]⟩ : ByteArray)⟩ : S77), 0⟩ : S79)⟩ : S84) [.int .i64 0, .int .i64 1, .int .i64 1, .int .i64 1, .int .i64 0, .int .i64 0, .string (⟨#[]⟩ : ByteArray), .bool false, .string (⟨#[]⟩ : ByteArray), .bool false, .string (⟨#[]⟩ : ByteArray), .int .i64 0] from (k84_mkM _ _ _ (⟨0, (⟨1, 1, 1, 0, 0, (⟨#[]⟩ : ByteArray), (⟨false, (⟨#[]⟩ : ByteArray)⟩ : S77), (⟨false, (⟨#[]⟩ : ByteArray)⟩ : S77), 0⟩ : S79)⟩ : S84) )) rfl (Reps.front (show Kd.M k84 _ _ _ (⟨1, (⟨1, 1, 2, 0, 0, (⟨#[]⟩ : ByteArray), (⟨false, (⟨#[]⟩ : ByteArray)⟩ : S77), (⟨false, (⟨#[]⟩ : ByteArray)⟩ : S77), 0⟩ : S79)⟩ : S84) [.int .i64 1, .int .i64 1, .int .i64 1, .int .i64 2, .int .i64 0, .int .i64 0, .string (⟨#[]⟩ : ByteArray), .bool false, .string (⟨#[]⟩ : ByteArray), .bool false, .string (⟨#[]⟩ : ByteArray), .int .i64 0] from (k84_mkM _ _ _ (⟨1, (⟨1, 1, 2, 0, 0, (⟨#[]⟩ : ByteArray), (⟨false, (⟨#[]⟩ : ByteArray)⟩ : S77), (⟨false, (⟨#[]⟩ : ByteArray)⟩ : S77), 0⟩ : S79)⟩ : S84) )) rfl (Reps.none _ _) rfl) rfl)); intro v143 w18 ho19 hb hg_ hnew_; clear hg_ hnew_; (first | rw [← Ny142.out] at ho19 | (simp only [Int.reduceToNat] at ho19; rw [← Ny142.out] at ho19)); have n0_ := Aside0.mk (Kd.R_lower ho19 (below_size (by repeat (first | (with_reducible first | exact HB.out | apply below_alloc | apply pw_below_drewN | apply below_drew1) | exact HB.out)))); have n1_ := Aside0.mk (below_step (by repeat (first | (with_reducible first | exact HB.out | apply below_alloc | apply pw_below_drewN | apply below_drew1) | exact HB.out)) hb); clear HB; have HO144 := n0_; have HB := n1_; clear n0_ n1_; clear hb ho19; obtain ⟨Ao20, co20, eo20⟩ := Kd.R_slice HO144.out; subst eo20) | ((with_reducible refine gate_callee (f := 23) rfl ?_); refine goesL_ (some 9) rfl rfl Try.func23 (by kernel_rfl) rfl #[.slice Ao20 y142.length co20] rfl (by (try simp only [List.map_toArray, List.map_cons, List.map_nil]); first | done | rfl | (simp only [List.length_drop, List.length_take]; rfl)) ?_; (with_reducible refine (single_Number.calls _ _ y142 t145 t146 _ ?side1 ?side2 A1.out).mono ?_); (case side1 => repeat (first | exact (Kd.R_reads' HO144.out).2.2 | (with_reducible refine Kd.C_alloc ?_ _) | (with_reducible refine Kd.C_drewN ?_ _) | (with_reducible refine Kd.C_drew ?_))); (case side2 => exact (Kd.R_reads' HO144.out).2.1); rintro e w21 ⟨v147, rfl, ho0, hb⟩; refine ⟨_, rfl, ?_⟩; have n0_ := Aside0.mk (Kd.R_below (by (with_reducible repeat (first | apply Kd.R_alloc | apply Kd.R_drewN | apply Kd.R_drew)); exact HO144.out) hb); have n1_ := Aside0.mk (Kd.R_lower ho0 (below_size (by repeat (first | (with_reducible first | exact HB.out | apply below_alloc | apply pw_below_drewN | apply below_drew1) | exact HB.out)))); have n2_ := Aside0.mk (below_step (by repeat (first | (with_reducible first | exact HB.out | apply below_alloc | apply pw_below_drewN | apply below_drew1) | exact HB.out)) hb); clear HO144; clear HB; have HO144 := n0_; have HO148 := n1_; have HB := n2_; clear n0_ n1_ n2_; (try clear hb); (try clear hb2); (try clear hk); (try clear hi); (try clear ho0); obtain ⟨Ao22, co22, eo22⟩ := Kd.R_slice HO148.out; subst eo22; have p149 : 0 ≤ (0 : Int) := (by omega); have q149 : 0 < (t145.length : Int) := of_decide_eq_true (by first | (with_reducible assumption) | assumption); obtain ⟨ad149, e149, hx149_0, hx149_1, hx149_2, hx149_3, hx149_4, hx149_5, hx149_6, hx149_7, hx149_8, hx149_9, hx149_10⟩ := at_T79 (Kd.R_reads' HO148.out).2.2 0 p149 q149; cases e149; have qi149 : (0 < t145.length) = True := eq_true (by omega); (try rw [show ((0 : Int)).toNat = 0 from rfl] at hx149_0); (try rw [show 0 * 11 = 0 from rfl] at hx149_0); (try rw [Addr.add_zero'] at hx149_0); (try rw [show ((0 : Int)).toNat = 0 from rfl] at hx149_1); (try rw [show 0 * 11 = 0 from rfl] at hx149_1); (try rw [Addr.add_zero'] at hx149_1); (try rw [show ((0 : Int)).toNat = 0 from rfl] at hx149_2); (try rw [show 0 * 11 = 0 from rfl] at hx149_2); (try rw [Addr.add_zero'] at hx149_2); (try rw [show ((0 : Int)).toNat = 0 from rfl] at hx149_3); (try rw [show 0 * 11 = 0 from rfl] at hx149_3); (try rw [Addr.add_zero'] at hx149_3); (try rw [show ((0 : Int)).toNat = 0 from rfl] at hx149_4); (try rw [show 0 * 11 = 0 from rfl] at hx149_4); (try rw [Addr.add_zero'] at hx149_4); (try rw [show ((0 : Int)).toNat = 0 from rfl] at hx149_5); (try rw [show 0 * 11 = 0 from rfl] at hx149_5); (try rw [Addr.add_zero'] at hx149_5); (try rw [show ((0 : Int)).toNat = 0 from rfl] at hx149_6); (try rw [show 0 * 11 = 0 from rfl] at hx149_6); (try rw [Addr.add_zero'] at hx149_6); (try rw [show ((0 : Int)).toNat = 0 from rfl] at hx149_7); (try rw [show 0 * 11 = 0 from rfl] at hx149_7); (try rw [Addr.add_zero'] at hx149_7); (try rw [show ((0 : Int)).toNat = 0 from rfl] at hx149_8); (try rw [show 0 * 11 = 0 from rfl] at hx149_8); (try rw [Addr.add_zero'] at hx149_8); (try rw [show ((0 : Int)).toNat = 0 from rfl] at hx149_9); (try rw [show 0 * 11 = 0 from rfl] at hx149_9); (try rw [Addr.add_zero'] at hx149_9); (try rw [show ((0 : Int)).toNat = 0 from rfl] at hx149_10); (try rw [show 0 * 11 = 0 from rfl] at hx149_10); (try rw [Addr.add_zero'] at hx149_10); replace p149 := eq_true p149; replace q149 := eq_true q149))
          go_ret
          exact ⟨by first | rfl | (simp [errW_none, errW_some] <;> rfl) | (simp [*, errW_none, errW_some] <;> rfl), by repeat (first | (with_reducible first | exact HB.out | apply below_alloc | apply pw_below_drewN | apply below_drew1) | exact HB.out)⟩
      · rw [if_neg c4] at H
        exact absurd H (by simp)
    · rw [if_neg c3] at H
      have c3b0 : ((t145.length : Int) == 2) = false := beq_eq_false_iff_ne.mpr c3
      have c3b1 : ((t145.length : Int) != 2) = true := bne_iff_ne.mpr c3
      obtain rfl := Option.some.inj H
      go_enter Try.func22, Try.ntmps22
      go_wp2_with (first | ((with_reducible refine gate_dst (N := 8) rfl ?_); (try (refine gate_guard (by rfl) ?_; dsimp only)); refine Kd.R_lit k84 _ 84 ?hg (N := 8) ?hd (xs := ([(⟨0, (⟨1, 1, 1, 0, 0, (⟨#[]⟩ : ByteArray), (⟨false, (⟨#[]⟩ : ByteArray)⟩ : S77), (⟨false, (⟨#[]⟩ : ByteArray)⟩ : S77), 0⟩ : S79)⟩ : S84), (⟨1, (⟨1, 1, 2, 0, 0, (⟨#[]⟩ : ByteArray), (⟨false, (⟨#[]⟩ : ByteArray)⟩ : S77), (⟨false, (⟨#[]⟩ : ByteArray)⟩ : S77), 0⟩ : S79)⟩ : S84)] : List (S84))) (inner := [.int .i64 0, .int .i64 1, .int .i64 1, .int .i64 1, .int .i64 0, .int .i64 0, .string (⟨#[]⟩ : ByteArray), .bool false, .string (⟨#[]⟩ : ByteArray), .bool false, .string (⟨#[]⟩ : ByteArray), .int .i64 0, .int .i64 1, .int .i64 1, .int .i64 1, .int .i64 2, .int .i64 0, .int .i64 0, .string (⟨#[]⟩ : ByteArray), .bool false, .string (⟨#[]⟩ : ByteArray), .bool false, .string (⟨#[]⟩ : ByteArray), .int .i64 0]) (ok := fun _ => True) (okp := fun _ => True) ?hr ?hp (fun _ hk => hk) trivial (Below.refl _ _) (Nat.le_refl _) (by simp) ?_; (case hd => rfl); (case hg => rfl); (case hr => first | (go_simp; done) | (go_simp; rfl)); (case hp => exact (Reps.front (show Kd.M k84 _ _ _ (⟨0, (⟨1, 1, 1, 0, 0, (⟨#[]⟩ : ByteArray), (⟨false, (⟨#[]⟩ : ByteArray)⟩ : S77), (⟨false, (⟨#[]⟩ : ByteArray)⟩ : S77), 0⟩ : S79)⟩ : S84) [.int .i64 0, .int .i64 1, .int .i64 1, .int .i64 1, .int .i64 0, .int .i64 0, .string (⟨#[]⟩ : ByteArray), .bool false, .string (⟨#[]⟩ : ByteArray), .bool false, .string (⟨#[]⟩ : ByteArray), .int .i64 0] from (k84_mkM _ _ _ (⟨0, (⟨1, 1, 1, 0, 0, (⟨#[]⟩ : ByteArray), (⟨false, (⟨#[]⟩ : ByteArray)⟩ : S77), (⟨false, (⟨#[]⟩ : ByteArray)⟩ : S77), 0⟩ : S79)⟩ : S84) )) rfl (Reps.front (show Kd.M k84 _ _ _ (⟨1, (⟨1, 1, 2, 0, 0, (⟨#[]⟩ : ByteArray), (⟨false, (⟨#[]⟩ : ByteArray)⟩ : S77), (⟨false, (⟨#[]⟩ : ByteArray)⟩ : S77), 0⟩ : S79)⟩ : S84) [.int .i64 1, .int .i64 1, .int .i64 1, .int .i64 2, .int .i64 0, .int .i64 0, .string (⟨#[]⟩ : ByteArray), .bool false, .string (⟨#[]⟩ : ByteArray), .bool false, .string (⟨#[]⟩ : ByteArray), .int .i64 0] from (k84_mkM _ _ _ (⟨1, (⟨1, 1, 2, 0, 0, (⟨#[]⟩ : ByteArray), (⟨false, (⟨#[]⟩ : ByteArray)⟩ : S77), (⟨false, (⟨#[]⟩ : ByteArray)⟩ : S77), 0⟩ : S79)⟩ : S84) )) rfl (Reps.none _ _) rfl) rfl)); intro v143 w23 ho24 hb hg_ hnew_; clear hg_ hnew_; (first | rw [← Ny142.out] at ho24 | (simp only [Int.reduceToNat] at ho24; rw [← Ny142.out] at ho24)); have n0_ := Aside0.mk (Kd.R_lower ho24 (below_size (by repeat (first | (with_reducible first | exact HB.out | apply below_alloc | apply pw_below_drewN | apply below_drew1) | exact HB.out)))); have n1_ := Aside0.mk (below_step (by repeat (first | (with_reducible first | exact HB.out | apply below_alloc | apply pw_below_drewN | apply below_drew1) | exact HB.out)) hb); clear HB; have HO144 := n0_; have HB := n1_; clear n0_ n1_; clear hb ho24; obtain ⟨Ao25, co25, eo25⟩ := Kd.R_slice HO144.out; subst eo25) | ((with_reducible refine gate_callee (f := 23) rfl ?_); refine goesL_ (some 9) rfl rfl Try.func23 (by kernel_rfl) rfl #[.slice Ao25 y142.length co25] rfl (by (try simp only [List.map_toArray, List.map_cons, List.map_nil]); first | done | rfl | (simp only [List.length_drop, List.length_take]; rfl)) ?_; (with_reducible refine (single_Number.calls _ _ y142 t145 t146 _ ?side1 ?side2 A1.out).mono ?_); (case side1 => repeat (first | exact (Kd.R_reads' HO144.out).2.2 | (with_reducible refine Kd.C_alloc ?_ _) | (with_reducible refine Kd.C_drewN ?_ _) | (with_reducible refine Kd.C_drew ?_))); (case side2 => exact (Kd.R_reads' HO144.out).2.1); rintro e w26 ⟨v147, rfl, ho0, hb⟩; refine ⟨_, rfl, ?_⟩; have n0_ := Aside0.mk (Kd.R_below (by (with_reducible repeat (first | apply Kd.R_alloc | apply Kd.R_drewN | apply Kd.R_drew)); exact HO144.out) hb); have n1_ := Aside0.mk (Kd.R_lower ho0 (below_size (by repeat (first | (with_reducible first | exact HB.out | apply below_alloc | apply pw_below_drewN | apply below_drew1) | exact HB.out)))); have n2_ := Aside0.mk (below_step (by repeat (first | (with_reducible first | exact HB.out | apply below_alloc | apply pw_below_drewN | apply below_drew1) | exact HB.out)) hb); clear HO144; clear HB; have HO144 := n0_; have HO148 := n1_; have HB := n2_; clear n0_ n1_ n2_; (try clear hb); (try clear hb2); (try clear hk); (try clear hi); (try clear ho0); obtain ⟨Ao27, co27, eo27⟩ := Kd.R_slice HO148.out; subst eo27))
      go_ret
      exact ⟨by first | rfl | (simp [errW_none, errW_some] <;> rfl) | (simp [*, errW_none, errW_some] <;> rfl), by repeat (first | (with_reducible first | exact HB.out | apply below_alloc | apply pw_below_drewN | apply below_drew1) | exact HB.out)⟩
  · rw [if_neg c2] at H
    have c2b0 : (t146 == 0) = false := beq_eq_false_iff_ne.mpr c2
    have c2b1 : (t146 != 0) = true := bne_iff_ne.mpr c2
    obtain rfl := Option.some.inj H
    go_enter Try.func22, Try.ntmps22
    go_wp2_with (first | ((with_reducible refine gate_dst (N := 8) rfl ?_); (try (refine gate_guard (by rfl) ?_; dsimp only)); refine Kd.R_lit k84 _ 84 ?hg (N := 8) ?hd (xs := ([(⟨0, (⟨1, 1, 1, 0, 0, (⟨#[]⟩ : ByteArray), (⟨false, (⟨#[]⟩ : ByteArray)⟩ : S77), (⟨false, (⟨#[]⟩ : ByteArray)⟩ : S77), 0⟩ : S79)⟩ : S84), (⟨1, (⟨1, 1, 2, 0, 0, (⟨#[]⟩ : ByteArray), (⟨false, (⟨#[]⟩ : ByteArray)⟩ : S77), (⟨false, (⟨#[]⟩ : ByteArray)⟩ : S77), 0⟩ : S79)⟩ : S84)] : List (S84))) (inner := [.int .i64 0, .int .i64 1, .int .i64 1, .int .i64 1, .int .i64 0, .int .i64 0, .string (⟨#[]⟩ : ByteArray), .bool false, .string (⟨#[]⟩ : ByteArray), .bool false, .string (⟨#[]⟩ : ByteArray), .int .i64 0, .int .i64 1, .int .i64 1, .int .i64 1, .int .i64 2, .int .i64 0, .int .i64 0, .string (⟨#[]⟩ : ByteArray), .bool false, .string (⟨#[]⟩ : ByteArray), .bool false, .string (⟨#[]⟩ : ByteArray), .int .i64 0]) (ok := fun _ => True) (okp := fun _ => True) ?hr ?hp (fun _ hk => hk) trivial (Below.refl _ _) (Nat.le_refl _) (by simp) ?_; (case hd => rfl); (case hg => rfl); (case hr => first | (go_simp; done) | (go_simp; rfl)); (case hp => exact (Reps.front (show Kd.M k84 _ _ _ (⟨0, (⟨1, 1, 1, 0, 0, (⟨#[]⟩ : ByteArray), (⟨false, (⟨#[]⟩ : ByteArray)⟩ : S77), (⟨false, (⟨#[]⟩ : ByteArray)⟩ : S77), 0⟩ : S79)⟩ : S84) [.int .i64 0, .int .i64 1, .int .i64 1, .int .i64 1, .int .i64 0, .int .i64 0, .string (⟨#[]⟩ : ByteArray), .bool false, .string (⟨#[]⟩ : ByteArray), .bool false, .string (⟨#[]⟩ : ByteArray), .int .i64 0] from (k84_mkM _ _ _ (⟨0, (⟨1, 1, 1, 0, 0, (⟨#[]⟩ : ByteArray), (⟨false, (⟨#[]⟩ : ByteArray)⟩ : S77), (⟨false, (⟨#[]⟩ : ByteArray)⟩ : S77), 0⟩ : S79)⟩ : S84) )) rfl (Reps.front (show Kd.M k84 _ _ _ (⟨1, (⟨1, 1, 2, 0, 0, (⟨#[]⟩ : ByteArray), (⟨false, (⟨#[]⟩ : ByteArray)⟩ : S77), (⟨false, (⟨#[]⟩ : ByteArray)⟩ : S77), 0⟩ : S79)⟩ : S84) [.int .i64 1, .int .i64 1, .int .i64 1, .int .i64 2, .int .i64 0, .int .i64 0, .string (⟨#[]⟩ : ByteArray), .bool false, .string (⟨#[]⟩ : ByteArray), .bool false, .string (⟨#[]⟩ : ByteArray), .int .i64 0] from (k84_mkM _ _ _ (⟨1, (⟨1, 1, 2, 0, 0, (⟨#[]⟩ : ByteArray), (⟨false, (⟨#[]⟩ : ByteArray)⟩ : S77), (⟨false, (⟨#[]⟩ : ByteArray)⟩ : S77), 0⟩ : S79)⟩ : S84) )) rfl (Reps.none _ _) rfl) rfl)); intro v143 w28 ho29 hb hg_ hnew_; clear hg_ hnew_; (first | rw [← Ny142.out] at ho29 | (simp only [Int.reduceToNat] at ho29; rw [← Ny142.out] at ho29)); have n0_ := Aside0.mk (Kd.R_lower ho29 (below_size (by repeat (first | (with_reducible first | exact HB.out | apply below_alloc | apply pw_below_drewN | apply below_drew1) | exact HB.out)))); have n1_ := Aside0.mk (below_step (by repeat (first | (with_reducible first | exact HB.out | apply below_alloc | apply pw_below_drewN | apply below_drew1) | exact HB.out)) hb); clear HB; have HO144 := n0_; have HB := n1_; clear n0_ n1_; clear hb ho29; obtain ⟨Ao30, co30, eo30⟩ := Kd.R_slice HO144.out; subst eo30) | ((with_reducible refine gate_callee (f := 23) rfl ?_); refine goesL_ (some 9) rfl rfl Try.func23 (by kernel_rfl) rfl #[.slice Ao30 y142.length co30] rfl (by (try simp only [List.map_toArray, List.map_cons, List.map_nil]); first | done | rfl | (simp only [List.length_drop, List.length_take]; rfl)) ?_; (with_reducible refine (single_Number.calls _ _ y142 t145 t146 _ ?side1 ?side2 A1.out).mono ?_); (case side1 => repeat (first | exact (Kd.R_reads' HO144.out).2.2 | (with_reducible refine Kd.C_alloc ?_ _) | (with_reducible refine Kd.C_drewN ?_ _) | (with_reducible refine Kd.C_drew ?_))); (case side2 => exact (Kd.R_reads' HO144.out).2.1); rintro e w31 ⟨v147, rfl, ho0, hb⟩; refine ⟨_, rfl, ?_⟩; have n0_ := Aside0.mk (Kd.R_below (by (with_reducible repeat (first | apply Kd.R_alloc | apply Kd.R_drewN | apply Kd.R_drew)); exact HO144.out) hb); have n1_ := Aside0.mk (Kd.R_lower ho0 (below_size (by repeat (first | (with_reducible first | exact HB.out | apply below_alloc | apply pw_below_drewN | apply below_drew1) | exact HB.out)))); have n2_ := Aside0.mk (below_step (by repeat (first | (with_reducible first | exact HB.out | apply below_alloc | apply pw_below_drewN | apply below_drew1) | exact HB.out)) hb); clear HO144; clear HB; have HO144 := n0_; have HO148 := n1_; have HB := n2_; clear n0_ n1_ n2_; (try clear hb); (try clear hb2); (try clear hk); (try clear hi); (try clear ho0)))
    go_ret
    exact ⟨by first | rfl | (simp [errW_none, errW_some] <;> rfl) | (simp [*, errW_none, errW_some] <;> rfl), by repeat (first | (with_reducible first | exact HB.out | apply below_alloc | apply pw_below_drewN | apply below_drew1) | exact HB.out)⟩

/-! ### quadrigalaw18_Of: function 24 -/
def quadrigalaw18_Of.l0 : Nat → List (S81) → List (S84) → Int → Option ((List (S84)))
  | 0, _, _, _ => none
  | k + 1, x0, x3, x4 => if x4 < (x0.length : Int) then (if 0 ≤ x4 then (if x3.length < 1172812402961 then (quadrigalaw18_Of.l0 k x0 (x3 ++ [(⟨(rd_T81 x0 x4).f0, (⟨(rd_T81 x0 x4).f1.f0, (rd_T81 x0 x4).f1.f1, (rd_T81 x0 x4).f1.f2, (rd_T81 x0 x4).f1.f3, (rd_T81 x0 x4).f1.f4, (rd_T81 x0 x4).f1.f5, (⟨(rd_T81 x0 x4).f1.f6.f0, (rd_T81 x0 x4).f1.f6.f1⟩ : S77), (⟨(rd_T81 x0 x4).f1.f7.f0, (rd_T81 x0 x4).f1.f7.f1⟩ : S77), (rd_T81 x0 x4).f1.f8⟩ : S79)⟩ : S84)]) (wrap64 (x4 + 1))) else (none)) else (none)) else (some x3)
def quadrigalaw18_Of.f (k : Nat) (l0 : List (S81)) : Option ((List (S84))) := quadrigalaw18_Of.l0 k l0 ([] : List (S84)) 0
theorem quadrigalaw18_Of.mono_l : ∀ k, (∀ y0 y1 y2, LeO (quadrigalaw18_Of.l0 k y0 y1 y2) (quadrigalaw18_Of.l0 (k + 1) y0 y1 y2))
  | 0 => fun _ _ _ r h => by simp [quadrigalaw18_Of.l0] at h
  | k + 1 => by
    have ih0 := quadrigalaw18_Of.mono_l k
    · intro y0 y1 y2
      unfold quadrigalaw18_Of.l0
      repeat' first
      | (with_reducible exact ih0 _ _ _)
      | (with_reducible exact LeO.refl _)
      | (with_reducible exact LeO.none _)
      | (with_reducible refine LeO.ite ?_ ?_)
      | (with_reducible refine LeO.bind ?_ (fun _ => ?_))
      | exact ih0 _ _ _
      | exact LeO.none _
      | refine LeO.ite ?_ ?_
      | refine LeO.bind ?_ (fun _ => ?_)
theorem quadrigalaw18_Of.mono : ∀ a0 k, LeO (quadrigalaw18_Of.f k a0) (quadrigalaw18_Of.f (k + 1) a0) := by
  intro a0 k
  have ih0 := quadrigalaw18_Of.mono_l k
  unfold quadrigalaw18_Of.f
  repeat' first
      | (with_reducible exact ih0 _ _ _)
      | (with_reducible exact LeO.refl _)
      | (with_reducible exact LeO.none _)
      | (with_reducible refine LeO.ite ?_ ?_)
      | (with_reducible refine LeO.bind ?_ (fun _ => ?_))
      | exact ih0 _ _ _
      | exact LeO.none _
      | refine LeO.ite ?_ ?_
      | refine LeO.bind ?_ (fun _ => ?_)
def quadrigalaw18_Of.T5 : Bool × List (List Nat × List Nat) := (true, [([], []), ([], []), ([], []), ([1, 2], [1, 2]), ([3], [3]), ([4], [4]), ([], []), ([], []), ([6, 7], [6, 7]), ([8], [8]), ([9], [9]), ([5, 10], [5, 10]), ([11], [11]), ([0, 12], [0, 12]), ([13, 13, 0, 1, 2, 3, 4, 5, 6, 7, 8, 9, 10, 11, 12, 13], [0, 13])])
def quadrigalaw18_Of.B5 : List Nat := [0, 0, 0, 6, 14, 30, 0, 0, 192, 448, 960, 2046, 4094, 8191, 16383]
theorem quadrigalaw18_Of.tab5 : rtab .any (opsOf Try.f24 5) = quadrigalaw18_Of.T5 := by kernel_rfl
theorem quadrigalaw18_Of.bits5 : waitsOk quadrigalaw18_Of.T5.2 quadrigalaw18_Of.B5 = true := by kernel_rfl
set_option maxHeartbeats 8000000 in
set_option maxRecDepth 100000 in
theorem quadrigalaw18_Of.calls (k : Nat) (A0 : Option Addr) (c0 : Nat) (l0 : List (S81)) (r : List (S84)) (w : World) (hr0 : Kd.C k81 w A0 l0.length l0) (hc0 : l0.length ≤ c0) (h : quadrigalaw18_Of.f k l0 = some r) :
    Calls Try.prog 24 #[.slice A0 l0.length c0] w fun e w' => ∃ v0_ : Value, e = .returned (v0_) ∧ Kd.R k84 84 w' w.heap.size (fun _ => True) v0_ r ∧ Below w.heap.size w w' := by
  have hu79 := Try.underlying79
  have hu84 := Try.underlying84
  have HR0 := Aside0.mk hr0
  have HC0 := Aside0.mk hc0
  clear hr0 hc0
  have HB := Aside0.mk (Below.refl w.heap.size w)
  have H : (quadrigalaw18_Of.l0 k l0 ([] : List (S84)) 0) = some r := h
  clear h
  have H' := Aside0.mk H
  clear H
  go_enter Try.func24, Try.ntmps24
  go_wp2
  go_loopg [3, 4] k (fun kq v3 v4 w' => ∃ (x3_1 : List (S84)) (x4_1 : Int), v4 = .int .i64 x4_1 ∧ Aside0 (quadrigalaw18_Of.l0 kq l0 x3_1 x4_1 = some r) ∧ Aside0 (kq ≤ k) ∧ Aside0 (Kd.R k84 84 w' w.heap.size (fun _ => True) v3 x3_1) ∧ Aside0 (Below w.heap.size w w'))
  case atStart => exact ⟨(([] : List (S84))), (0), (by first | rfl | (simp; done) | (simp [*]; done)), H', ⟨Nat.le_refl _⟩, ⟨by first | exact Kd.R_nil _ _ _ _ _ | exact Kd.N_nil _ _ _ _ _ | exact Kd.V_nil _ _ _ _ _ | exact Kd.Q_nil _ _ _ _ _ | exact Kd.S_nil _ _ _ _ _⟩, ⟨by repeat (first | (with_reducible first | exact HB.out | apply below_alloc | apply pw_below_drewN | apply below_drew1) | exact HB.out)⟩⟩
  case round =>
    clear H'
    obtain ⟨x3_1, x4_1, rfl, HA, HK1, HO_3, HB⟩ := hrel
    cases gk with
    | zero => exact absurd HA.out (by simp [quadrigalaw18_Of.l0])
    | succ k1 =>
      have H := HA.out
      clear HA
      simp only [quadrigalaw18_Of.l0] at H
      by_cases c2 : x4_1 < (l0.length : Int)
      · rw [if_pos c2] at H
        have c2b0 : decide (x4_1 < (l0.length : Int)) = true := decide_eq_true c2
        clear c2
        by_cases c3 : 0 ≤ x4_1
        · rw [if_pos c3] at H
          have c3b0 : decide (0 ≤ x4_1) = true := decide_eq_true c3
          clear c3
          by_cases c4 : x3_1.length < 1172812402961
          · rw [if_pos c4] at H
            have LMc4 := Aside0.mk c4
            clear c4
            obtain ⟨y154, hy154⟩ : ∃ y_ : List (S84), y_ = (x3_1 ++ [(⟨(rd_T81 l0 x4_1).f0, (⟨(rd_T81 l0 x4_1).f1.f0, (rd_T81 l0 x4_1).f1.f1, (rd_T81 l0 x4_1).f1.f2, (rd_T81 l0 x4_1).f1.f3, (rd_T81 l0 x4_1).f1.f4, (rd_T81 l0 x4_1).f1.f5, (⟨(rd_T81 l0 x4_1).f1.f6.f0, (rd_T81 l0 x4_1).f1.f6.f1⟩ : S77), (⟨(rd_T81 l0 x4_1).f1.f7.f0, (rd_T81 l0 x4_1).f1.f7.f1⟩ : S77), (rd_T81 l0 x4_1).f1.f8⟩ : S79)⟩ : S84)]) := ⟨_, rfl⟩
            replace H : (quadrigalaw18_Of.l0 k1 l0 y154 (wrap64 (x4_1 + 1))) = some r := by first | (rw [hy154]; with_reducible exact H) | (have H2_ := (Option.bind_some _ _).symm.trans H; rw [hy154]; with_reducible exact H2_) | (have H2_ := (Option.bind_some _ _).symm.trans H; with_reducible exact H2_) | with_reducible exact H | (rw [hy154]; exact H) | exact H
            have Ny154 := Aside0.mk hy154
            clear hy154
            have H' := Aside0.mk H
            clear H
            try go_wp2
            have n0_ := Aside0.mk (Kd.R_drew HO_3.out)
            have n1_ := Aside0.mk (below_drew1 HB.out)
            clear HO_3
            clear HB
            have HO_3 := n0_
            have HB := n1_
            clear n0_ n1_
            have p152 : 0 ≤ (x4_1 : Int) := of_decide_eq_true (by first | (with_reducible assumption) | assumption)
            have q152 : x4_1 < (l0.length : Int) := of_decide_eq_true (by first | (with_reducible assumption) | assumption)
            obtain ⟨ad152, e152, hx152_0, hx152_1, hx152_2, hx152_3, hx152_4, hx152_5, hx152_6, hx152_7, hx152_8, hx152_9, hx152_10, hx152_11⟩ := at_T81 HR0.out x4_1 p152 q152
            have hw152_11 := hx152_11
            have hw152_10 := hx152_10
            have hw152_9 := hx152_9
            have hw152_8 := hx152_8
            have hw152_7 := hx152_7
            have hw152_6 := hx152_6
            have hw152_5 := hx152_5
            have hw152_4 := hx152_4
            have hw152_3 := hx152_3
            have hw152_2 := hx152_2
            have hw152_1 := hx152_1
            have hw152_0 := hx152_0
            cases e152
            replace hx152_0 := (HB.out.cell (World.block_lt_of_cell? w _ hx152_0)).trans hx152_0
            replace hx152_1 := (HB.out.cell (World.block_lt_of_cell? w _ hx152_1)).trans hx152_1
            replace hx152_2 := (HB.out.cell (World.block_lt_of_cell? w _ hx152_2)).trans hx152_2
            replace hx152_3 := (HB.out.cell (World.block_lt_of_cell? w _ hx152_3)).trans hx152_3
            replace hx152_4 := (HB.out.cell (World.block_lt_of_cell? w _ hx152_4)).trans hx152_4
            replace hx152_5 := (HB.out.cell (World.block_lt_of_cell? w _ hx152_5)).trans hx152_5
            replace hx152_6 := (HB.out.cell (World.block_lt_of_cell? w _ hx152_6)).trans hx152_6
            replace hx152_7 := (HB.out.cell (World.block_lt_of_cell? w _ hx152_7)).trans hx152_7
            replace hx152_8 := (HB.out.cell (World.block_lt_of_cell? w _ hx152_8)).trans hx152_8
            replace hx152_9 := (HB.out.cell (World.block_lt_of_cell? w _ hx152_9)).trans hx152_9
            replace hx152_10 := (HB.out.cell (World.block_lt_of_cell? w _ hx152_10)).trans hx152_10
            replace hx152_11 := (HB.out.cell (World.block_lt_of_cell? w _ hx152_11)).trans hx152_11
            replace p152 := eq_true p152
            replace q152 := eq_true q152
            have p153 : 0 ≤ (x4_1 : Int) := of_decide_eq_true (by first | (with_reducible assumption) | assumption)
            have q153 : x4_1 < (l0.length : Int) := of_decide_eq_true (by first | (with_reducible assumption) | assumption)
            obtain ⟨ad153, e153, hx153_0, hx153_1, hx153_2, hx153_3, hx153_4, hx153_5, hx153_6, hx153_7, hx153_8, hx153_9, hx153_10, hx153_11⟩ := at_T81 HR0.out x4_1 p153 q153
            have hw153_11 := hx153_11
            have hw153_10 := hx153_10
            have hw153_9 := hx153_9
            have hw153_8 := hx153_8
            have hw153_7 := hx153_7
            have hw153_6 := hx153_6
            have hw153_5 := hx153_5
            have hw153_4 := hx153_4
            have hw153_3 := hx153_3
            have hw153_2 := hx153_2
            have hw153_1 := hx153_1
            have hw153_0 := hx153_0
            obtain rfl : ad152 = ad153 := (by injection e153)
            replace hx153_0 := (HB.out.cell (World.block_lt_of_cell? w _ hx153_0)).trans hx153_0
            replace hx153_1 := (HB.out.cell (World.block_lt_of_cell? w _ hx153_1)).trans hx153_1
            replace hx153_2 := (HB.out.cell (World.block_lt_of_cell? w _ hx153_2)).trans hx153_2
            replace hx153_3 := (HB.out.cell (World.block_lt_of_cell? w _ hx153_3)).trans hx153_3
            replace hx153_4 := (HB.out.cell (World.block_lt_of_cell? w _ hx153_4)).trans hx153_4
            replace hx153_5 := (HB.out.cell (World.block_lt_of_cell? w _ hx153_5)).trans hx153_5
            replace hx153_6 := (HB.out.cell (World.block_lt_of_cell? w _ hx153_6)).trans hx153_6
            replace hx153_7 := (HB.out.cell (World.block_lt_of_cell? w _ hx153_7)).trans hx153_7
            replace hx153_8 := (HB.out.cell (World.block_lt_of_cell? w _ hx153_8)).trans hx153_8
            replace hx153_9 := (HB.out.cell (World.block_lt_of_cell? w _ hx153_9)).trans hx153_9
            replace hx153_10 := (HB.out.cell (World.block_lt_of_cell? w _ hx153_10)).trans hx153_10
            replace hx153_11 := (HB.out.cell (World.block_lt_of_cell? w _ hx153_11)).trans hx153_11
            replace p153 := eq_true p153
            replace q153 := eq_true q153
            refine start_ (n := 15) (S := fun w' => w'.cell? (ad152.add ((x4_1).toNat * 12)) = some (.int .i64 ((rd_T81 l0 x4_1).f0)) ∧ w'.cell? ⟨(ad152.add ((x4_1).toNat * 12)).block, (ad152.add ((x4_1).toNat * 12)).off + 1, none⟩ = some (.int .i64 ((rd_T81 l0 x4_1).f1.f0)) ∧ w'.cell? ⟨(ad152.add ((x4_1).toNat * 12)).block, (ad152.add ((x4_1).toNat * 12)).off + 2, none⟩ = some (.int .i64 ((rd_T81 l0 x4_1).f1.f1)) ∧ w'.cell? ⟨(ad152.add ((x4_1).toNat * 12)).block, (ad152.add ((x4_1).toNat * 12)).off + 3, none⟩ = some (.int .i64 ((rd_T81 l0 x4_1).f1.f2)) ∧ w'.cell? ⟨(ad152.add ((x4_1).toNat * 12)).block, (ad152.add ((x4_1).toNat * 12)).off + 4, none⟩ = some (.int .i64 ((rd_T81 l0 x4_1).f1.f3)) ∧ w'.cell? ⟨(ad152.add ((x4_1).toNat * 12)).block, (ad152.add ((x4_1).toNat * 12)).off + 5, none⟩ = some (.int .i64 ((rd_T81 l0 x4_1).f1.f4)) ∧ w'.cell? ⟨(ad152.add ((x4_1).toNat * 12)).block, (ad152.add ((x4_1).toNat * 12)).off + 6, none⟩ = some (.string ((rd_T81 l0 x4_1).f1.f5)) ∧ w'.cell? ⟨(ad152.add ((x4_1).toNat * 12)).block, (ad152.add ((x4_1).toNat * 12)).off + 7, none⟩ = some (.bool ((rd_T81 l0 x4_1).f1.f6.f0)) ∧ w'.cell? ⟨(ad152.add ((x4_1).toNat * 12)).block, (ad152.add ((x4_1).toNat * 12)).off + 8, none⟩ = some (.string ((rd_T81 l0 x4_1).f1.f6.f1)) ∧ w'.cell? ⟨(ad152.add ((x4_1).toNat * 12)).block, (ad152.add ((x4_1).toNat * 12)).off + 9, none⟩ = some (.bool ((rd_T81 l0 x4_1).f1.f7.f0)) ∧ w'.cell? ⟨(ad152.add ((x4_1).toNat * 12)).block, (ad152.add ((x4_1).toNat * 12)).off + 10, none⟩ = some (.string ((rd_T81 l0 x4_1).f1.f7.f1)) ∧ w'.cell? ⟨(ad152.add ((x4_1).toNat * 12)).block, (ad152.add ((x4_1).toNat * 12)).off + 11, none⟩ = some (.int .i64 ((rd_T81 l0 x4_1).f1.f8)) ∧ w'.cell? (ad152.add ((x4_1).toNat * 12)) = some (.int .i64 ((rd_T81 l0 x4_1).f0)) ∧ w'.cell? ⟨(ad152.add ((x4_1).toNat * 12)).block, (ad152.add ((x4_1).toNat * 12)).off + 1, none⟩ = some (.int .i64 ((rd_T81 l0 x4_1).f1.f0)) ∧ w'.cell? ⟨(ad152.add ((x4_1).toNat * 12)).block, (ad152.add ((x4_1).toNat * 12)).off + 2, none⟩ = some (.int .i64 ((rd_T81 l0 x4_1).f1.f1)) ∧ w'.cell? ⟨(ad152.add ((x4_1).toNat * 12)).block, (ad152.add ((x4_1).toNat * 12)).off + 3, none⟩ = some (.int .i64 ((rd_T81 l0 x4_1).f1.f2)) ∧ w'.cell? ⟨(ad152.add ((x4_1).toNat * 12)).block, (ad152.add ((x4_1).toNat * 12)).off + 4, none⟩ = some (.int .i64 ((rd_T81 l0 x4_1).f1.f3)) ∧ w'.cell? ⟨(ad152.add ((x4_1).toNat * 12)).block, (ad152.add ((x4_1).toNat * 12)).off + 5, none⟩ = some (.int .i64 ((rd_T81 l0 x4_1).f1.f4)) ∧ w'.cell? ⟨(ad152.add ((x4_1).toNat * 12)).block, (ad152.add ((x4_1).toNat * 12)).off + 6, none⟩ = some (.string ((rd_T81 l0 x4_1).f1.f5)) ∧ w'.cell? ⟨(ad152.add ((x4_1).toNat * 12)).block, (ad152.add ((x4_1).toNat * 12)).off + 7, none⟩ = some (.bool ((rd_T81 l0 x4_1).f1.f6.f0)) ∧ w'.cell? ⟨(ad152.add ((x4_1).toNat * 12)).block, (ad152.add ((x4_1).toNat * 12)).off + 8, none⟩ = some (.string ((rd_T81 l0 x4_1).f1.f6.f1)) ∧ w'.cell? ⟨(ad152.add ((x4_1).toNat * 12)).block, (ad152.add ((x4_1).toNat * 12)).off + 9, none⟩ = some (.bool ((rd_T81 l0 x4_1).f1.f7.f0)) ∧ w'.cell? ⟨(ad152.add ((x4_1).toNat * 12)).block, (ad152.add ((x4_1).toNat * 12)).off + 10, none⟩ = some (.string ((rd_T81 l0 x4_1).f1.f7.f1)) ∧ w'.cell? ⟨(ad152.add ((x4_1).toNat * 12)).block, (ad152.add ((x4_1).toNat * 12)).off + 11, none⟩ = some (.int .i64 ((rd_T81 l0 x4_1).f1.f8))) (ds := []) #[false, false, false, false, false, false, false, false, false, false, false, false, false, false, false] (by kernel_rfl) rfl rfl ⟨((HB.out.cell (World.block_lt_of_cell? w _ hw152_0)).trans hw152_0), ((HB.out.cell (World.block_lt_of_cell? w _ hw152_1)).trans hw152_1), ((HB.out.cell (World.block_lt_of_cell? w _ hw152_2)).trans hw152_2), ((HB.out.cell (World.block_lt_of_cell? w _ hw152_3)).trans hw152_3), ((HB.out.cell (World.block_lt_of_cell? w _ hw152_4)).trans hw152_4), ((HB.out.cell (World.block_lt_of_cell? w _ hw152_5)).trans hw152_5), ((HB.out.cell (World.block_lt_of_cell? w _ hw152_6)).trans hw152_6), ((HB.out.cell (World.block_lt_of_cell? w _ hw152_7)).trans hw152_7), ((HB.out.cell (World.block_lt_of_cell? w _ hw152_8)).trans hw152_8), ((HB.out.cell (World.block_lt_of_cell? w _ hw152_9)).trans hw152_9), ((HB.out.cell (World.block_lt_of_cell? w _ hw152_10)).trans hw152_10), ((HB.out.cell (World.block_lt_of_cell? w _ hw152_11)).trans hw152_11), ((HB.out.cell (World.block_lt_of_cell? w _ hw153_0)).trans hw153_0), ((HB.out.cell (World.block_lt_of_cell? w _ hw153_1)).trans hw153_1), ((HB.out.cell (World.block_lt_of_cell? w _ hw153_2)).trans hw153_2), ((HB.out.cell (World.block_lt_of_cell? w _ hw153_3)).trans hw153_3), ((HB.out.cell (World.block_lt_of_cell? w _ hw153_4)).trans hw153_4), ((HB.out.cell (World.block_lt_of_cell? w _ hw153_5)).trans hw153_5), ((HB.out.cell (World.block_lt_of_cell? w _ hw153_6)).trans hw153_6), ((HB.out.cell (World.block_lt_of_cell? w _ hw153_7)).trans hw153_7), ((HB.out.cell (World.block_lt_of_cell? w _ hw153_8)).trans hw153_8), ((HB.out.cell (World.block_lt_of_cell? w _ hw153_9)).trans hw153_9), ((HB.out.cell (World.block_lt_of_cell? w _ hw153_10)).trans hw153_10), ((HB.out.cell (World.block_lt_of_cell? w _ hw153_11)).trans hw153_11)⟩ (fun hHeld => ?_); refine with_tabW quadrigalaw18_Of.tab5 quadrigalaw18_Of.bits5 (fun HT_ HW_ => ?_)
            generalize wr.drew = w5 at HO_3 HB hx152_0 hx152_1 hx152_10 hx152_11 hx152_2 hx152_3 hx152_4 hx152_5 hx152_6 hx152_7 hx152_8 hx152_9 hx153_0 hx153_1 hx153_10 hx153_11 hx153_2 hx153_3 hx153_4 hx153_5 hx153_6 hx153_7 hx153_8 hx153_9 hHeld ⊢
            refine pure_ (i := 0) (N := some 11) (v := ?_) (a' := ?_) #[true, false, false, false, false, false, false, false, false, false, false, false, false, false, false] rfl rfl (any_of HT_.out (by kernel_rfl)) (fun _ _ _ h => h) (Or.inl ⟨by rfl, ?_⟩) ?_ ?_
            rotate_left
            · intro w'
              go_simp
              with_reducible rfl
            rotate_left
            · simp only [Act.put, List.setIfInBounds_toArray, List.set_cons_zero, List.set_cons_succ, i64_w, i32_w]
              rfl
            refine pure_ (i := 1) (N := some 12) (v := ?_) (a' := ?_) #[true, true, false, false, false, false, false, false, false, false, false, false, false, false, false] rfl rfl (any_of HT_.out (by kernel_rfl)) (fun _ _ _ h => h) (Or.inl ⟨by rfl, ?_⟩) ?_ ?_
            rotate_left
            · intro w'
              go_simp
              with_reducible rfl
            rotate_left
            · simp only [Act.put, List.setIfInBounds_toArray, List.set_cons_zero, List.set_cons_succ, i64_w, i32_w]
              rfl
            refine pure_ (i := 2) (N := some 13) (v := ?_) (a' := ?_) #[true, true, true, false, false, false, false, false, false, false, false, false, false, false, false] rfl rfl (any_of HT_.out (by kernel_rfl)) (fun _ _ _ h => h) (Or.inl ⟨by rfl, ?_⟩) ?_ ?_
            rotate_left
            · intro w'
              go_simp
              with_reducible rfl
            rotate_left
            · simp only [Act.put, List.setIfInBounds_toArray, List.set_cons_zero, List.set_cons_succ, i64_w, i32_w]
              rfl
            refine pure_ (i := 3) (N := some 14) (v := ?_) (a' := ?_) #[true, true, true, true, false, false, false, false, false, false, false, false, false, false, false] rfl rfl (any_of HT_.out (by kernel_rfl)) (fun _ _ _ h => h) (Or.inl ⟨by rfl, ?_⟩) ?_ ?_
            rotate_left
            · intro w'
              go_simp
              with_reducible rfl
            rotate_left
            · simp only [Act.put, List.setIfInBounds_toArray, List.set_cons_zero, List.set_cons_succ, i64_w, i32_w]
              rfl
            refine pure_ (i := 4) (N := some 15) (v := ?_) (a' := ?_) #[true, true, true, true, true, false, false, false, false, false, false, false, false, false, false] rfl rfl (any_of HT_.out (by kernel_rfl)) (fun _ _ _ h => h) (Or.inl ⟨by rfl, ?_⟩) ?_ ?_
            rotate_left
            · intro w'
              go_simp
              with_reducible rfl
            rotate_left
            · simp only [Act.put, List.setIfInBounds_toArray, List.set_cons_zero, List.set_cons_succ, i64_w, i32_w]
              rfl
            refine pure_ (i := 6) (N := some 17) (v := ?_) (a' := ?_) #[true, true, true, true, true, false, true, false, false, false, false, false, false, false, false] rfl rfl (any_of HT_.out (by kernel_rfl)) (fun _ _ _ h => h) (Or.inl ⟨by rfl, ?_⟩) ?_ ?_
            rotate_left
            · intro w'
              go_simp
              with_reducible rfl
            rotate_left
            · simp only [Act.put, List.setIfInBounds_toArray, List.set_cons_zero, List.set_cons_succ, i64_w, i32_w]
              rfl
            refine pure_ (i := 7) (N := some 18) (v := ?_) (a' := ?_) #[true, true, true, true, true, false, true, true, false, false, false, false, false, false, false] rfl rfl (any_of HT_.out (by kernel_rfl)) (fun _ _ _ h => h) (Or.inl ⟨by rfl, ?_⟩) ?_ ?_
            rotate_left
            · intro w'
              go_simp
              with_reducible rfl
            rotate_left
            · simp only [Act.put, List.setIfInBounds_toArray, List.set_cons_zero, List.set_cons_succ, i64_w, i32_w]
              rfl
            refine pure_ (i := 8) (N := some 19) (v := ?_) (a' := ?_) #[true, true, true, true, true, false, true, true, true, false, false, false, false, false, false] rfl rfl (any_of HT_.out (by kernel_rfl)) (fun _ _ _ h => h) (Or.inl ⟨by rfl, ?_⟩) ?_ ?_
            rotate_left
            · intro w'
              go_simp
              with_reducible rfl
            rotate_left
            · simp only [Act.put, List.setIfInBounds_toArray, List.set_cons_zero, List.set_cons_succ, i64_w, i32_w]
              rfl
            refine pure_ (i := 9) (N := some 20) (v := ?_) (a' := ?_) #[true, true, true, true, true, false, true, true, true, true, false, false, false, false, false] rfl rfl (any_of HT_.out (by kernel_rfl)) (fun _ _ _ h => h) (Or.inl ⟨by rfl, ?_⟩) ?_ ?_
            rotate_left
            · intro w'
              go_simp
              with_reducible rfl
            rotate_left
            · simp only [Act.put, List.setIfInBounds_toArray, List.set_cons_zero, List.set_cons_succ, i64_w, i32_w]
              rfl
            refine take_ (i := 5) (N := some 16) (v := ?_) (a' := ?_) #[true, true, true, true, true, true, true, true, true, true, false, false, false, false, false] rfl rfl (take_ofW HT_.out HW_.out (by kernel_rfl)) (fun _ _ _ h => h) (Or.inl ⟨by rfl, ?_⟩) hHeld ?_ ?_
            rotate_left
            · rintro w' ⟨s0, s1, s2, s3, s4, s5, s6, s7, s8, s9, s10, s11, s12, s13, s14, s15, s16, s17, s18, s19, s20, s21, s22, s23⟩
              go_simp
              with_reducible rfl
            rotate_left
            · simp only [Act.put, List.setIfInBounds_toArray, List.set_cons_zero, List.set_cons_succ, i64_w, i32_w]
              rfl
            refine take_ (i := 10) (N := some 21) (v := ?_) (a' := ?_) #[true, true, true, true, true, true, true, true, true, true, true, false, false, false, false] rfl rfl (take_ofW HT_.out HW_.out (by kernel_rfl)) (fun _ _ _ h => h) (Or.inl ⟨by rfl, ?_⟩) hHeld ?_ ?_
            rotate_left
            · rintro w' ⟨s0, s1, s2, s3, s4, s5, s6, s7, s8, s9, s10, s11, s12, s13, s14, s15, s16, s17, s18, s19, s20, s21, s22, s23⟩
              go_simp
              with_reducible rfl
            rotate_left
            · simp only [Act.put, List.setIfInBounds_toArray, List.set_cons_zero, List.set_cons_succ, i64_w, i32_w]
              rfl
            refine pure_ (i := 11) (N := some 22) (v := ?_) (a' := ?_) #[true, true, true, true, true, true, true, true, true, true, true, true, false, false, false] rfl rfl (any_of HT_.out (by kernel_rfl)) (fun _ _ _ h => h) (Or.inl ⟨by rfl, ?_⟩) ?_ ?_
            rotate_left
            · intro w'
              go_simp
              with_reducible rfl
            rotate_left
            · simp only [Act.put, List.setIfInBounds_toArray, List.set_cons_zero, List.set_cons_succ, i64_w, i32_w]
              rfl
            refine one_ (i := 12) (N := some 23) #[true, true, true, true, true, true, true, true, true, true, true, true, true, false, false] rfl rfl (one_of HT_.out (by kernel_rfl)) (by decide) (fun K hK => ?_)
            refine value_ (w1 := ?_) (v := ?_) (by rfl) rfl ?_ ?_
            rotate_left 2
            · go_simp
              constructor
              · rfl
              · rfl
            refine hK.out _ _ ⟨(World.cell?_alloc_lt _ _ _ (World.block_lt_of_cell? _ _ (((HB.out.cell (World.block_lt_of_cell? w _ hw152_0)).trans hw152_0)))).trans (((HB.out.cell (World.block_lt_of_cell? w _ hw152_0)).trans hw152_0)), (World.cell?_alloc_lt _ _ _ (World.block_lt_of_cell? _ _ (((HB.out.cell (World.block_lt_of_cell? w _ hw152_1)).trans hw152_1)))).trans (((HB.out.cell (World.block_lt_of_cell? w _ hw152_1)).trans hw152_1)), (World.cell?_alloc_lt _ _ _ (World.block_lt_of_cell? _ _ (((HB.out.cell (World.block_lt_of_cell? w _ hw152_2)).trans hw152_2)))).trans (((HB.out.cell (World.block_lt_of_cell? w _ hw152_2)).trans hw152_2)), (World.cell?_alloc_lt _ _ _ (World.block_lt_of_cell? _ _ (((HB.out.cell (World.block_lt_of_cell? w _ hw152_3)).trans hw152_3)))).trans (((HB.out.cell (World.block_lt_of_cell? w _ hw152_3)).trans hw152_3)), (World.cell?_alloc_lt _ _ _ (World.block_lt_of_cell? _ _ (((HB.out.cell (World.block_lt_of_cell? w _ hw152_4)).trans hw152_4)))).trans (((HB.out.cell (World.block_lt_of_cell? w _ hw152_4)).trans hw152_4)), (World.cell?_alloc_lt _ _ _ (World.block_lt_of_cell? _ _ (((HB.out.cell (World.block_lt_of_cell? w _ hw152_5)).trans hw152_5)))).trans (((HB.out.cell (World.block_lt_of_cell? w _ hw152_5)).trans hw152_5)), (World.cell?_alloc_lt _ _ _ (World.block_lt_of_cell? _ _ (((HB.out.cell (World.block_lt_of_cell? w _ hw152_6)).trans hw152_6)))).trans (((HB.out.cell (World.block_lt_of_cell? w _ hw152_6)).trans hw152_6)), (World.cell?_alloc_lt _ _ _ (World.block_lt_of_cell? _ _ (((HB.out.cell (World.block_lt_of_cell? w _ hw152_7)).trans hw152_7)))).trans (((HB.out.cell (World.block_lt_of_cell? w _ hw152_7)).trans hw152_7)), (World.cell?_alloc_lt _ _ _ (World.block_lt_of_cell? _ _ (((HB.out.cell (World.block_lt_of_cell? w _ hw152_8)).trans hw152_8)))).trans (((HB.out.cell (World.block_lt_of_cell? w _ hw152_8)).trans hw152_8)), (World.cell?_alloc_lt _ _ _ (World.block_lt_of_cell? _ _ (((HB.out.cell (World.block_lt_of_cell? w _ hw152_9)).trans hw152_9)))).trans (((HB.out.cell (World.block_lt_of_cell? w _ hw152_9)).trans hw152_9)), (World.cell?_alloc_lt _ _ _ (World.block_lt_of_cell? _ _ (((HB.out.cell (World.block_lt_of_cell? w _ hw152_10)).trans hw152_10)))).trans (((HB.out.cell (World.block_lt_of_cell? w _ hw152_10)).trans hw152_10)), (World.cell?_alloc_lt _ _ _ (World.block_lt_of_cell? _ _ (((HB.out.cell (World.block_lt_of_cell? w _ hw152_11)).trans hw152_11)))).trans (((HB.out.cell (World.block_lt_of_cell? w _ hw152_11)).trans hw152_11)), (World.cell?_alloc_lt _ _ _ (World.block_lt_of_cell? _ _ (((HB.out.cell (World.block_lt_of_cell? w _ hw153_0)).trans hw153_0)))).trans (((HB.out.cell (World.block_lt_of_cell? w _ hw153_0)).trans hw153_0)), (World.cell?_alloc_lt _ _ _ (World.block_lt_of_cell? _ _ (((HB.out.cell (World.block_lt_of_cell? w _ hw153_1)).trans hw153_1)))).trans (((HB.out.cell (World.block_lt_of_cell? w _ hw153_1)).trans hw153_1)), (World.cell?_alloc_lt _ _ _ (World.block_lt_of_cell? _ _ (((HB.out.cell (World.block_lt_of_cell? w _ hw153_2)).trans hw153_2)))).trans (((HB.out.cell (World.block_lt_of_cell? w _ hw153_2)).trans hw153_2)), (World.cell?_alloc_lt _ _ _ (World.block_lt_of_cell? _ _ (((HB.out.cell (World.block_lt_of_cell? w _ hw153_3)).trans hw153_3)))).trans (((HB.out.cell (World.block_lt_of_cell? w _ hw153_3)).trans hw153_3)), (World.cell?_alloc_lt _ _ _ (World.block_lt_of_cell? _ _ (((HB.out.cell (World.block_lt_of_cell? w _ hw153_4)).trans hw153_4)))).trans (((HB.out.cell (World.block_lt_of_cell? w _ hw153_4)).trans hw153_4)), (World.cell?_alloc_lt _ _ _ (World.block_lt_of_cell? _ _ (((HB.out.cell (World.block_lt_of_cell? w _ hw153_5)).trans hw153_5)))).trans (((HB.out.cell (World.block_lt_of_cell? w _ hw153_5)).trans hw153_5)), (World.cell?_alloc_lt _ _ _ (World.block_lt_of_cell? _ _ (((HB.out.cell (World.block_lt_of_cell? w _ hw153_6)).trans hw153_6)))).trans (((HB.out.cell (World.block_lt_of_cell? w _ hw153_6)).trans hw153_6)), (World.cell?_alloc_lt _ _ _ (World.block_lt_of_cell? _ _ (((HB.out.cell (World.block_lt_of_cell? w _ hw153_7)).trans hw153_7)))).trans (((HB.out.cell (World.block_lt_of_cell? w _ hw153_7)).trans hw153_7)), (World.cell?_alloc_lt _ _ _ (World.block_lt_of_cell? _ _ (((HB.out.cell (World.block_lt_of_cell? w _ hw153_8)).trans hw153_8)))).trans (((HB.out.cell (World.block_lt_of_cell? w _ hw153_8)).trans hw153_8)), (World.cell?_alloc_lt _ _ _ (World.block_lt_of_cell? _ _ (((HB.out.cell (World.block_lt_of_cell? w _ hw153_9)).trans hw153_9)))).trans (((HB.out.cell (World.block_lt_of_cell? w _ hw153_9)).trans hw153_9)), (World.cell?_alloc_lt _ _ _ (World.block_lt_of_cell? _ _ (((HB.out.cell (World.block_lt_of_cell? w _ hw153_10)).trans hw153_10)))).trans (((HB.out.cell (World.block_lt_of_cell? w _ hw153_10)).trans hw153_10)), (World.cell?_alloc_lt _ _ _ (World.block_lt_of_cell? _ _ (((HB.out.cell (World.block_lt_of_cell? w _ hw153_11)).trans hw153_11)))).trans (((HB.out.cell (World.block_lt_of_cell? w _ hw153_11)).trans hw153_11))⟩ (fun hHeld => ?_)
            clear hK K
            refine norm_ (a' := ?_) ?_ ?_
            rotate_left
            · show Act.put _ (some 23) _ = _
              simp only [Act.put, List.setIfInBounds_toArray, List.set_cons_zero, List.set_cons_succ, i64_w, i32_w]
              rfl
            refine one_ (i := 13) (N := some 24) #[true, true, true, true, true, true, true, true, true, true, true, true, true, true, false] rfl rfl (one_of HT_.out (by kernel_rfl)) (by decide) (fun K hK => ?_)
            refine Kd.R_append_step k84 (w0 := w) w.heap.size (by rfl) (.tmp 11) (.tmp 23) 59 84 (.agg #[(.int .i64 0), (.int .i64 0), (.int .i64 0), (.int .i64 0), (.int .i64 0), (.int .i64 0), (.string ⟨#[]⟩), (.bool false), (.string ⟨#[]⟩), (.bool false), (.string ⟨#[]⟩), (.int .i64 0)]) 120 rfl Try.underlying59 info84 rfl (by decide) (by omega) u3 x3_1 (⟨(rd_T81 l0 x4_1).f0, (⟨(rd_T81 l0 x4_1).f1.f0, (rd_T81 l0 x4_1).f1.f1, (rd_T81 l0 x4_1).f1.f2, (rd_T81 l0 x4_1).f1.f3, (rd_T81 l0 x4_1).f1.f4, (rd_T81 l0 x4_1).f1.f5, (⟨(rd_T81 l0 x4_1).f1.f6.f0, (rd_T81 l0 x4_1).f1.f6.f1⟩ : S77), (⟨(rd_T81 l0 x4_1).f1.f7.f0, (rd_T81 l0 x4_1).f1.f7.f1⟩ : S77), (rd_T81 l0 x4_1).f1.f8⟩ : S79)⟩ : S84) [.int .i64 ((rd_T81 l0 x4_1).f0), .int .i64 ((rd_T81 l0 x4_1).f1.f0), .int .i64 ((rd_T81 l0 x4_1).f1.f1), .int .i64 ((rd_T81 l0 x4_1).f1.f2), .int .i64 ((rd_T81 l0 x4_1).f1.f3), .int .i64 ((rd_T81 l0 x4_1).f1.f4), .string ((rd_T81 l0 x4_1).f1.f5), .bool ((rd_T81 l0 x4_1).f1.f6.f0), .string ((rd_T81 l0 x4_1).f1.f6.f1), .bool ((rd_T81 l0 x4_1).f1.f7.f0), .string ((rd_T81 l0 x4_1).f1.f7.f1), .int .i64 ((rd_T81 l0 x4_1).f1.f8)] (fun _ => True) (fun _ => False) rfl rfl ?aP (fun _ hk => hk.elim) ?aF ?aO ?aB ?aS ?aL ?_
            (case aP => exact k84_mkM _ _ _ (⟨(rd_T81 l0 x4_1).f0, (⟨(rd_T81 l0 x4_1).f1.f0, (rd_T81 l0 x4_1).f1.f1, (rd_T81 l0 x4_1).f1.f2, (rd_T81 l0 x4_1).f1.f3, (rd_T81 l0 x4_1).f1.f4, (rd_T81 l0 x4_1).f1.f5, (⟨(rd_T81 l0 x4_1).f1.f6.f0, (rd_T81 l0 x4_1).f1.f6.f1⟩ : S77), (⟨(rd_T81 l0 x4_1).f1.f7.f0, (rd_T81 l0 x4_1).f1.f7.f1⟩ : S77), (rd_T81 l0 x4_1).f1.f8⟩ : S79)⟩ : S84))
            (case aB => exact (by repeat (first | (with_reducible first | exact HB.out | apply below_alloc | apply pw_below_drewN | apply below_drew1) | exact HB.out)))
            (case aF => exact (fun _ _ => trivial))
            (case aO => exact (by (with_reducible repeat (first | apply Kd.R_alloc | apply Kd.R_drewN | apply Kd.R_drew)); exact HO_3.out))
            (case aS => exact (below_size (by repeat (first | (with_reducible first | exact HB.out | apply below_alloc | apply pw_below_drewN | apply below_drew1) | exact HB.out))))
            (case aL => have := LMc4.out; omega)
            intro v155 w6 ho hb hg hat
            rw [← Ny154.out] at ho
            have n0_ := Aside0.mk (hb)
            have n1_ := Aside0.mk (ho)
            clear HB
            clear HO_3
            have HB := n0_
            have HO156 := n1_
            clear n0_ n1_
            clear ho hb hg hat
            refine hK.out _ _ ⟨((HB.out.cell (World.block_lt_of_cell? w _ hw152_0)).trans hw152_0), ((HB.out.cell (World.block_lt_of_cell? w _ hw152_1)).trans hw152_1), ((HB.out.cell (World.block_lt_of_cell? w _ hw152_2)).trans hw152_2), ((HB.out.cell (World.block_lt_of_cell? w _ hw152_3)).trans hw152_3), ((HB.out.cell (World.block_lt_of_cell? w _ hw152_4)).trans hw152_4), ((HB.out.cell (World.block_lt_of_cell? w _ hw152_5)).trans hw152_5), ((HB.out.cell (World.block_lt_of_cell? w _ hw152_6)).trans hw152_6), ((HB.out.cell (World.block_lt_of_cell? w _ hw152_7)).trans hw152_7), ((HB.out.cell (World.block_lt_of_cell? w _ hw152_8)).trans hw152_8), ((HB.out.cell (World.block_lt_of_cell? w _ hw152_9)).trans hw152_9), ((HB.out.cell (World.block_lt_of_cell? w _ hw152_10)).trans hw152_10), ((HB.out.cell (World.block_lt_of_cell? w _ hw152_11)).trans hw152_11), ((HB.out.cell (World.block_lt_of_cell? w _ hw153_0)).trans hw153_0), ((HB.out.cell (World.block_lt_of_cell? w _ hw153_1)).trans hw153_1), ((HB.out.cell (World.block_lt_of_cell? w _ hw153_2)).trans hw153_2), ((HB.out.cell (World.block_lt_of_cell? w _ hw153_3)).trans hw153_3), ((HB.out.cell (World.block_lt_of_cell? w _ hw153_4)).trans hw153_4), ((HB.out.cell (World.block_lt_of_cell? w _ hw153_5)).trans hw153_5), ((HB.out.cell (World.block_lt_of_cell? w _ hw153_6)).trans hw153_6), ((HB.out.cell (World.block_lt_of_cell? w _ hw153_7)).trans hw153_7), ((HB.out.cell (World.block_lt_of_cell? w _ hw153_8)).trans hw153_8), ((HB.out.cell (World.block_lt_of_cell? w _ hw153_9)).trans hw153_9), ((HB.out.cell (World.block_lt_of_cell? w _ hw153_10)).trans hw153_10), ((HB.out.cell (World.block_lt_of_cell? w _ hw153_11)).trans hw153_11)⟩ (fun hHeld => ?_)
            clear hK K
            refine norm_ (a' := ?_) ?_ ?_
            rotate_left
            · show Act.put _ (some 24) _ = _
              simp only [Act.put, List.setIfInBounds_toArray, List.set_cons_zero, List.set_cons_succ, i64_w, i32_w]
              rfl
            refine pure_ (i := 14) (N := some 3) (v := ?_) (a' := ?_) #[true, true, true, true, true, true, true, true, true, true, true, true, true, true, true] rfl rfl (any_of HT_.out (by kernel_rfl)) (fun _ _ _ h => h) (Or.inl ⟨by rfl, ?_⟩) ?_ ?_
            rotate_left
            · intro w'
              go_simp
              with_reducible rfl
            rotate_left
            · simp only [Act.put, List.setIfInBounds_toArray, List.set_cons_zero, List.set_cons_succ, i64_w, i32_w]
              rfl
            refine done_ (done_of HT_.out (by kernel_rfl)) ?_
            try go_wp2
            go_roundg k1
            case measure => have := HK1.out; omega
            case rel => exact ⟨(y154), (wrap64 (x4_1 + 1)), (by first | rfl | (simp; done) | (simp [*]; done)), H', ⟨by have := HK1.out; omega⟩, ⟨by (with_reducible repeat (first | apply Kd.R_alloc | apply Kd.R_drewN | apply Kd.R_drew)); exact HO156.out⟩, ⟨by repeat (first | (with_reducible first | exact HB.out | apply below_alloc | apply pw_below_drewN | apply below_drew1) | exact HB.out)⟩⟩
          · rw [if_neg c4] at H
            exact absurd H (by simp)
        · rw [if_neg c3] at H
          exact absurd H (by simp)
      · rw [if_neg c2] at H
        have c2b0 : decide (x4_1 < (l0.length : Int)) = false := decide_eq_false c2
        clear c2
        obtain rfl := Option.some.inj H
        go_wp2
        go_ret
        exact ⟨_, by first | rfl | (simp [errW_none, errW_some] <;> rfl) | (simp [*, errW_none, errW_some] <;> rfl), by (with_reducible repeat (first | apply Kd.R_alloc | apply Kd.R_drewN | apply Kd.R_drew)); exact HO_3.out, by repeat (first | (with_reducible first | exact HB.out | apply below_alloc | apply pw_below_drewN | apply below_drew1) | exact HB.out)⟩

/-! ### quadrigaref04_page: function 49 -/
def quadrigaref04_page.f (a0 : Int) : Option (Bool) := if a0 = 2 then (some true) else (some (a0 == 3))
set_option maxHeartbeats 8000000 in
set_option maxRecDepth 100000 in
theorem quadrigaref04_page.calls (a0 : Int) (r : Bool) (w : World) (h : quadrigaref04_page.f a0 = some r) :
    Calls Try.prog 49 #[.int .i64 a0] w fun e w' => e = .returned (.bool r) ∧ Drawn0 w w' := by
  have H : (if a0 = 2 then (some true) else (some (a0 == 3))) = some r := h
  clear h
  by_cases c2 : a0 = 2
  · rw [if_pos c2] at H
    have c2b0 : (a0 == 2) = true := beq_iff_eq.mpr c2
    have c2b1 : (a0 != 2) = false := bne_eq_false_iff_eq.mpr c2
    clear c2
    obtain rfl := Option.some.inj H
    go_enter Try.func49, Try.ntmps49
    go_wp2
    go_ret
    exact ⟨by first | rfl | (simp; done) | (simp [*]; done), by repeat (first | exact Drawn0.refl _ | apply Drawn0.step)⟩
  · rw [if_neg c2] at H
    have c2b0 : (a0 == 2) = false := beq_eq_false_iff_ne.mpr c2
    have c2b1 : (a0 != 2) = true := bne_iff_ne.mpr c2
    obtain rfl := Option.some.inj H
    go_enter Try.func49, Try.ntmps49
    go_wp2
    go_ret
    exact ⟨by first | rfl | (simp; done) | (simp [*]; done), by repeat (first | exact Drawn0.refl _ | apply Drawn0.step)⟩

/-! ### quadrigaref04_Key: function 50 -/
def quadrigaref04_Key.f (a0 : ByteArray) : Option (Bool) := if (a0.size : Int) ≥ 1 then (some (decide ((a0.size : Int) ≤ 8))) else (some false)
set_option maxHeartbeats 8000000 in
set_option maxRecDepth 100000 in
theorem quadrigaref04_Key.calls (a0 : ByteArray) (r : Bool) (w : World) (h : quadrigaref04_Key.f a0 = some r) :
    Calls Try.prog 50 #[.string a0] w fun e w' => e = .returned (.bool r) ∧ Drawn0 w w' := by
  have H : (if (a0.size : Int) ≥ 1 then (some (decide ((a0.size : Int) ≤ 8))) else (some false)) = some r := h
  clear h
  by_cases c2 : (a0.size : Int) ≥ 1
  · rw [if_pos c2] at H
    have c2b0 : decide (1 ≤ (a0.size : Int)) = true := decide_eq_true c2
    have c2b1 : decide (1 ≤ a0.size) = true := decide_eq_true (by omega)
    clear c2
    obtain rfl := Option.some.inj H
    go_enter Try.func50, Try.ntmps50
    go_wp2
    go_ret
    exact ⟨by first | rfl | (simp; done) | (simp [*]; done), by repeat (first | exact Drawn0.refl _ | apply Drawn0.step)⟩
  · rw [if_neg c2] at H
    have c2b0 : decide (1 ≤ (a0.size : Int)) = false := decide_eq_false c2
    have c2b1 : decide (1 ≤ a0.size) = false := decide_eq_false (by omega)
    clear c2
    obtain rfl := Option.some.inj H
    go_enter Try.func50, Try.ntmps50
    go_wp2
    go_ret
    exact ⟨by first | rfl | (simp; done) | (simp [*]; done), by repeat (first | exact Drawn0.refl _ | apply Drawn0.step)⟩

/-! ### quadrigaref04_Value: function 51 -/
def quadrigaref04_Value.f (a0_0 : Bool) (a0_1 : ByteArray) : Option (Bool) := if (a0_1.size : Int) ≤ 16 then (if a0_0 = true then (some true) else (some (a0_1.toList == ([] : List UInt8)))) else (some false)
set_option maxHeartbeats 8000000 in
set_option maxRecDepth 100000 in
theorem quadrigaref04_Value.calls (a0_0 : Bool) (a0_1 : ByteArray) (r : Bool) (w : World) (h : quadrigaref04_Value.f a0_0 a0_1 = some r) :
    Calls Try.prog 51 #[.agg #[.bool a0_0, .string a0_1]] w fun e w' => e = .returned (.bool r) ∧ Below w.heap.size w w' := by
  have hu77 := Try.underlying77
  have HB := Aside0.mk (Below.refl w.heap.size w)
  have H : (if (a0_1.size : Int) ≤ 16 then (if a0_0 = true then (some true) else (some (a0_1.toList == ([] : List UInt8)))) else (some false)) = some r := h
  clear h
  by_cases c2 : (a0_1.size : Int) ≤ 16
  · rw [if_pos c2] at H
    have c2b0 : decide ((a0_1.size : Int) ≤ 16) = true := decide_eq_true c2
    have c2b1 : decide (a0_1.size ≤ 16) = true := decide_eq_true (by omega)
    clear c2
    by_cases c3 : a0_0 = true
    · subst c3
      have H1 : (some true) = some r := by rw [if_pos rfl] at H; exact H
      clear H
      have H := H1
      clear H1
      obtain rfl := Option.some.inj H
      go_enter Try.func51, Try.ntmps51
      go_wp2_with (first | ((with_reducible refine gate_dst (N := 1) rfl ?_); refine box_event ?hg (N := 1) ?hd (cs := #[.bool true, .string a0_1]) (t := 77) ?hr ?_; (case hd => rfl); (case hg => rfl); (case hr => first | (go_simp; done) | (go_simp; rfl)); intro gb157 hg w4 hbox hb; have n0_ := Aside0.mk (below_step (by repeat (first | (with_reducible first | exact HB.out | apply below_alloc | apply pw_below_drewN | apply below_drew1) | exact HB.out)) hb); have n1_ := Aside0.mk (hbox); have n2_ := Aside0.mk ((by rw [hg]; exact (below_size (by repeat (first | (with_reducible first | exact HB.out | apply below_alloc | apply pw_below_drewN | apply below_drew1) | exact HB.out))) : w.heap.size ≤ gb157)); have n3_ := Aside0.mk ((by rw [hg]; exact (below_size (by repeat (first | (with_reducible first | exact HB.out | apply below_alloc | apply pw_below_drewN | apply below_drew1) | exact HB.out))) : w.heap.size ≤ gb157)); clear HB; have HB := n0_; have BK157 := n1_; have GW157 := n2_; have GE157 := n3_; clear n0_ n1_ n2_ n3_; clear hb hbox hg; have hcz5_0 : w4.cell? ⟨gb157, 0, none⟩ = some (.bool true) := (blk_cell BK157.out 0).trans rfl; have hcz5_1 : w4.cell? ⟨gb157, 1, none⟩ = some (.string a0_1) := (blk_cell BK157.out 1).trans rfl; have hfz5_0 := blk_frozen BK157.out 0; have hfz5_1 := blk_frozen BK157.out 1))
      go_ret
      exact ⟨by first | rfl | (simp [errW_none, errW_some] <;> rfl) | (simp [*, errW_none, errW_some] <;> rfl), by repeat (first | (with_reducible first | exact HB.out | apply below_alloc | apply pw_below_drewN | apply below_drew1 | refine below_set ?_ GE157.out) | exact HB.out)⟩
    · replace c3 := Bool.eq_false_iff.mpr c3
      subst c3
      have H1 : (some (a0_1.toList == ([] : List UInt8))) = some r := by rw [if_neg (show ¬ (false = true) by decide)] at H; exact H
      clear H
      have H := H1
      clear H1
      obtain rfl := Option.some.inj H
      go_enter Try.func51, Try.ntmps51
      go_wp2_with (first | ((with_reducible refine gate_dst (N := 1) rfl ?_); refine box_event ?hg (N := 1) ?hd (cs := #[.bool false, .string a0_1]) (t := 77) ?hr ?_; (case hd => rfl); (case hg => rfl); (case hr => first | (go_simp; done) | (go_simp; rfl)); intro gb157 hg w6 hbox hb; have n0_ := Aside0.mk (below_step (by repeat (first | (with_reducible first | exact HB.out | apply below_alloc | apply pw_below_drewN | apply below_drew1) | exact HB.out)) hb); have n1_ := Aside0.mk (hbox); have n2_ := Aside0.mk ((by rw [hg]; exact (below_size (by repeat (first | (with_reducible first | exact HB.out | apply below_alloc | apply pw_below_drewN | apply below_drew1) | exact HB.out))) : w.heap.size ≤ gb157)); have n3_ := Aside0.mk ((by rw [hg]; exact (below_size (by repeat (first | (with_reducible first | exact HB.out | apply below_alloc | apply pw_below_drewN | apply below_drew1) | exact HB.out))) : w.heap.size ≤ gb157)); clear HB; have HB := n0_; have BK157 := n1_; have GW157 := n2_; have GE157 := n3_; clear n0_ n1_ n2_ n3_; clear hb hbox hg; have hcz7_0 : w6.cell? ⟨gb157, 0, none⟩ = some (.bool false) := (blk_cell BK157.out 0).trans rfl; have hcz7_1 : w6.cell? ⟨gb157, 1, none⟩ = some (.string a0_1) := (blk_cell BK157.out 1).trans rfl; have hfz7_0 := blk_frozen BK157.out 0; have hfz7_1 := blk_frozen BK157.out 1))
      go_ret
      exact ⟨by first | rfl | (simp [errW_none, errW_some] <;> rfl) | (simp [*, errW_none, errW_some] <;> rfl), by repeat (first | (with_reducible first | exact HB.out | apply below_alloc | apply pw_below_drewN | apply below_drew1 | refine below_set ?_ GE157.out) | exact HB.out)⟩
  · rw [if_neg c2] at H
    have c2b0 : decide ((a0_1.size : Int) ≤ 16) = false := decide_eq_false c2
    have c2b1 : decide (a0_1.size ≤ 16) = false := decide_eq_false (by omega)
    clear c2
    obtain rfl := Option.some.inj H
    go_enter Try.func51, Try.ntmps51
    go_wp2_with (first | ((with_reducible refine gate_dst (N := 1) rfl ?_); refine box_event ?hg (N := 1) ?hd (cs := #[.bool a0_0, .string a0_1]) (t := 77) ?hr ?_; (case hd => rfl); (case hg => rfl); (case hr => first | (go_simp; done) | (go_simp; rfl)); intro gb157 hg w8 hbox hb; have n0_ := Aside0.mk (below_step (by repeat (first | (with_reducible first | exact HB.out | apply below_alloc | apply pw_below_drewN | apply below_drew1) | exact HB.out)) hb); have n1_ := Aside0.mk (hbox); have n2_ := Aside0.mk ((by rw [hg]; exact (below_size (by repeat (first | (with_reducible first | exact HB.out | apply below_alloc | apply pw_below_drewN | apply below_drew1) | exact HB.out))) : w.heap.size ≤ gb157)); have n3_ := Aside0.mk ((by rw [hg]; exact (below_size (by repeat (first | (with_reducible first | exact HB.out | apply below_alloc | apply pw_below_drewN | apply below_drew1) | exact HB.out))) : w.heap.size ≤ gb157)); clear HB; have HB := n0_; have BK157 := n1_; have GW157 := n2_; have GE157 := n3_; clear n0_ n1_ n2_ n3_; clear hb hbox hg; have hcz9_0 : w8.cell? ⟨gb157, 0, none⟩ = some (.bool a0_0) := (blk_cell BK157.out 0).trans rfl; have hcz9_1 : w8.cell? ⟨gb157, 1, none⟩ = some (.string a0_1) := (blk_cell BK157.out 1).trans rfl; have hfz9_0 := blk_frozen BK157.out 0; have hfz9_1 := blk_frozen BK157.out 1))
    go_ret
    exact ⟨by first | rfl | (simp [errW_none, errW_some] <;> rfl) | (simp [*, errW_none, errW_some] <;> rfl), by repeat (first | (with_reducible first | exact HB.out | apply below_alloc | apply pw_below_drewN | apply below_drew1 | refine below_set ?_ GE157.out) | exact HB.out)⟩

end Go.Proofs.Ytlicobfjeajcfaa.Q29
