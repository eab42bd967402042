/- Merged by merge.py out of: GlatticeLabel, GslicesEqualstringstring, Halive, Ggrillelaw08Heavy. -/
import Derived.Test.YtpbkdeelkpjccaaDoorM03
import Derived.Test.YtpbkdeelkpjccaaDoorM29
-- Laid by xprint.py (this work's own driver of the kit's printer).
namespace Go.Proofs.YtpbkdeelkpjccaaDoor.G
open Go.RowKit Go.Proofs.YtpbkdeelkpjccaaDoorW.PrintWords Go.Proofs.YtpbkdeelkpjccaaDoorW.PrintLast Go.Proofs.YtpbkdeelkpjccaaDoorW.PrintMore
attribute [local go_sem] max2_int min2_int max_two min_two max_three min_three max_four min_four   -- for this text's walks alone
set_option linter.unusedVariables false
set_option linter.unusedSimpArgs false
attribute [local go_sem high] eqA46
def lattice_Label.l0 : Nat → List (S46) → List (S46) → Int → Int → Option (Bool)
  | 0, _, _, _, _ => none
  | k + 1, x0, x1, x12, x13 => if x13 < x12 then (if 0 ≤ x13 then (if x13 < (x0.length : Int) then (if x13 < (x1.length : Int) then (if (!(((rd_T46 x0 x13).f0) == ((rd_T46 x1 x13).f0)) || (!(((rd_T46 x0 x13).f1) == ((rd_T46 x1 x13).f1)))) = true then (some false) else (lattice_Label.l0 k x0 x1 x12 (wrap64 (x13 + 1)))) else (none)) else (none)) else (none)) else (some true)
def lattice_Label.f (k : Nat) (l0 : List (S46)) (l1 : List (S46)) : Option (Bool) := if (l0.length : Int) = (l1.length : Int) then (lattice_Label.l0 k l0 l1 (l0.length : Int) 0) else (some false)
theorem lattice_Label.mono_l : ∀ k, (∀ y0 y1 y2 y3, LeO (lattice_Label.l0 k y0 y1 y2 y3) (lattice_Label.l0 (k + 1) y0 y1 y2 y3))
  | 0 => fun _ _ _ _ r h => by simp [lattice_Label.l0] at h
  | k + 1 => by
    have ih0 := lattice_Label.mono_l k
    · intro y0 y1 y2 y3
      unfold lattice_Label.l0
      repeat' first
      | (with_reducible exact ih0 _ _ _ _)
      | (with_reducible exact LeO.refl _)
      | (with_reducible exact LeO.none _)
      | (with_reducible refine LeO.ite ?_ ?_)
      | (with_reducible refine LeO.bind ?_ (fun _ => ?_))
      | exact ih0 _ _ _ _
      | exact LeO.none _
      | refine LeO.ite ?_ ?_
      | refine LeO.bind ?_ (fun _ => ?_)
theorem lattice_Label.mono : ∀ a0 a1 k, LeO (lattice_Label.f k a0 a1) (lattice_Label.f (k + 1) a0 a1) := by
  intro a0 a1 k
  have ih0 := lattice_Label.mono_l k
  unfold lattice_Label.f
  repeat' first
      | (with_reducible exact ih0 _ _ _ _)
      | (with_reducible exact LeO.refl _)
      | (with_reducible exact LeO.none _)
      | (with_reducible refine LeO.ite ?_ ?_)
      | (with_reducible refine LeO.bind ?_ (fun _ => ?_))
      | exact ih0 _ _ _ _
      | exact LeO.none _
      | refine LeO.ite ?_ ?_
      | refine LeO.bind ?_ (fun _ => ?_)
set_option maxHeartbeats 8000000 in
set_option maxRecDepth 100000 in
theorem lattice_Label.calls (k : Nat) (A0 : Option Addr) (c0 : Nat) (l0 : List (S46)) (A1 : Option Addr) (c1 : Nat) (l1 : List (S46)) (r : Bool) (w : World) (hr0 : Kd.C k46 w A0 l0.length l0) (hc0 : l0.length ≤ c0) (hr1 : Kd.C k46 w A1 l1.length l1) (hc1 : l1.length ≤ c1) (h : lattice_Label.f k l0 l1 = some r) :
    Calls Tryd.prog 18 #[.slice A0 l0.length c0, .slice A1 l1.length c1] w fun e w' => e = .returned (.bool r) ∧ Drawn0 w w' := by
  have hu46 := Tryd.underlying46
  have HR0 := Aside0.mk hr0
  have HC0 := Aside0.mk hc0
  clear hr0 hc0
  have HR1 := Aside0.mk hr1
  have HC1 := Aside0.mk hc1
  clear hr1 hc1
  have H : (if (l0.length : Int) = (l1.length : Int) then (lattice_Label.l0 k l0 l1 (l0.length : Int) 0) else (some false)) = some r := h
  clear h
  by_cases c3 : (l0.length : Int) = (l1.length : Int)
  · rw [if_pos c3] at H
    have c3b0 : ((l0.length : Int) == (l1.length : Int)) = true := beq_iff_eq.mpr c3
    have c3b1 : ((l0.length : Int) != (l1.length : Int)) = false := bne_eq_false_iff_eq.mpr c3
    have c3b2 : (l0.length == l1.length) = true := by first | simpa using c3 | (simp at c3 ⊢; omega)
    clear c3
    have H' := Aside0.mk H
    clear H
    go_enter Tryd.func18, Tryd.ntmps18
    go_wp2
    repeat (go_quiet (fail); try go_wp2)
    go_loopg [13] k (fun kq v13 w' => ∃ (x13_1 : Int), v13 = .int .i64 x13_1 ∧ Aside0 (lattice_Label.l0 kq l0 l1 (l0.length : Int) x13_1 = some r) ∧ Aside0 (kq ≤ k) ∧ Drawn0 w w')
    case atStart => exact ⟨(0), (by first | rfl | (simp; done) | (simp [*]; done)), H', ⟨Nat.le_refl _⟩, by repeat (first | exact Drawn0.refl _ | apply Drawn0.step)⟩
    case round =>
      clear H'
      try clear c1
      try clear p2
      try clear c3
      try clear c3b0
      try clear c3b1
      try clear c3b2
      obtain ⟨x13_1, rfl, HA, HK1, ⟨m1, rfl⟩⟩ := hrel
      cases gk with
      | zero => exact absurd HA.out (by simp [lattice_Label.l0])
      | succ k1 =>
        have H := HA.out
        clear HA
        simp only [lattice_Label.l0] at H
        by_cases c4 : x13_1 < (l0.length : Int)
        · rw [if_pos c4] at H
          have c4b0 : decide (x13_1 < (l0.length : Int)) = true := decide_eq_true c4
          clear c4
          by_cases c5 : 0 ≤ x13_1
          · rw [if_pos c5] at H
            have c5b0 : decide (0 ≤ x13_1) = true := decide_eq_true c5
            clear c5
            by_cases c6 : x13_1 < (l0.length : Int)
            · rw [if_pos c6] at H
              have c6b0 : decide (x13_1 < (l0.length : Int)) = true := decide_eq_true c6
              clear c6
              by_cases c7 : x13_1 < (l1.length : Int)
              · rw [if_pos c7] at H
                have c7b0 : decide (x13_1 < (l1.length : Int)) = true := decide_eq_true c7
                clear c7
                by_cases c8 : (!(((rd_T46 l0 x13_1).f0) == ((rd_T46 l1 x13_1).f0)) || (!(((rd_T46 l0 x13_1).f1) == ((rd_T46 l1 x13_1).f1)))) = true
                · rw [if_pos c8] at H
                  have c8b0 : (!(((rd_T46 l0 x13_1).f0) == ((rd_T46 l1 x13_1).f0)) || (!(((rd_T46 l0 x13_1).f1) == ((rd_T46 l1 x13_1).f1)))) = true := c8
                  clear c8
                  obtain rfl := Option.some.inj H
                  have p1 : 0 ≤ (x13_1 : Int) := of_decide_eq_true (by first | (with_reducible assumption) | assumption)
                  have q1 : x13_1 < (l0.length : Int) := of_decide_eq_true (by first | (with_reducible assumption) | assumption)
                  obtain ⟨ad1, e1, hx1_0, hx1_1⟩ := at_T46 HR0.out x13_1 p1 q1
                  cases e1
                  replace p1 := eq_true p1
                  replace q1 := eq_true q1
                  have p2 : 0 ≤ (x13_1 : Int) := of_decide_eq_true (by first | (with_reducible assumption) | assumption)
                  have q2 : x13_1 < (l1.length : Int) := of_decide_eq_true (by first | (with_reducible assumption) | assumption)
                  obtain ⟨ad2, e2, hx2_0, hx2_1⟩ := at_T46 HR1.out x13_1 p2 q2
                  cases e2
                  replace p2 := eq_true p2
                  replace q2 := eq_true q2
                  go_wp2
                  repeat (go_quiet (fail); try go_wp2)
                  go_ret
                  exact ⟨by first | rfl | (simp; done) | (simp [*]; done), by repeat (first | exact Drawn0.refl _ | apply Drawn0.step)⟩
                · rw [if_neg c8] at H
                  have c8b0 : (!(((rd_T46 l0 x13_1).f0) == ((rd_T46 l1 x13_1).f0)) || (!(((rd_T46 l0 x13_1).f1) == ((rd_T46 l1 x13_1).f1)))) = false := by simpa using c8
                  clear c8
                  have H' := Aside0.mk H
                  clear H
                  have p1 : 0 ≤ (x13_1 : Int) := of_decide_eq_true (by first | (with_reducible assumption) | assumption)
                  have q1 : x13_1 < (l0.length : Int) := of_decide_eq_true (by first | (with_reducible assumption) | assumption)
                  obtain ⟨ad1, e1, hx1_0, hx1_1⟩ := at_T46 HR0.out x13_1 p1 q1
                  cases e1
                  replace p1 := eq_true p1
                  replace q1 := eq_true q1
                  have p2 : 0 ≤ (x13_1 : Int) := of_decide_eq_true (by first | (with_reducible assumption) | assumption)
                  have q2 : x13_1 < (l1.length : Int) := of_decide_eq_true (by first | (with_reducible assumption) | assumption)
                  obtain ⟨ad2, e2, hx2_0, hx2_1⟩ := at_T46 HR1.out x13_1 p2 q2
                  cases e2
                  replace p2 := eq_true p2
                  replace q2 := eq_true q2
                  go_wp2
                  repeat (go_quiet (fail); try go_wp2)
                  go_roundg k1
                  case measure => have := HK1.out; omega
                  case rel => exact ⟨(wrap64 (x13_1 + 1)), (by first | rfl | (simp; done) | (simp [*]; done)), H', ⟨by have := HK1.out; omega⟩, by repeat (first | exact Drawn0.refl _ | apply Drawn0.step)⟩
              · rw [if_neg c7] at H
                exact absurd H (by simp)
            · rw [if_neg c6] at H
              exact absurd H (by simp)
          · rw [if_neg c5] at H
            exact absurd H (by simp)
        · rw [if_neg c4] at H
          have c4b0 : decide (x13_1 < (l0.length : Int)) = false := decide_eq_false c4
          clear c4
          obtain rfl := Option.some.inj H
          go_wp2
          repeat (go_quiet (fail); try go_wp2)
          go_ret
          exact ⟨by first | rfl | (simp; done) | (simp [*]; done), by repeat (first | exact Drawn0.refl _ | apply Drawn0.step)⟩
  · rw [if_neg c3] at H
    have c3b0 : ((l0.length : Int) == (l1.length : Int)) = false := beq_eq_false_iff_ne.mpr c3
    have c3b1 : ((l0.length : Int) != (l1.length : Int)) = true := bne_iff_ne.mpr c3
    have c3b2 : (l0.length == l1.length) = false := by first | simpa using c3 | (simp at c3 ⊢; omega)
    obtain rfl := Option.some.inj H
    go_enter Tryd.func18, Tryd.ntmps18
    go_wp2
    repeat (go_quiet (fail); try go_wp2)
    go_ret
    exact ⟨by first | rfl | (simp; done) | (simp [*]; done), by repeat (first | exact Drawn0.refl _ | apply Drawn0.step)⟩
end Go.Proofs.YtpbkdeelkpjccaaDoor.G

-- Laid by xprint.py (this work's own driver of the kit's printer).
namespace Go.Proofs.YtpbkdeelkpjccaaDoor.G
open Go.RowKit Go.Proofs.YtpbkdeelkpjccaaDoorW.PrintWords Go.Proofs.YtpbkdeelkpjccaaDoorW.PrintLast Go.Proofs.YtpbkdeelkpjccaaDoorW.PrintMore
attribute [local go_sem] max2_int min2_int max_two min_two max_three min_three max_four min_four   -- for this text's walks alone
set_option linter.unusedVariables false
set_option linter.unusedSimpArgs false
def slices_Equal_string_string.l0 : Nat → List ByteArray → List ByteArray → Int → Int → Option (Bool)
  | 0, _, _, _, _ => none
  | k + 1, x0, x1, x12, x13 => if x13 < x12 then (if 0 ≤ x13 then (if x13 < (x0.length : Int) then (if x13 < (x1.length : Int) then (if (rdOf ByteArray.empty x0 x13).toList = (rdOf ByteArray.empty x1 x13).toList then (slices_Equal_string_string.l0 k x0 x1 x12 (wrap64 (x13 + 1))) else (some false)) else (none)) else (none)) else (none)) else (some true)
def slices_Equal_string_string.f (k : Nat) (l0 : List ByteArray) (l1 : List ByteArray) : Option (Bool) := if (l0.length : Int) = (l1.length : Int) then (slices_Equal_string_string.l0 k l0 l1 (l0.length : Int) 0) else (some false)
theorem slices_Equal_string_string.mono_l : ∀ k, (∀ y0 y1 y2 y3, LeO (slices_Equal_string_string.l0 k y0 y1 y2 y3) (slices_Equal_string_string.l0 (k + 1) y0 y1 y2 y3))
  | 0 => fun _ _ _ _ r h => by simp [slices_Equal_string_string.l0] at h
  | k + 1 => by
    have ih0 := slices_Equal_string_string.mono_l k
    · intro y0 y1 y2 y3
      unfold slices_Equal_string_string.l0
      repeat' first
      | (with_reducible exact ih0 _ _ _ _)
      | (with_reducible exact LeO.refl _)
      | (with_reducible exact LeO.none _)
      | (with_reducible refine LeO.ite ?_ ?_)
      | (with_reducible refine LeO.bind ?_ (fun _ => ?_))
      | exact ih0 _ _ _ _
      | exact LeO.none _
      | refine LeO.ite ?_ ?_
      | refine LeO.bind ?_ (fun _ => ?_)
theorem slices_Equal_string_string.mono : ∀ a0 a1 k, LeO (slices_Equal_string_string.f k a0 a1) (slices_Equal_string_string.f (k + 1) a0 a1) := by
  intro a0 a1 k
  have ih0 := slices_Equal_string_string.mono_l k
  unfold slices_Equal_string_string.f
  repeat' first
      | (with_reducible exact ih0 _ _ _ _)
      | (with_reducible exact LeO.refl _)
      | (with_reducible exact LeO.none _)
      | (with_reducible refine LeO.ite ?_ ?_)
      | (with_reducible refine LeO.bind ?_ (fun _ => ?_))
      | exact ih0 _ _ _ _
      | exact LeO.none _
      | refine LeO.ite ?_ ?_
      | refine LeO.bind ?_ (fun _ => ?_)
set_option maxHeartbeats 8000000 in
set_option maxRecDepth 100000 in
theorem slices_Equal_string_string.calls (k : Nat) (A0 : Option Addr) (c0 : Nat) (l0 : List ByteArray) (A1 : Option Addr) (c1 : Nat) (l1 : List ByteArray) (r : Bool) (w : World) (hr0 : Kd.C Kd.string w A0 l0.length l0) (hc0 : l0.length ≤ c0) (hr1 : Kd.C Kd.string w A1 l1.length l1) (hc1 : l1.length ≤ c1) (h : slices_Equal_string_string.f k l0 l1 = some r) :
    Calls Tryd.prog 8 #[.slice A0 l0.length c0, .slice A1 l1.length c1] w fun e w' => e = .returned (.bool r) ∧ Drawn0 w w' := by
  have HR0 := Aside0.mk hr0
  have HC0 := Aside0.mk hc0
  clear hr0 hc0
  have HR1 := Aside0.mk hr1
  have HC1 := Aside0.mk hc1
  clear hr1 hc1
  have H : (if (l0.length : Int) = (l1.length : Int) then (slices_Equal_string_string.l0 k l0 l1 (l0.length : Int) 0) else (some false)) = some r := h
  clear h
  by_cases c3 : (l0.length : Int) = (l1.length : Int)
  · rw [if_pos c3] at H
    have c3b0 : ((l0.length : Int) == (l1.length : Int)) = true := beq_iff_eq.mpr c3
    have c3b1 : ((l0.length : Int) != (l1.length : Int)) = false := bne_eq_false_iff_eq.mpr c3
    have c3b2 : (l0.length == l1.length) = true := by first | simpa using c3 | (simp at c3 ⊢; omega)
    clear c3
    have H' := Aside0.mk H
    clear H
    go_enter Tryd.func8, Tryd.ntmps8
    go_wp2
    repeat (go_quiet (fail); try go_wp2)
    go_loopg [13] k (fun kq v13 w' => ∃ (x13_1 : Int), v13 = .int .i64 x13_1 ∧ Aside0 (slices_Equal_string_string.l0 kq l0 l1 (l0.length : Int) x13_1 = some r) ∧ Aside0 (kq ≤ k) ∧ Drawn0 w w')
    case atStart => exact ⟨(0), (by first | rfl | (simp; done) | (simp [*]; done)), H', ⟨Nat.le_refl _⟩, by repeat (first | exact Drawn0.refl _ | apply Drawn0.step)⟩
    case round =>
      clear H'
      try clear c1
      try clear p2
      try clear c3
      try clear c3b0
      try clear c3b1
      try clear c3b2
      obtain ⟨x13_1, rfl, HA, HK1, ⟨m1, rfl⟩⟩ := hrel
      cases gk with
      | zero => exact absurd HA.out (by simp [slices_Equal_string_string.l0])
      | succ k1 =>
        have H := HA.out
        clear HA
        simp only [slices_Equal_string_string.l0] at H
        by_cases c4 : x13_1 < (l0.length : Int)
        · rw [if_pos c4] at H
          have c4b0 : decide (x13_1 < (l0.length : Int)) = true := decide_eq_true c4
          clear c4
          by_cases c5 : 0 ≤ x13_1
          · rw [if_pos c5] at H
            have c5b0 : decide (0 ≤ x13_1) = true := decide_eq_true c5
            clear c5
            by_cases c6 : x13_1 < (l0.length : Int)
            · rw [if_pos c6] at H
              have c6b0 : decide (x13_1 < (l0.length : Int)) = true := decide_eq_true c6
              clear c6
              by_cases c7 : x13_1 < (l1.length : Int)
              · rw [if_pos c7] at H
                have c7b0 : decide (x13_1 < (l1.length : Int)) = true := decide_eq_true c7
                clear c7
                by_cases c8 : (rdOf ByteArray.empty l0 x13_1).toList = (rdOf ByteArray.empty l1 x13_1).toList
                · rw [if_pos c8] at H
                  have c8b0 : ((rdOf ByteArray.empty l0 x13_1).toList == (rdOf ByteArray.empty l1 x13_1).toList) = true := beq_iff_eq.mpr c8
                  have c8b1 : ((rdOf ByteArray.empty l0 x13_1).toList != (rdOf ByteArray.empty l1 x13_1).toList) = false := bne_eq_false_iff_eq.mpr c8
                  clear c8
                  have H' := Aside0.mk H
                  clear H
                  have p1 : 0 ≤ (x13_1 : Int) := of_decide_eq_true (by first | (with_reducible assumption) | assumption)
                  have q1 : x13_1 < (l0.length : Int) := of_decide_eq_true (by first | (with_reducible assumption) | assumption)
                  obtain ⟨ad1, e1, hx1_0⟩ := Kd.at_string HR0.out x13_1 p1 q1
                  cases e1
                  replace p1 := eq_true p1
                  replace q1 := eq_true q1
                  have p2 : 0 ≤ (x13_1 : Int) := of_decide_eq_true (by first | (with_reducible assumption) | assumption)
                  have q2 : x13_1 < (l1.length : Int) := of_decide_eq_true (by first | (with_reducible assumption) | assumption)
                  obtain ⟨ad2, e2, hx2_0⟩ := Kd.at_string HR1.out x13_1 p2 q2
                  cases e2
                  replace p2 := eq_true p2
                  replace q2 := eq_true q2
                  go_wp2
                  repeat (go_quiet (fail); try go_wp2)
                  go_roundg k1
                  case measure => have := HK1.out; omega
                  case rel => exact ⟨(wrap64 (x13_1 + 1)), (by first | rfl | (simp; done) | (simp [*]; done)), H', ⟨by have := HK1.out; omega⟩, by repeat (first | exact Drawn0.refl _ | apply Drawn0.step)⟩
                · rw [if_neg c8] at H
                  have c8b0 : ((rdOf ByteArray.empty l0 x13_1).toList == (rdOf ByteArray.empty l1 x13_1).toList) = false := beq_eq_false_iff_ne.mpr c8
                  have c8b1 : ((rdOf ByteArray.empty l0 x13_1).toList != (rdOf ByteArray.empty l1 x13_1).toList) = true := bne_iff_ne.mpr c8
                  obtain rfl := Option.some.inj H
                  have p1 : 0 ≤ (x13_1 : Int) := of_decide_eq_true (by first | (with_reducible assumption) | assumption)
                  have q1 : x13_1 < (l0.length : Int) := of_decide_eq_true (by first | (with_reducible assumption) | assumption)
                  obtain ⟨ad1, e1, hx1_0⟩ := Kd.at_string HR0.out x13_1 p1 q1
                  cases e1
                  replace p1 := eq_true p1
                  replace q1 := eq_true q1
                  have p2 : 0 ≤ (x13_1 : Int) := of_decide_eq_true (by first | (with_reducible assumption) | assumption)
                  have q2 : x13_1 < (l1.length : Int) := of_decide_eq_true (by first | (with_reducible assumption) | assumption)
                  obtain ⟨ad2, e2, hx2_0⟩ := Kd.at_string HR1.out x13_1 p2 q2
                  cases e2
                  replace p2 := eq_true p2
                  replace q2 := eq_true q2
                  go_wp2
                  repeat (go_quiet (fail); try go_wp2)
                  go_ret
                  exact ⟨by first | rfl | (simp; done) | (simp [*]; done), by repeat (first | exact Drawn0.refl _ | apply Drawn0.step)⟩
              · rw [if_neg c7] at H
                exact absurd H (by simp)
            · rw [if_neg c6] at H
              exact absurd H (by simp)
          · rw [if_neg c5] at H
            exact absurd H (by simp)
        · rw [if_neg c4] at H
          have c4b0 : decide (x13_1 < (l0.length : Int)) = false := decide_eq_false c4
          clear c4
          obtain rfl := Option.some.inj H
          go_wp2
          repeat (go_quiet (fail); try go_wp2)
          go_ret
          exact ⟨by first | rfl | (simp; done) | (simp [*]; done), by repeat (first | exact Drawn0.refl _ | apply Drawn0.step)⟩
  · rw [if_neg c3] at H
    have c3b0 : ((l0.length : Int) == (l1.length : Int)) = false := beq_eq_false_iff_ne.mpr c3
    have c3b1 : ((l0.length : Int) != (l1.length : Int)) = true := bne_iff_ne.mpr c3
    have c3b2 : (l0.length == l1.length) = false := by first | simpa using c3 | (simp at c3 ⊢; omega)
    obtain rfl := Option.some.inj H
    go_enter Tryd.func8, Tryd.ntmps8
    go_wp2
    repeat (go_quiet (fail); try go_wp2)
    go_ret
    exact ⟨by first | rfl | (simp; done) | (simp [*]; done), by repeat (first | exact Drawn0.refl _ | apply Drawn0.step)⟩
end Go.Proofs.YtpbkdeelkpjccaaDoor.G

namespace Go.Proofs.YtpbkdeelkpjccaaDoor.G
open Go.RowKit Go.Proofs.YtpbkdeelkpjccaaDoorW.PrintWords Go.Proofs.YtpbkdeelkpjccaaDoorW.PrintMore
set_option linter.unusedVariables false
set_option linter.unusedSimpArgs false
theorem blk_add (M k : Nat) : (⟨M, 0, none⟩ : Addr).add k = ⟨M, k, none⟩ := by unfold Addr.add; by_cases h : k = 0 <;> simp [h]
theorem C_labs {w : World} {M : Nat} {L : List S46} (h : w.heap[M]? = some (.cells (labs L).toArray 46 (0, 0))) (hn : L.length ≤ 9223372036854775807) : Kd.C k46 w (some ⟨M, 0, none⟩) L.length L := by
  refine ⟨rfl, hn, fun _ => ⟨_, rfl, fun j x hx => ⟨[.int .i64 x.f0, .int .u64 x.f1], rfl, k46_mk w x, fun i u hu => ?_⟩⟩⟩
  obtain ⟨hl, rfl⟩ := List.getElem?_eq_some_iff.1 hx
  have e0 := labs_get0 L j hl
  have e1 := labs_get1 L j hl
  rw [getD_lt _ _ hl] at e0 e1
  rw [blk_add, show k46.sz = 2 from rfl]
  refine (blk_cell h _).trans ?_
  rw [List.getElem?_toArray]
  match i, hu with
  | 0, hu => rw [← hu]; simpa using e0
  | 1, hu => rw [← hu]; simpa using e1
  | i + 2, hu => simp at hu
theorem C_strs {w : World} {M : Nat} {L : List ByteArray} (h : w.heap[M]? = some (.cells (L.map Value.string).toArray 9 (0, 0))) (hn : L.length ≤ 9223372036854775807) : Kd.C Kd.string w (some ⟨M, 0, none⟩) L.length L := by
  refine ⟨rfl, hn, fun _ => ⟨_, rfl, fun j x hx => ⟨[.string x], rfl, rfl, fun i u hu => ?_⟩⟩⟩
  rw [blk_add, show Kd.string.sz = 1 from rfl]
  refine (blk_cell h _).trans ?_
  rw [List.getElem?_toArray]
  match i, hu with
  | 0, hu => rw [← hu]; simp [hx]
  | i + 1, hu => simp at hu
set_option maxHeartbeats 4000000 in
set_option maxRecDepth 100000 in
theorem alive_any (w : World) (hT : Tabs w) : Calls Tryd.prog 5 #[] w fun e w' => e = .returned (.bool true) ∧ Below w.heap.size w w' := by
  have cF := grillelaw16_fixed.calls _ _ _ _ _ w fixed_f
  have HT := Aside0.mk hT
  have hu41 := Tryd.underlying41
  have hu38 := Tryd.underlying38
  have hu46 := Tryd.underlying46
  have hu34 := Tryd.underlying34
  clear hT
  go_enter Tryd.func5, Tryd.ntmps5
  go_wp2_with fail
  refine cF.mono ?_
  rintro e w1 ⟨v0, v1, v3, v4, rfl, r0, r1, r3, r4, hb1⟩
  obtain ⟨A0, c0, rfl, l0, g0⟩ := Kd.R_reads r0
  obtain ⟨A1, c1, rfl, l1, g1⟩ := Kd.R_reads r1
  obtain ⟨A3, c3, rfl, l3, g3⟩ := Kd.N_reads r3
  obtain ⟨A4, c4, rfl, l4, g4⟩ := Kd.N_reads r4
  have HB1 := Aside0.mk hb1
  have hP : PolAt pF A0 c0 A1 c1 A3 c3 w1 := ⟨HT.out.below hb1, g0, l0, g1, l1, g3, l3, e1⟩
  have HG := Aside0.mk g4
  have HGC := Aside0.mk l4
  have cL : Aside0 (∀ W, Below w1.heap.size w1 W → _) := ⟨fun W h => labels_yes pF A0 c0 A1 c1 A3 c3 gF A4 c4 W (hP.below pF A0 c0 A1 c1 A3 c3 h) (Kd.C_below g4 h) l4 e2 e3⟩
  have cH : Aside0 (∀ W, Below w1.heap.size w1 W → _) := ⟨fun W h => hits_yes pF A0 c0 A1 c1 A3 c3 gF A4 c4 W (hP.below pF A0 c0 A1 c1 A3 c3 h) (Kd.C_below g4 h) l4 e2 e3⟩
  have cS : Aside0 (∀ W, Below w1.heap.size w1 W → _) := ⟨fun W h => states_yes pF A0 c0 A1 c1 A3 c3 gF A4 c4 W (hP.below pF A0 c0 A1 c1 A3 c3 h) (Kd.C_below g4 h) l4 e2 e3⟩
  have cE : Aside0 (∀ W, Below w1.heap.size w1 W → _) := ⟨fun W h => labels_no pE none 0 none 0 none 0 gF A4 c4 W ⟨(HT.out.below hb1).below h, Kd.C_nil _ _, Nat.le_refl _, Kd.C_nil _ _, Nat.le_refl _, Kd.C_nil _ _, Nat.le_refl _, by decide +kernel⟩ (Kd.C_below g4 h) l4 (fitG_of e2) (by rw [e4]; decide)⟩
  rw [e4] at cE
  clear cF r0 r1 r3 r4 g0 g1 g3 g4 hb1 hP l0 l1 l3 l4
  unfold polArg at cL cH cS cE
  go_wp2_with fail
  have hb0 : Below w1.heap.size w1 (w1.alloc (.cells #[.slice A0 pF.lev.length c0, .slice A1 pF.cats.length c1, .string pF.mask, .slice A3 pF.rules.length c3] 41)) := below_alloc (Below.refl _ _) _
  have hk0 : (w1.alloc (.cells #[.slice A0 pF.lev.length c0, .slice A1 pF.cats.length c1, .string pF.mask, .slice A3 pF.rules.length c3] 41)).heap[w1.heap.size]? = some (.cells #[.slice A0 pF.lev.length c0, .slice A1 pF.cats.length c1, .string pF.mask, .slice A3 pF.rules.length c3] 41 (0, 0)) := heap_alloc_new _ _
  refine (cL.out _ hb0).mono ?_
  rintro e w2 ⟨ML, rfl, hML, hMLb, hb2⟩
  have HB2 := Aside0.mk (below_then hb0 hb0.size hb2)
  have HK2 := Aside0.mk (blk_below5 hb2 hk0)
  have HML := Aside0.mk hML
  clear hb0 hk0 hML hMLb hb2
  have p0 : w2.cell? ⟨w1.heap.size, 0, none⟩ = some (.slice A0 pF.lev.length c0) := (blk_cell HK2.out 0).trans rfl
  have p1 : w2.cell? ⟨w1.heap.size, 1, none⟩ = some (.slice A1 pF.cats.length c1) := (blk_cell HK2.out 1).trans rfl
  have p2 : w2.cell? ⟨w1.heap.size, 2, none⟩ = some (.string pF.mask) := (blk_cell HK2.out 2).trans rfl
  have p3 : w2.cell? ⟨w1.heap.size, 3, none⟩ = some (.slice A3 pF.rules.length c3) := (blk_cell HK2.out 3).trans rfl
  go_wp2_with fail
  refine (cH.out _ HB2.out).mono ?_
  rintro e w3 ⟨vs, MH, rfl, hRows, hMH, hb3⟩
  have HB3 := Aside0.mk (below_then HB2.out HB2.out.size hb3)
  have HK3 := Aside0.mk (blk_below5 hb3 HK2.out)
  have HML3 := Aside0.mk (blk_below5 hb3 HML.out)
  have HRo := Aside0.mk hRows
  clear p0 p1 p2 p3 HK2 HML hRows hMH hb3
  have p0 : w3.cell? ⟨w1.heap.size, 0, none⟩ = some (.slice A0 pF.lev.length c0) := (blk_cell HK3.out 0).trans rfl
  have p1 : w3.cell? ⟨w1.heap.size, 1, none⟩ = some (.slice A1 pF.cats.length c1) := (blk_cell HK3.out 1).trans rfl
  have p2 : w3.cell? ⟨w1.heap.size, 2, none⟩ = some (.string pF.mask) := (blk_cell HK3.out 2).trans rfl
  have p3 : w3.cell? ⟨w1.heap.size, 3, none⟩ = some (.slice A3 pF.rules.length c3) := (blk_cell HK3.out 3).trans rfl
  go_wp2_with fail
  refine (cS.out _ HB3.out).mono ?_
  rintro e w4 ⟨v4s, rfl, ⟨MS, rfl, hMS, hSets, hSM⟩, hb4⟩
  have HB4 := Aside0.mk (below_then HB3.out HB3.out.size hb4)
  have HML4 := Aside0.mk (blk_below5 hb4 HML3.out)
  have HRo4 := Aside0.mk (HRo.out.below hb4)
  have HS4 := Aside0.mk hSM
  have HSE := Aside0.mk hSets
  clear p0 p1 p2 p3 HK3 HML3 HRo hSets hSM hMS hb4
  go_wp2_with fail
  refine (cE.out _ HB4.out).mono ?_
  rintro e w5 ⟨rfl, hb5⟩
  have HB5 := Aside0.mk (below_then HB4.out HB4.out.size hb5)
  have HML5 := Aside0.mk (blk_below5 hb5 HML4.out)
  have HRo5 := Aside0.mk (HRo4.out.below hb5)
  have HS5 := Aside0.mk (blk_below5 hb5 HS4.out)
  clear HML4 HRo4 HS4 hb5
  have hgn := at_T34 (Kd.C_below HG.out HB5.out) 0 (by decide) (by decide)
  rw [show rd_T34 gF 0 = ⟨2, ⟨#[109, 97, 112]⟩, ⟨#[]⟩, [1, 2]⟩ from rfl] at hgn
  obtain ⟨adg, Ag, cg, eg, n0, n1, n2, n3, ln, gn⟩ := hgn
  subst eg
  rw [show adg.add ((0 : Int).toNat * 4) = adg from Go.Addr.add_zero' _] at n0 n1 n2 n3
  dsimp only at n0 n1 n2 n3 ln gn
  have cSt : Aside0 (∀ W, Below w5.heap.size w5 W → _) := ⟨fun W h => label_Steps.calls 10 2 ⟨#[109, 97, 112]⟩ ⟨#[]⟩ Ag cg [1, 2] (some adg) c4 gF _ W ((HT.out.below HB1.out).below (HB5.out.trans (h.mono HB5.out.size))) (Kd.C_below gn h) ln (Kd.C_below HG.out (HB5.out.trans (h.mono HB5.out.size))) HGC.out steps_fix⟩
  have hlg : gF.length = 4 := rfl
  go_wp2_with fail
  refine (cSt.out _ (Below.refl _ _)).mono ?_
  rintro e w6 ⟨vS, rfl, hR6, hb6⟩
  obtain ⟨A6, c6, rfl, l6, g6⟩ := Kd.R_reads hR6
  have HB6 := Aside0.mk (below_then HB5.out HB5.out.size hb6)
  have HML6 := Aside0.mk (blk_below5 hb6 HML5.out)
  have hRo6 := HRo5.out.below hb6
  have hS6 := blk_below5 hb6 HS5.out
  have HS6 := Aside0.mk (And.intro g6 l6)
  rw [hits_fix] at hRo6
  obtain ⟨B2, d2, _, i2⟩ := hRo6.reads (i := 2) (by decide)
  obtain ⟨B3, d3, _, i3⟩ := hRo6.reads (i := 3) (by decide)
  rw [show ([[], [], [0], []] : List (List Int)).getD 2 [] = [0] from rfl] at i2
  rw [show ([[], [], [0], []] : List (List Int)).getD 3 [] = [] from rfl] at i3
  have s0 : w6.cell? ⟨MS, 0, none⟩ = some (.int .u64 1) := (blk_cell hS6 _).trans ((flat_cell HSE.out (show 0 < gF.length by decide) (show 0 < 8 by decide)).trans (by rw [st0_fix]; rfl))
  have s2 : w6.cell? ⟨MS, 16, none⟩ = some (.int .u64 2) := (blk_cell hS6 _).trans ((flat_cell (j := 0) HSE.out (show 2 < gF.length by decide) (show 0 < 8 by decide)).trans (by rw [st2_fix]; rfl))
  have LMH : MH < w6.heap.size := World.block_lt_of_cell? w6 _ i2
  have LMS : MS < w6.heap.size := World.block_lt_of_cell? w6 _ s0
  clear HML5 HRo5 HS5 hRo6 hS6 hR6 g6 l6 hb6 n0 n1 n2 n3 ln gn cSt cL cH cS cE
  go_wp2_with fail
  obtain ⟨W8, hW8⟩ : ∃ W8, ((w6.alloc (.cells #[.int .i64 1, .int .u64 0] 46)).alloc (.cells #[.int .i64 0, .int .u64 0, .int .i64 0, .int .u64 0, .int .i64 1, .int .u64 0, .int .i64 1, .int .u64 0] 46)) = W8 := ⟨_, rfl⟩
  have hb68 : Below w6.heap.size w6 W8 := by rw [← hW8]; exact below_alloc (below_alloc (Below.refl _ _) _) _
  have hnb : W8.heap[w6.heap.size + 1]? = some (.cells (labs lF).toArray 46 (0, 0)) := by rw [← hW8]; exact heap_alloc2_new _ _ _
  have hlb := blk_below5 hb68 HML6.out
  rw [lab_fix] at hlb
  have cQ := lattice_Label.calls 10 _ 4 lF _ 4 lF true W8 (C_labs hlb (by decide)) (by decide) (C_labs hnb (by decide)) (by decide) (by kernel_rfl)
  rw [hW8]
  refine cQ.mono ?_
  rintro e w9 ⟨rfl, hd9⟩
  obtain ⟨q9, rfl⟩ := hd9.out
  have hb69 : Below w6.heap.size w6 (W8.drewN q9) := pw_below_drewN hb68 q9
  generalize W8.drewN q9 = w9 at *
  have i2 := (hb69.cell LMH).trans i2
  have i3 := (hb69.cell LMH).trans i3
  have s0 := (hb69.cell LMS).trans s0
  have s2 := (hb69.cell LMS).trans s2
  have HB9 := Aside0.mk hb69
  clear hW8 hb68 hnb hlb cQ hd9 hb69 LMH LMS
  go_wp2_with fail
  have cQ := slices_Equal_string_string.calls 10 _ c6 [⟨#[]⟩, ⟨#[97]⟩] _ 2 [⟨#[]⟩, ⟨#[97]⟩] true (w9.alloc (.cells #[.string ⟨#[]⟩, .string ⟨#[97]⟩] 9)) (Kd.C_below HS6.out.1 (HB9.out.alloc HB9.out.size _)) HS6.out.2 (C_strs (heap_alloc_new _ _) (by decide)) (by decide) (by kernel_rfl)
  refine cQ.mono ?_
  rintro e w10 ⟨rfl, hd10⟩
  obtain ⟨q10, rfl⟩ := hd10.out
  clear cQ hd10
  go_wp2
  go_ret
  exact ⟨rfl, pw_below_drewN (below_then (HB1.out.trans (HB6.out.mono HB1.out.size)) (Nat.le_trans HB1.out.size HB6.out.size) (HB9.out.alloc HB9.out.size _)) _⟩
def grillelaw16_alive.f : Option Bool := some true
theorem grillelaw16_alive.calls (r : Bool) (w : World) (hT : Tabs w) (h : grillelaw16_alive.f = some r) :
    Calls Tryd.prog 5 #[] w fun e w' => e = .returned (.bool r) ∧ Below w.heap.size w w' := by
  obtain rfl := Option.some.inj h
  exact alive_any w hT
end Go.Proofs.YtpbkdeelkpjccaaDoor.G

-- Laid by xprint.py (this work's own driver of the kit's printer).
namespace Go.Proofs.YtpbkdeelkpjccaaDoor.G
open Go.RowKit Go.Proofs.YtpbkdeelkpjccaaDoorW.PrintWords Go.Proofs.YtpbkdeelkpjccaaDoorW.PrintLast Go.Proofs.YtpbkdeelkpjccaaDoorW.PrintMore
attribute [local go_sem] max2_int min2_int max_two min_two max_three min_three max_four min_four   -- for this text's walks alone
set_option linter.unusedVariables false
set_option linter.unusedSimpArgs false
def grillelaw08_Heavy.l0 : Nat → List (S24) → List (S24) → Int → Int → Option (Bool)
  | 0, _, _, _, _ => none
  | k + 1, x0, x5, x6, x7 => if x7 < x6 then (if 0 ≤ x7 then (if x7 < (x5.length : Int) then (if (((rd_T24 x5 x7).f3).length : Int) > 200 then (some true) else (if (((rd_T24 x5 x7).f2).size : Int) > 2000 then (some true) else (if (((rd_T24 x5 x7).f1).size : Int) > 2000 then (some true) else (grillelaw08_Heavy.l0 k x0 x5 x6 (wrap64 (x7 + 1)))))) else (none)) else (none)) else (some (decide ((x0.length : Int) > 120)))
def grillelaw08_Heavy.f (k : Nat) (l0 : List (S24)) : Option (Bool) := grillelaw08_Heavy.l0 k l0 l0 (l0.length : Int) 0
theorem grillelaw08_Heavy.mono_l : ∀ k, (∀ y0 y1 y2 y3, LeO (grillelaw08_Heavy.l0 k y0 y1 y2 y3) (grillelaw08_Heavy.l0 (k + 1) y0 y1 y2 y3))
  | 0 => fun _ _ _ _ r h => by simp [grillelaw08_Heavy.l0] at h
  | k + 1 => by
    have ih0 := grillelaw08_Heavy.mono_l k
    · intro y0 y1 y2 y3
      unfold grillelaw08_Heavy.l0
      repeat' first
      | (with_reducible exact ih0 _ _ _ _)
      | (with_reducible exact LeO.refl _)
      | (with_reducible exact LeO.none _)
      | (with_reducible refine LeO.ite ?_ ?_)
      | (with_reducible refine LeO.bind ?_ (fun _ => ?_))
      | exact ih0 _ _ _ _
      | exact LeO.none _
      | refine LeO.ite ?_ ?_
      | refine LeO.bind ?_ (fun _ => ?_)
theorem grillelaw08_Heavy.mono : ∀ a0 k, LeO (grillelaw08_Heavy.f k a0) (grillelaw08_Heavy.f (k + 1) a0) := by
  intro a0 k
  have ih0 := grillelaw08_Heavy.mono_l k
  unfold grillelaw08_Heavy.f
  repeat' first
      | (with_reducible exact ih0 _ _ _ _)
      | (with_reducible exact LeO.refl _)
      | (with_reducible exact LeO.none _)
      | (with_reducible refine LeO.ite ?_ ?_)
      | (with_reducible refine LeO.bind ?_ (fun _ => ?_))
      | exact ih0 _ _ _ _
      | exact LeO.none _
      | refine LeO.ite ?_ ?_
      | refine LeO.bind ?_ (fun _ => ?_)
set_option maxHeartbeats 8000000 in
set_option maxRecDepth 100000 in
theorem grillelaw08_Heavy.calls (k : Nat) (A0 : Option Addr) (c0 : Nat) (l0 : List (S24)) (r : Bool) (w : World) (hr0 : Kd.C k24 w A0 l0.length l0) (hc0 : l0.length ≤ c0) (h : grillelaw08_Heavy.f k l0 = some r) :
    Calls Tryd.prog 6 #[.slice A0 l0.length c0] w fun e w' => e = .returned (.bool r) ∧ Below w.heap.size w w' := by
  have hu24 := Tryd.underlying24
  have HR0 := Aside0.mk hr0
  have HC0 := Aside0.mk hc0
  clear hr0 hc0
  have HB := Aside0.mk (Below.refl w.heap.size w)
  have H : (grillelaw08_Heavy.l0 k l0 l0 (l0.length : Int) 0) = some r := h
  clear h
  have H' := Aside0.mk H
  clear H
  go_enter Tryd.func6, Tryd.ntmps6
  go_wp2
  go_loopg [7] k (fun kq v7 w' => ∃ (x7_1 : Int), v7 = .int .i64 x7_1 ∧ Aside0 (grillelaw08_Heavy.l0 kq l0 l0 (l0.length : Int) x7_1 = some r) ∧ Aside0 (kq ≤ k) ∧ Aside0 (Below w.heap.size w w'))
  case atStart => exact ⟨(0), (by first | rfl | (simp; done) | (simp [*]; done)), H', ⟨Nat.le_refl _⟩, ⟨by repeat (first | (with_reducible first | exact HB.out | apply below_alloc | apply pw_below_drewN | apply below_drew1) | exact HB.out)⟩⟩
  case round =>
    clear H'
    obtain ⟨x7_1, rfl, HA, HK1, HB⟩ := hrel
    cases gk with
    | zero => exact absurd HA.out (by simp [grillelaw08_Heavy.l0])
    | succ k1 =>
      have H := HA.out
      clear HA
      simp only [grillelaw08_Heavy.l0] at H
      by_cases c2 : x7_1 < (l0.length : Int)
      · rw [if_pos c2] at H
        have c2b0 : decide (x7_1 < (l0.length : Int)) = true := decide_eq_true c2
        clear c2
        by_cases c3 : 0 ≤ x7_1
        · rw [if_pos c3] at H
          have c3b0 : decide (0 ≤ x7_1) = true := decide_eq_true c3
          clear c3
          by_cases c4 : x7_1 < (l0.length : Int)
          · rw [if_pos c4] at H
            have c4b0 : decide (x7_1 < (l0.length : Int)) = true := decide_eq_true c4
            clear c4
            by_cases c5 : (((rd_T24 l0 x7_1).f3).length : Int) > 200
            · rw [if_pos c5] at H
              have c5b0 : decide (200 < (((rd_T24 l0 x7_1).f3).length : Int)) = true := decide_eq_true c5
              have c5b1 : decide (200 < ((rd_T24 l0 x7_1).f3).length) = true := decide_eq_true (by omega)
              clear c5
              obtain rfl := Option.some.inj H
              have p1 : 0 ≤ (x7_1 : Int) := of_decide_eq_true (by first | (with_reducible assumption) | assumption)
              have q1 : x7_1 < (l0.length : Int) := of_decide_eq_true (by first | (with_reducible assumption) | assumption)
              obtain ⟨ad1, A1_3, c1_3, e1, hx1_0, hx1_1, hx1_2, hx1_3, hl1_3, hi1_3⟩ := at_T24 HR0.out x7_1 p1 q1
              cases e1
              replace hx1_0 := (HB.out.cell (World.block_lt_of_cell? w _ hx1_0)).trans hx1_0
              replace hx1_1 := (HB.out.cell (World.block_lt_of_cell? w _ hx1_1)).trans hx1_1
              replace hx1_2 := (HB.out.cell (World.block_lt_of_cell? w _ hx1_2)).trans hx1_2
              replace hx1_3 := (HB.out.cell (World.block_lt_of_cell? w _ hx1_3)).trans hx1_3
              have HR1_3 := Aside0.mk hi1_3
              have HC1_3 := Aside0.mk hl1_3
              clear hi1_3 hl1_3
              replace p1 := eq_true p1
              replace q1 := eq_true q1
              go_wp2_with (first | ((with_reducible refine gate_dst (N := 4) rfl ?_); (try (refine gate_guard (by rfl) ?_; dsimp only)); refine box_event ?hg (N := 4) ?hd (cs := #[.int .i64 0, .string (⟨#[]⟩ : ByteArray), .string (⟨#[]⟩ : ByteArray), .slice none 0 0]) (t := 24) ?hr ?_; (case hd => rfl); (case hg => rfl); (case hr => first | (go_simp; done) | (go_simp; rfl)); intro gb2 hg w6 hbox hb; have n0_ := Aside0.mk (below_step (by repeat (first | (with_reducible first | exact HB.out | apply below_alloc | apply pw_below_drewN | apply below_drew1) | exact HB.out)) hb); have n1_ := Aside0.mk (hbox); have n2_ := Aside0.mk ((by rw [hg]; exact (below_size (by repeat (first | (with_reducible first | exact HB.out | apply below_alloc | apply pw_below_drewN | apply below_drew1) | exact HB.out))) : w.heap.size ≤ gb2)); have n3_ := Aside0.mk ((by rw [hg]; exact (below_size (by repeat (first | (with_reducible first | exact HB.out | apply below_alloc | apply pw_below_drewN | apply below_drew1) | exact HB.out))) : w.heap.size ≤ gb2)); clear HB; have HB := n0_; have BK2 := n1_; have GW2 := n2_; have GE2 := n3_; clear n0_ n1_ n2_ n3_; clear hb hbox hg; have hcz7_0 : w6.cell? ⟨gb2, 0, none⟩ = some (.int .i64 0) := (blk_cell BK2.out 0).trans rfl; have hcz7_1 : w6.cell? ⟨gb2, 1, none⟩ = some (.string (⟨#[]⟩ : ByteArray)) := (blk_cell BK2.out 1).trans rfl; have hcz7_2 : w6.cell? ⟨gb2, 2, none⟩ = some (.string (⟨#[]⟩ : ByteArray)) := (blk_cell BK2.out 2).trans rfl; have hcz7_3 : w6.cell? ⟨gb2, 3, none⟩ = some (.slice none 0 0) := (blk_cell BK2.out 3).trans rfl; have hfz7_0 := blk_frozen BK2.out 0; have hfz7_1 := blk_frozen BK2.out 1; have hfz7_2 := blk_frozen BK2.out 2; have hfz7_3 := blk_frozen BK2.out 3))
              go_ret
              exact ⟨by first | rfl | (simp [errW_none, errW_some] <;> rfl) | (simp [*, errW_none, errW_some] <;> rfl), by repeat (first | (with_reducible first | exact HB.out | apply below_alloc | apply pw_below_drewN | apply below_drew1 | refine below_set ?_ GE2.out) | exact HB.out)⟩
            · rw [if_neg c5] at H
              have c5b0 : decide (200 < (((rd_T24 l0 x7_1).f3).length : Int)) = false := decide_eq_false c5
              have c5b1 : decide (200 < ((rd_T24 l0 x7_1).f3).length) = false := decide_eq_false (by omega)
              clear c5
              by_cases c8 : (((rd_T24 l0 x7_1).f2).size : Int) > 2000
              · rw [if_pos c8] at H
                have c8b0 : decide (2000 < (((rd_T24 l0 x7_1).f2).size : Int)) = true := decide_eq_true c8
                have c8b1 : decide (2000 < ((rd_T24 l0 x7_1).f2).size) = true := decide_eq_true (by omega)
                clear c8
                obtain rfl := Option.some.inj H
                have p1 : 0 ≤ (x7_1 : Int) := of_decide_eq_true (by first | (with_reducible assumption) | assumption)
                have q1 : x7_1 < (l0.length : Int) := of_decide_eq_true (by first | (with_reducible assumption) | assumption)
                obtain ⟨ad1, A1_3, c1_3, e1, hx1_0, hx1_1, hx1_2, hx1_3, hl1_3, hi1_3⟩ := at_T24 HR0.out x7_1 p1 q1
                cases e1
                replace hx1_0 := (HB.out.cell (World.block_lt_of_cell? w _ hx1_0)).trans hx1_0
                replace hx1_1 := (HB.out.cell (World.block_lt_of_cell? w _ hx1_1)).trans hx1_1
                replace hx1_2 := (HB.out.cell (World.block_lt_of_cell? w _ hx1_2)).trans hx1_2
                replace hx1_3 := (HB.out.cell (World.block_lt_of_cell? w _ hx1_3)).trans hx1_3
                have HR1_3 := Aside0.mk hi1_3
                have HC1_3 := Aside0.mk hl1_3
                clear hi1_3 hl1_3
                replace p1 := eq_true p1
                replace q1 := eq_true q1
                go_wp2_with (first | ((with_reducible refine gate_dst (N := 4) rfl ?_); (try (refine gate_guard (by rfl) ?_; dsimp only)); refine box_event ?hg (N := 4) ?hd (cs := #[.int .i64 0, .string (⟨#[]⟩ : ByteArray), .string (⟨#[]⟩ : ByteArray), .slice none 0 0]) (t := 24) ?hr ?_; (case hd => rfl); (case hg => rfl); (case hr => first | (go_simp; done) | (go_simp; rfl)); intro gb2 hg w9 hbox hb; have n0_ := Aside0.mk (below_step (by repeat (first | (with_reducible first | exact HB.out | apply below_alloc | apply pw_below_drewN | apply below_drew1) | exact HB.out)) hb); have n1_ := Aside0.mk (hbox); have n2_ := Aside0.mk ((by rw [hg]; exact (below_size (by repeat (first | (with_reducible first | exact HB.out | apply below_alloc | apply pw_below_drewN | apply below_drew1) | exact HB.out))) : w.heap.size ≤ gb2)); have n3_ := Aside0.mk ((by rw [hg]; exact (below_size (by repeat (first | (with_reducible first | exact HB.out | apply below_alloc | apply pw_below_drewN | apply below_drew1) | exact HB.out))) : w.heap.size ≤ gb2)); clear HB; have HB := n0_; have BK2 := n1_; have GW2 := n2_; have GE2 := n3_; clear n0_ n1_ n2_ n3_; clear hb hbox hg; have hcz10_0 : w9.cell? ⟨gb2, 0, none⟩ = some (.int .i64 0) := (blk_cell BK2.out 0).trans rfl; have hcz10_1 : w9.cell? ⟨gb2, 1, none⟩ = some (.string (⟨#[]⟩ : ByteArray)) := (blk_cell BK2.out 1).trans rfl; have hcz10_2 : w9.cell? ⟨gb2, 2, none⟩ = some (.string (⟨#[]⟩ : ByteArray)) := (blk_cell BK2.out 2).trans rfl; have hcz10_3 : w9.cell? ⟨gb2, 3, none⟩ = some (.slice none 0 0) := (blk_cell BK2.out 3).trans rfl; have hfz10_0 := blk_frozen BK2.out 0; have hfz10_1 := blk_frozen BK2.out 1; have hfz10_2 := blk_frozen BK2.out 2; have hfz10_3 := blk_frozen BK2.out 3))
                go_ret
                exact ⟨by first | rfl | (simp [errW_none, errW_some] <;> rfl) | (simp [*, errW_none, errW_some] <;> rfl), by repeat (first | (with_reducible first | exact HB.out | apply below_alloc | apply pw_below_drewN | apply below_drew1 | refine below_set ?_ GE2.out) | exact HB.out)⟩
              · rw [if_neg c8] at H
                have c8b0 : decide (2000 < (((rd_T24 l0 x7_1).f2).size : Int)) = false := decide_eq_false c8
                have c8b1 : decide (2000 < ((rd_T24 l0 x7_1).f2).size) = false := decide_eq_false (by omega)
                clear c8
                by_cases c11 : (((rd_T24 l0 x7_1).f1).size : Int) > 2000
                · rw [if_pos c11] at H
                  have c11b0 : decide (2000 < (((rd_T24 l0 x7_1).f1).size : Int)) = true := decide_eq_true c11
                  have c11b1 : decide (2000 < ((rd_T24 l0 x7_1).f1).size) = true := decide_eq_true (by omega)
                  clear c11
                  obtain rfl := Option.some.inj H
                  have p1 : 0 ≤ (x7_1 : Int) := of_decide_eq_true (by first | (with_reducible assumption) | assumption)
                  have q1 : x7_1 < (l0.length : Int) := of_decide_eq_true (by first | (with_reducible assumption) | assumption)
                  obtain ⟨ad1, A1_3, c1_3, e1, hx1_0, hx1_1, hx1_2, hx1_3, hl1_3, hi1_3⟩ := at_T24 HR0.out x7_1 p1 q1
                  cases e1
                  replace hx1_0 := (HB.out.cell (World.block_lt_of_cell? w _ hx1_0)).trans hx1_0
                  replace hx1_1 := (HB.out.cell (World.block_lt_of_cell? w _ hx1_1)).trans hx1_1
                  replace hx1_2 := (HB.out.cell (World.block_lt_of_cell? w _ hx1_2)).trans hx1_2
                  replace hx1_3 := (HB.out.cell (World.block_lt_of_cell? w _ hx1_3)).trans hx1_3
                  have HR1_3 := Aside0.mk hi1_3
                  have HC1_3 := Aside0.mk hl1_3
                  clear hi1_3 hl1_3
                  replace p1 := eq_true p1
                  replace q1 := eq_true q1
                  go_wp2_with (first | ((with_reducible refine gate_dst (N := 4) rfl ?_); (try (refine gate_guard (by rfl) ?_; dsimp only)); refine box_event ?hg (N := 4) ?hd (cs := #[.int .i64 0, .string (⟨#[]⟩ : ByteArray), .string (⟨#[]⟩ : ByteArray), .slice none 0 0]) (t := 24) ?hr ?_; (case hd => rfl); (case hg => rfl); (case hr => first | (go_simp; done) | (go_simp; rfl)); intro gb2 hg w12 hbox hb; have n0_ := Aside0.mk (below_step (by repeat (first | (with_reducible first | exact HB.out | apply below_alloc | apply pw_below_drewN | apply below_drew1) | exact HB.out)) hb); have n1_ := Aside0.mk (hbox); have n2_ := Aside0.mk ((by rw [hg]; exact (below_size (by repeat (first | (with_reducible first | exact HB.out | apply below_alloc | apply pw_below_drewN | apply below_drew1) | exact HB.out))) : w.heap.size ≤ gb2)); have n3_ := Aside0.mk ((by rw [hg]; exact (below_size (by repeat (first | (with_reducible first | exact HB.out | apply below_alloc | apply pw_below_drewN | apply below_drew1) | exact HB.out))) : w.heap.size ≤ gb2)); clear HB; have HB := n0_; have BK2 := n1_; have GW2 := n2_; have GE2 := n3_; clear n0_ n1_ n2_ n3_; clear hb hbox hg; have hcz13_0 : w12.cell? ⟨gb2, 0, none⟩ = some (.int .i64 0) := (blk_cell BK2.out 0).trans rfl; have hcz13_1 : w12.cell? ⟨gb2, 1, none⟩ = some (.string (⟨#[]⟩ : ByteArray)) := (blk_cell BK2.out 1).trans rfl; have hcz13_2 : w12.cell? ⟨gb2, 2, none⟩ = some (.string (⟨#[]⟩ : ByteArray)) := (blk_cell BK2.out 2).trans rfl; have hcz13_3 : w12.cell? ⟨gb2, 3, none⟩ = some (.slice none 0 0) := (blk_cell BK2.out 3).trans rfl; have hfz13_0 := blk_frozen BK2.out 0; have hfz13_1 := blk_frozen BK2.out 1; have hfz13_2 := blk_frozen BK2.out 2; have hfz13_3 := blk_frozen BK2.out 3))
                  go_ret
                  exact ⟨by first | rfl | (simp [errW_none, errW_some] <;> rfl) | (simp [*, errW_none, errW_some] <;> rfl), by repeat (first | (with_reducible first | exact HB.out | apply below_alloc | apply pw_below_drewN | apply below_drew1 | refine below_set ?_ GE2.out) | exact HB.out)⟩
                · rw [if_neg c11] at H
                  have c11b0 : decide (2000 < (((rd_T24 l0 x7_1).f1).size : Int)) = false := decide_eq_false c11
                  have c11b1 : decide (2000 < ((rd_T24 l0 x7_1).f1).size) = false := decide_eq_false (by omega)
                  clear c11
                  have H' := Aside0.mk H
                  clear H
                  have p1 : 0 ≤ (x7_1 : Int) := of_decide_eq_true (by first | (with_reducible assumption) | assumption)
                  have q1 : x7_1 < (l0.length : Int) := of_decide_eq_true (by first | (with_reducible assumption) | assumption)
                  obtain ⟨ad1, A1_3, c1_3, e1, hx1_0, hx1_1, hx1_2, hx1_3, hl1_3, hi1_3⟩ := at_T24 HR0.out x7_1 p1 q1
                  cases e1
                  replace hx1_0 := (HB.out.cell (World.block_lt_of_cell? w _ hx1_0)).trans hx1_0
                  replace hx1_1 := (HB.out.cell (World.block_lt_of_cell? w _ hx1_1)).trans hx1_1
                  replace hx1_2 := (HB.out.cell (World.block_lt_of_cell? w _ hx1_2)).trans hx1_2
                  replace hx1_3 := (HB.out.cell (World.block_lt_of_cell? w _ hx1_3)).trans hx1_3
                  have HR1_3 := Aside0.mk hi1_3
                  have HC1_3 := Aside0.mk hl1_3
                  clear hi1_3 hl1_3
                  replace p1 := eq_true p1
                  replace q1 := eq_true q1
                  go_wp2_with (first | ((with_reducible refine gate_dst (N := 4) rfl ?_); (try (refine gate_guard (by rfl) ?_; dsimp only)); refine box_event ?hg (N := 4) ?hd (cs := #[.int .i64 0, .string (⟨#[]⟩ : ByteArray), .string (⟨#[]⟩ : ByteArray), .slice none 0 0]) (t := 24) ?hr ?_; (case hd => rfl); (case hg => rfl); (case hr => first | (go_simp; done) | (go_simp; rfl)); intro gb2 hg w14 hbox hb; have n0_ := Aside0.mk (below_step (by repeat (first | (with_reducible first | exact HB.out | apply below_alloc | apply pw_below_drewN | apply below_drew1) | exact HB.out)) hb); have n1_ := Aside0.mk (hbox); have n2_ := Aside0.mk ((by rw [hg]; exact (below_size (by repeat (first | (with_reducible first | exact HB.out | apply below_alloc | apply pw_below_drewN | apply below_drew1) | exact HB.out))) : w.heap.size ≤ gb2)); have n3_ := Aside0.mk ((by rw [hg]; exact (below_size (by repeat (first | (with_reducible first | exact HB.out | apply below_alloc | apply pw_below_drewN | apply below_drew1) | exact HB.out))) : w.heap.size ≤ gb2)); clear HB; have HB := n0_; have BK2 := n1_; have GW2 := n2_; have GE2 := n3_; clear n0_ n1_ n2_ n3_; clear hb hbox hg; have hcz15_0 : w14.cell? ⟨gb2, 0, none⟩ = some (.int .i64 0) := (blk_cell BK2.out 0).trans rfl; have hcz15_1 : w14.cell? ⟨gb2, 1, none⟩ = some (.string (⟨#[]⟩ : ByteArray)) := (blk_cell BK2.out 1).trans rfl; have hcz15_2 : w14.cell? ⟨gb2, 2, none⟩ = some (.string (⟨#[]⟩ : ByteArray)) := (blk_cell BK2.out 2).trans rfl; have hcz15_3 : w14.cell? ⟨gb2, 3, none⟩ = some (.slice none 0 0) := (blk_cell BK2.out 3).trans rfl; have hfz15_0 := blk_frozen BK2.out 0; have hfz15_1 := blk_frozen BK2.out 1; have hfz15_2 := blk_frozen BK2.out 2; have hfz15_3 := blk_frozen BK2.out 3))
                  go_roundg k1
                  case measure => have := HK1.out; omega
                  case rel => exact ⟨(wrap64 (x7_1 + 1)), (by first | rfl | (simp; done) | (simp [*]; done)), H', ⟨by have := HK1.out; omega⟩, ⟨by repeat (first | (with_reducible first | exact HB.out | apply below_alloc | apply pw_below_drewN | apply below_drew1 | refine below_set ?_ GE2.out) | exact HB.out)⟩⟩
          · rw [if_neg c4] at H
            exact absurd H (by simp)
        · rw [if_neg c3] at H
          exact absurd H (by simp)
      · rw [if_neg c2] at H
        have c2b0 : decide (x7_1 < (l0.length : Int)) = false := decide_eq_false c2
        clear c2
        obtain rfl := Option.some.inj H
        go_wp2
        go_ret
        exact ⟨by first | rfl | (simp [errW_none, errW_some] <;> rfl) | (simp [*, errW_none, errW_some] <;> rfl), by repeat (first | (with_reducible first | exact HB.out | apply below_alloc | apply pw_below_drewN | apply below_drew1) | exact HB.out)⟩
end Go.Proofs.YtpbkdeelkpjccaaDoor.G
