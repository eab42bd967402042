/- Merged by merge.py out of: Gtagreal, Hresolve, Gtagplain. -/
import Derived.Test.YtpbkdeelkpjccaaDoorM03
import Derived.Test.YtpbkdeelkpjccaaDoorM08
-- Laid by xprint.py (this work's own driver of the kit's printer).
namespace Go.Proofs.YtpbkdeelkpjccaaDoor.G
open Go.RowKit Go.Proofs.YtpbkdeelkpjccaaDoorW.PrintWords Go.Proofs.YtpbkdeelkpjccaaDoorW.PrintLast Go.Proofs.YtpbkdeelkpjccaaDoorW.PrintMore
attribute [local go_sem] max2_int min2_int max_two min_two max_three min_three max_four min_four   -- for this text's walks alone
set_option linter.unusedVariables false
set_option linter.unusedSimpArgs false
def tag_real.j0 : Nat → ByteArray → Int → Int → Option (Bool)
  | 0, _, _, _ => none
  | k + 1, x3, x4, x5 => if (wrap64 (x4 + x5)) = 0 then (some false) else (if x3.toList = ([] : List UInt8) then (some true) else (if 0 < (x3.size : Int) then (if (bt x3 0) = 101 then (if 1 ≤ (x3.size : Int) then ((tag_sign.f (x3.extract 1 x3.size)).bind fun t8 => ((tag_all.f k t8 10).bind fun t9 => (some t9))) else (none)) else (if (bt x3 0) = 69 then (if 1 ≤ (x3.size : Int) then ((tag_sign.f (x3.extract 1 x3.size)).bind fun t10 => ((tag_all.f k t10 10).bind fun t11 => (some t11))) else (none)) else (some false))) else (none)))
def tag_real.f (k : Nat) (a0 : ByteArray) : Option (Bool) := (tag_sign.f a0).bind fun t1 => ((tag_digits.f k t1 10).bind fun bt2 => ((strings_CutPrefix.f bt2.1 (⟨#[46]⟩ : ByteArray)).bind fun bt4 => (if bt4.2 = true then ((tag_digits.f k bt4.1 10).bind fun bt6 => (tag_real.j0 k bt6.1 bt2.2 bt6.2)) else (tag_real.j0 k bt2.1 bt2.2 0))))
theorem tag_real.mono_l : ∀ k, (∀ y0 y1 y2, LeO (tag_real.j0 k y0 y1 y2) (tag_real.j0 (k + 1) y0 y1 y2))
  | 0 => fun _ _ _ r h => by simp [tag_real.j0] at h
  | k + 1 => by
    have ih0 := tag_real.mono_l k
    · intro y0 y1 y2
      unfold tag_real.j0
      repeat' first
      | (with_reducible exact ih0 _ _ _)
      | (with_reducible exact tag_all.mono _ _ _)
      | (with_reducible exact tag_digits.mono _ _ _)
      | (with_reducible exact LeO.refl _)
      | (with_reducible exact LeO.none _)
      | (with_reducible refine LeO.ite ?_ ?_)
      | (with_reducible refine LeO.bind ?_ (fun _ => ?_))
      | exact ih0 _ _ _
      | exact tag_all.mono _ _ _
      | exact tag_digits.mono _ _ _
      | exact LeO.none _
      | refine LeO.ite ?_ ?_
      | refine LeO.bind ?_ (fun _ => ?_)
theorem tag_real.mono : ∀ a0 k, LeO (tag_real.f k a0) (tag_real.f (k + 1) a0) := by
  intro a0 k
  have ih0 := tag_real.mono_l k
  unfold tag_real.f
  repeat' first
      | (with_reducible exact ih0 _ _ _)
      | (with_reducible exact tag_all.mono _ _ _)
      | (with_reducible exact tag_digits.mono _ _ _)
      | (with_reducible exact LeO.refl _)
      | (with_reducible exact LeO.none _)
      | (with_reducible refine LeO.ite ?_ ?_)
      | (with_reducible refine LeO.bind ?_ (fun _ => ?_))
      | exact ih0 _ _ _
      | exact tag_all.mono _ _ _
      | exact tag_digits.mono _ _ _
      | exact LeO.none _
      | refine LeO.ite ?_ ?_
      | refine LeO.bind ?_ (fun _ => ?_)
set_option maxHeartbeats 8000000 in
set_option maxRecDepth 100000 in
theorem tag_real.calls (k : Nat) (a0 : ByteArray) (r : Bool) (w : World) (h : tag_real.f k a0 = some r) :
    Calls Tryd.prog 89 #[.string a0] w fun e w' => e = .returned (.bool r) ∧ Drawn0 w w' := by
  have H : ((tag_sign.f a0).bind fun t1 => ((tag_digits.f k t1 10).bind fun bt2 => ((strings_CutPrefix.f bt2.1 (⟨#[46]⟩ : ByteArray)).bind fun bt4 => (if bt4.2 = true then ((tag_digits.f k bt4.1 10).bind fun bt6 => (tag_real.j0 k bt6.1 bt2.2 bt6.2)) else (tag_real.j0 k bt2.1 bt2.2 0))))) = some r := h
  clear h
  replace H := Option.bind_eq_some_iff.mp H
  obtain ⟨t1, A20, H⟩ := H
  replace H : ((tag_digits.f k t1 10).bind fun bt2 => ((strings_CutPrefix.f bt2.1 (⟨#[46]⟩ : ByteArray)).bind fun bt4 => (if bt4.2 = true then ((tag_digits.f k bt4.1 10).bind fun bt6 => (tag_real.j0 k bt6.1 bt2.2 bt6.2)) else (tag_real.j0 k bt2.1 bt2.2 0)))) = some r := H
  have A2 := Aside0.mk A20
  clear A20
  replace H := Option.bind_eq_some_iff.mp H
  obtain ⟨⟨t2, t3⟩, A30, H⟩ := H
  replace H : ((strings_CutPrefix.f t2 (⟨#[46]⟩ : ByteArray)).bind fun bt4 => (if bt4.2 = true then ((tag_digits.f k bt4.1 10).bind fun bt6 => (tag_real.j0 k bt6.1 t3 bt6.2)) else (tag_real.j0 k t2 t3 0))) = some r := H
  have A3 := Aside0.mk A30
  clear A30
  replace H := Option.bind_eq_some_iff.mp H
  obtain ⟨⟨t4, t5⟩, A40, H⟩ := H
  replace H : (if t5 = true then ((tag_digits.f k t4 10).bind fun bt6 => (tag_real.j0 k bt6.1 t3 bt6.2)) else (tag_real.j0 k t2 t3 0)) = some r := H
  have A4 := Aside0.mk A40
  clear A40
  have HC5 := Aside0.mk H
  clear H
  go_enter Tryd.func89, Tryd.ntmps89
  go_upto_if 19 with (first | ((with_reducible refine gate_callee (f := 87) rfl ?_); refine goesL_ (some 10) rfl rfl Tryd.func87 (by kernel_rfl) rfl #[.string a0] rfl (by (try simp only [List.map_toArray, List.map_cons, List.map_nil]); first | done | rfl | (simp only [List.length_drop, List.length_take]; rfl)) ?_; (with_reducible refine (tag_sign.calls a0 t1 _ A2.out).mono ?_); rintro e w' ⟨rfl, ⟨nd, rfl⟩⟩; refine ⟨_, rfl, ?_⟩) | ((with_reducible refine gate_callee (f := 97) rfl ?_); refine goesL_ (some 11) rfl rfl Tryd.func97 (by kernel_rfl) rfl #[.string t1, .int .i64 10] rfl (by (try simp only [List.map_toArray, List.map_cons, List.map_nil]); first | done | rfl | (simp only [List.length_drop, List.length_take]; rfl)) ?_; (with_reducible refine (tag_digits.calls k t1 10 t2 t3 _ A3.out).mono ?_); rintro e w' ⟨rfl, ⟨nd, rfl⟩⟩; refine ⟨_, rfl, ?_⟩) | ((with_reducible refine gate_callee (f := 82) rfl ?_); refine goesL_ (some 16) rfl rfl Tryd.func82 (by kernel_rfl) rfl #[.string t2, .string (⟨#[46]⟩ : ByteArray)] rfl (by (try simp only [List.map_toArray, List.map_cons, List.map_nil]); first | done | rfl | (simp only [List.length_drop, List.length_take]; rfl)) ?_; (with_reducible refine (strings_CutPrefix.calls t2 (⟨#[46]⟩ : ByteArray) t4 t5 _ A4.out).mono ?_); rintro e w' ⟨rfl, ⟨nd, rfl⟩⟩; refine ⟨_, rfl, ?_⟩))
  (try simp only [Act.put, List.setIfInBounds_toArray, List.set_cons_zero, List.set_cons_succ])
  go_cut [3, 5] (fun v3 v5 wc => ∃ (kq : Nat) (x3_4 : ByteArray) (x5_4 : Int), v3 = .string x3_4 ∧ v5 = .int .i64 x5_4 ∧ Aside0 (tag_real.j0 kq x3_4 t3 x5_4 = some r) ∧ Aside0 (kq ≤ k) ∧ Drawn0 w wc)
  case first =>
    have H := HC5.out
    clear HC5
    by_cases c6 : t5 = true
    · subst c6
      have H1 : ((tag_digits.f k t4 10).bind fun bt6 => (tag_real.j0 k bt6.1 t3 bt6.2)) = some r := by rw [if_pos rfl] at H; exact H
      clear H
      have H := H1
      clear H1
      replace H := Option.bind_eq_some_iff.mp H
      obtain ⟨⟨t6, t7⟩, A70, H⟩ := H
      replace H : (tag_real.j0 k t6 t3 t7) = some r := H
      have A7 := Aside0.mk A70
      clear A70
      have H' := Aside0.mk H
      clear H
      go_wp2_with (first | ((with_reducible refine gate_callee (f := 97) rfl ?_); refine goesL_ (some 22) rfl rfl Tryd.func97 (by kernel_rfl) rfl #[.string t4, .int .i64 10] rfl (by (try simp only [List.map_toArray, List.map_cons, List.map_nil]); first | done | rfl | (simp only [List.length_drop, List.length_take]; rfl)) ?_; (with_reducible refine (tag_digits.calls k t4 10 t6 t7 _ A7.out).mono ?_); rintro e w' ⟨rfl, ⟨nd, rfl⟩⟩; refine ⟨_, rfl, ?_⟩))
      go_meet
      case rel => exact ⟨_, (t6), (t7), (by first | rfl | (simp; done) | (simp [*]; done)), (by first | rfl | (simp; done) | (simp [*]; done)), H', ⟨by first | omega | exact Nat.le_refl _⟩, by repeat (first | exact Drawn0.refl _ | apply Drawn0.step)⟩
    · replace c6 := Bool.eq_false_iff.mpr c6
      subst c6
      have H1 : (tag_real.j0 k t2 t3 0) = some r := by rw [if_neg (show ¬ (false = true) by decide)] at H; exact H
      clear H
      have H := H1
      clear H1
      have H' := Aside0.mk H
      clear H
      go_wp2
      go_meet
      case rel => exact ⟨_, (t2), (0), (by first | rfl | (simp; done) | (simp [*]; done)), (by first | rfl | (simp; done) | (simp [*]; done)), H', ⟨by first | omega | exact Nat.le_refl _⟩, by repeat (first | exact Drawn0.refl _ | apply Drawn0.step)⟩
  case rest =>
    clear HC5
    try clear p2
    try clear c6
    obtain ⟨kq, x3_4, x5_4, rfl, rfl, HA, HJ4, ⟨mc4, rfl⟩⟩ := hcut
    cases kq with
    | zero => exact absurd HA.out (by simp [tag_real.j0])
    | succ kj4 =>
      have H := HA.out
      clear HA
      simp only [tag_real.j0] at H
      by_cases c8 : (wrap64 (t3 + x5_4)) = 0
      · rw [if_pos c8] at H
        have c8b0 : ((wrap64 (t3 + x5_4)) == 0) = true := beq_iff_eq.mpr c8
        have c8b1 : ((wrap64 (t3 + x5_4)) != 0) = false := bne_eq_false_iff_eq.mpr c8
        clear c8
        obtain rfl := Option.some.inj H
        go_wp2
        go_ret
        exact ⟨by first | rfl | (simp; done) | (simp [*]; done), by repeat (first | exact Drawn0.refl _ | apply Drawn0.step)⟩
      · rw [if_neg c8] at H
        have c8b0 : ((wrap64 (t3 + x5_4)) == 0) = false := beq_eq_false_iff_ne.mpr c8
        have c8b1 : ((wrap64 (t3 + x5_4)) != 0) = true := bne_iff_ne.mpr c8
        by_cases c9 : x3_4.toList = ([] : List UInt8)
        · rw [if_pos c9] at H
          have c9b0 : (x3_4.toList == ([] : List UInt8)) = true := beq_iff_eq.mpr c9
          have c9b1 : (x3_4.toList != ([] : List UInt8)) = false := bne_eq_false_iff_eq.mpr c9
          clear c9
          obtain rfl := Option.some.inj H
          go_wp2
          go_ret
          exact ⟨by first | rfl | (simp; done) | (simp [*]; done), by repeat (first | exact Drawn0.refl _ | apply Drawn0.step)⟩
        · rw [if_neg c9] at H
          have c9b0 : (x3_4.toList == ([] : List UInt8)) = false := beq_eq_false_iff_ne.mpr c9
          have c9b1 : (x3_4.toList != ([] : List UInt8)) = true := bne_iff_ne.mpr c9
          by_cases c10 : 0 < (x3_4.size : Int)
          · rw [if_pos c10] at H
            have c10b0 : decide (0 < (x3_4.size : Int)) = true := decide_eq_true c10
            have c10b1 : decide (0 < x3_4.size) = true := decide_eq_true (by omega)
            clear c10
            by_cases c12 : (bt x3_4 0) = 101
            · rw [if_pos c12] at H
              have c12b0 : ((bt x3_4 0) == 101) = true := beq_iff_eq.mpr c12
              have c12b1 : ((bt x3_4 0) != 101) = false := bne_eq_false_iff_eq.mpr c12
              clear c12
              by_cases c13 : 1 ≤ (x3_4.size : Int)
              · rw [if_pos c13] at H
                have c13b0 := eq_true c13
                have c13b1 : decide (1 ≤ (x3_4.size : Int)) = true := decide_eq_true c13
                clear c13
                replace H := Option.bind_eq_some_iff.mp H
                obtain ⟨t8, A140, H⟩ := H
                replace H : ((tag_all.f kj4 t8 10).bind fun t9 => (some t9)) = some r := H
                have A14 := Aside0.mk A140
                clear A140
                replace H := Option.bind_eq_some_iff.mp H
                obtain ⟨t9, A150, H⟩ := H
                replace H : (some t9) = some r := H
                have A15 := Aside0.mk A150
                clear A150
                obtain rfl := Option.some.inj H
                have p11 : 0 ≤ (0 : Int) := (by omega)
                have q11 : 0 < x3_4.size := (by have : (0 : Int) < (x3_4.size : Int) := of_decide_eq_true (by first | (with_reducible assumption) | assumption); omega)
                have hx11 : ∀ h : 0 < x3_4.size, ((x3_4[0]'h).toNat : Int) = bt x3_4 0 := bt_at x3_4 0
                clear p11
                have qi11 : (0 < (x3_4.size : Int)) = True := eq_true (of_decide_eq_true (by first | (with_reducible assumption) | assumption))
                replace q11 := eq_true q11
                go_wp2_with (first | (go_at_call 87; (with_reducible refine (tag_sign.calls (x3_4.extract 1 x3_4.size) t8 _ A14.out).mono ?_); rintro e w' ⟨rfl, ⟨nd, rfl⟩⟩) | (go_at_call 96; (with_reducible refine (tag_all.calls kj4 t8 10 t9 _ A15.out).mono ?_); rintro e w' ⟨rfl, ⟨nd, rfl⟩⟩))
                go_ret
                exact ⟨by first | rfl | (simp; done) | (simp [*]; done), by repeat (first | exact Drawn0.refl _ | apply Drawn0.step)⟩
              · rw [if_neg c13] at H
                exact absurd H (by simp)
            · rw [if_neg c12] at H
              have c12b0 : ((bt x3_4 0) == 101) = false := beq_eq_false_iff_ne.mpr c12
              have c12b1 : ((bt x3_4 0) != 101) = true := bne_iff_ne.mpr c12
              by_cases c17 : (bt x3_4 0) = 69
              · rw [if_pos c17] at H
                have c17b0 : ((bt x3_4 0) == 69) = true := beq_iff_eq.mpr c17
                have c17b1 : ((bt x3_4 0) != 69) = false := bne_eq_false_iff_eq.mpr c17
                clear c17
                by_cases c18 : 1 ≤ (x3_4.size : Int)
                · rw [if_pos c18] at H
                  have c18b0 := eq_true c18
                  have c18b1 : decide (1 ≤ (x3_4.size : Int)) = true := decide_eq_true c18
                  clear c18
                  replace H := Option.bind_eq_some_iff.mp H
                  obtain ⟨t10, A190, H⟩ := H
                  replace H : ((tag_all.f kj4 t10 10).bind fun t11 => (some t11)) = some r := H
                  have A19 := Aside0.mk A190
                  clear A190
                  replace H := Option.bind_eq_some_iff.mp H
                  obtain ⟨t11, A200, H⟩ := H
                  replace H : (some t11) = some r := H
                  have A20 := Aside0.mk A200
                  clear A200
                  obtain rfl := Option.some.inj H
                  have p11 : 0 ≤ (0 : Int) := (by omega)
                  have q11 : 0 < x3_4.size := (by have : (0 : Int) < (x3_4.size : Int) := of_decide_eq_true (by first | (with_reducible assumption) | assumption); omega)
                  have hx11 : ∀ h : 0 < x3_4.size, ((x3_4[0]'h).toNat : Int) = bt x3_4 0 := bt_at x3_4 0
                  clear p11
                  have qi11 : (0 < (x3_4.size : Int)) = True := eq_true (of_decide_eq_true (by first | (with_reducible assumption) | assumption))
                  replace q11 := eq_true q11
                  have p16 : 0 ≤ (0 : Int) := (by omega)
                  have q16 : 0 < x3_4.size := (by have : (0 : Int) < (x3_4.size : Int) := of_decide_eq_true (by first | (with_reducible assumption) | assumption); omega)
                  have hx16 : ∀ h : 0 < x3_4.size, ((x3_4[0]'h).toNat : Int) = bt x3_4 0 := bt_at x3_4 0
                  clear p16
                  have qi16 : (0 < (x3_4.size : Int)) = True := eq_true (of_decide_eq_true (by first | (with_reducible assumption) | assumption))
                  replace q16 := eq_true q16
                  go_wp2_with (first | (go_at_call 87; (with_reducible refine (tag_sign.calls (x3_4.extract 1 x3_4.size) t10 _ A19.out).mono ?_); rintro e w' ⟨rfl, ⟨nd, rfl⟩⟩) | (go_at_call 96; (with_reducible refine (tag_all.calls kj4 t10 10 t11 _ A20.out).mono ?_); rintro e w' ⟨rfl, ⟨nd, rfl⟩⟩))
                  go_ret
                  exact ⟨by first | rfl | (simp; done) | (simp [*]; done), by repeat (first | exact Drawn0.refl _ | apply Drawn0.step)⟩
                · rw [if_neg c18] at H
                  exact absurd H (by simp)
              · rw [if_neg c17] at H
                have c17b0 : ((bt x3_4 0) == 69) = false := beq_eq_false_iff_ne.mpr c17
                have c17b1 : ((bt x3_4 0) != 69) = true := bne_iff_ne.mpr c17
                obtain rfl := Option.some.inj H
                have p11 : 0 ≤ (0 : Int) := (by omega)
                have q11 : 0 < x3_4.size := (by have : (0 : Int) < (x3_4.size : Int) := of_decide_eq_true (by first | (with_reducible assumption) | assumption); omega)
                have hx11 : ∀ h : 0 < x3_4.size, ((x3_4[0]'h).toNat : Int) = bt x3_4 0 := bt_at x3_4 0
                clear p11
                have qi11 : (0 < (x3_4.size : Int)) = True := eq_true (of_decide_eq_true (by first | (with_reducible assumption) | assumption))
                replace q11 := eq_true q11
                have p16 : 0 ≤ (0 : Int) := (by omega)
                have q16 : 0 < x3_4.size := (by have : (0 : Int) < (x3_4.size : Int) := of_decide_eq_true (by first | (with_reducible assumption) | assumption); omega)
                have hx16 : ∀ h : 0 < x3_4.size, ((x3_4[0]'h).toNat : Int) = bt x3_4 0 := bt_at x3_4 0
                clear p16
                have qi16 : (0 < (x3_4.size : Int)) = True := eq_true (of_decide_eq_true (by first | (with_reducible assumption) | assumption))
                replace q16 := eq_true q16
                go_wp2
                go_ret
                exact ⟨by first | rfl | (simp; done) | (simp [*]; done), by repeat (first | exact Drawn0.refl _ | apply Drawn0.step)⟩
          · rw [if_neg c10] at H
            exact absurd H (by simp)
end Go.Proofs.YtpbkdeelkpjccaaDoor.G

namespace Go.Proofs.YtpbkdeelkpjccaaDoor.G
open Go.RowKit Go.Proofs.YtpbkdeelkpjccaaDoorW.PrintWords
set_option linter.unusedVariables false
set_option linter.unusedSimpArgs false
def resolveBy (s : List UInt8) (sg : List UInt8) (wh re : Bool) : List UInt8 :=
  if s.isEmpty || s == [126] || s == [110, 117, 108, 108] || s == [78, 117, 108, 108] || s == [78, 85, 76, 76] then [110, 117, 108, 108]
  else if s == [116, 114, 117, 101] || s == [84, 114, 117, 101] || s == [84, 82, 85, 69] || s == [102, 97, 108, 115, 101] || s == [70, 97, 108, 115, 101] || s == [70, 65, 76, 83, 69] then [98, 111, 111, 108]
  else if s == [46, 110, 97, 110] || s == [46, 78, 97, 78] || s == [46, 78, 65, 78] then [102, 108, 111, 97, 116]
  else if sg == [46, 105, 110, 102] || sg == [46, 73, 110, 102] || sg == [46, 73, 78, 70] then [102, 108, 111, 97, 116]
  else if wh then [105, 110, 116] else if re then [102, 108, 111, 97, 116] else [115, 116, 114]
set_option maxHeartbeats 1000000 in
set_option maxRecDepth 100000 in
theorem resolve_0 (s : ByteArray) (w : World) (h0 : s.toList.isEmpty = true) :
    Calls Tryd.prog 75 #[.string s] w fun e w' => e = .returned (.string ⟨#[110, 117, 108, 108]⟩) ∧ Drawn0 w w' := by
  go_enter Tryd.func75, Tryd.ntmps75
  go_wp2_with (fail)
  go_ret
  exact ⟨by first | rfl | simp, by repeat (first | exact Drawn0.refl _ | apply Drawn0.step)⟩
set_option maxHeartbeats 1000000 in
set_option maxRecDepth 100000 in
theorem resolve_1 (s : ByteArray) (w : World) (h0 : s.toList.isEmpty = false) (h1 : (s.toList == [126]) = true) :
    Calls Tryd.prog 75 #[.string s] w fun e w' => e = .returned (.string ⟨#[110, 117, 108, 108]⟩) ∧ Drawn0 w w' := by
  go_enter Tryd.func75, Tryd.ntmps75
  go_wp2_with (fail)
  go_ret
  exact ⟨by first | rfl | simp, by repeat (first | exact Drawn0.refl _ | apply Drawn0.step)⟩
set_option maxHeartbeats 1000000 in
set_option maxRecDepth 100000 in
theorem resolve_2 (s : ByteArray) (w : World) (h0 : s.toList.isEmpty = false) (h1 : (s.toList == [126]) = false) (h2 : (s.toList == [110, 117, 108, 108]) = true) :
    Calls Tryd.prog 75 #[.string s] w fun e w' => e = .returned (.string ⟨#[110, 117, 108, 108]⟩) ∧ Drawn0 w w' := by
  go_enter Tryd.func75, Tryd.ntmps75
  go_wp2_with (fail)
  go_ret
  exact ⟨by first | rfl | simp, by repeat (first | exact Drawn0.refl _ | apply Drawn0.step)⟩
set_option maxHeartbeats 1000000 in
set_option maxRecDepth 100000 in
theorem resolve_3 (s : ByteArray) (w : World) (h0 : s.toList.isEmpty = false) (h1 : (s.toList == [126]) = false) (h2 : (s.toList == [110, 117, 108, 108]) = false) (h3 : (s.toList == [78, 117, 108, 108]) = true) :
    Calls Tryd.prog 75 #[.string s] w fun e w' => e = .returned (.string ⟨#[110, 117, 108, 108]⟩) ∧ Drawn0 w w' := by
  go_enter Tryd.func75, Tryd.ntmps75
  go_wp2_with (fail)
  go_ret
  exact ⟨by first | rfl | simp, by repeat (first | exact Drawn0.refl _ | apply Drawn0.step)⟩
set_option maxHeartbeats 1000000 in
set_option maxRecDepth 100000 in
theorem resolve_4 (s : ByteArray) (w : World) (h0 : s.toList.isEmpty = false) (h1 : (s.toList == [126]) = false) (h2 : (s.toList == [110, 117, 108, 108]) = false) (h3 : (s.toList == [78, 117, 108, 108]) = false) (h4 : (s.toList == [78, 85, 76, 76]) = true) :
    Calls Tryd.prog 75 #[.string s] w fun e w' => e = .returned (.string ⟨#[110, 117, 108, 108]⟩) ∧ Drawn0 w w' := by
  go_enter Tryd.func75, Tryd.ntmps75
  go_wp2_with (fail)
  go_ret
  exact ⟨by first | rfl | simp, by repeat (first | exact Drawn0.refl _ | apply Drawn0.step)⟩
set_option maxHeartbeats 1000000 in
set_option maxRecDepth 100000 in
theorem resolve_5 (s : ByteArray) (w : World) (h0 : s.toList.isEmpty = false) (h1 : (s.toList == [126]) = false) (h2 : (s.toList == [110, 117, 108, 108]) = false) (h3 : (s.toList == [78, 117, 108, 108]) = false) (h4 : (s.toList == [78, 85, 76, 76]) = false) (h5 : (s.toList == [116, 114, 117, 101]) = true) :
    Calls Tryd.prog 75 #[.string s] w fun e w' => e = .returned (.string ⟨#[98, 111, 111, 108]⟩) ∧ Drawn0 w w' := by
  go_enter Tryd.func75, Tryd.ntmps75
  go_wp2_with (fail)
  go_ret
  exact ⟨by first | rfl | simp, by repeat (first | exact Drawn0.refl _ | apply Drawn0.step)⟩
set_option maxHeartbeats 1000000 in
set_option maxRecDepth 100000 in
theorem resolve_6 (s : ByteArray) (w : World) (h0 : s.toList.isEmpty = false) (h1 : (s.toList == [126]) = false) (h2 : (s.toList == [110, 117, 108, 108]) = false) (h3 : (s.toList == [78, 117, 108, 108]) = false) (h4 : (s.toList == [78, 85, 76, 76]) = false) (h5 : (s.toList == [116, 114, 117, 101]) = false) (h6 : (s.toList == [84, 114, 117, 101]) = true) :
    Calls Tryd.prog 75 #[.string s] w fun e w' => e = .returned (.string ⟨#[98, 111, 111, 108]⟩) ∧ Drawn0 w w' := by
  go_enter Tryd.func75, Tryd.ntmps75
  go_wp2_with (fail)
  go_ret
  exact ⟨by first | rfl | simp, by repeat (first | exact Drawn0.refl _ | apply Drawn0.step)⟩
set_option maxHeartbeats 1000000 in
set_option maxRecDepth 100000 in
theorem resolve_7 (s : ByteArray) (w : World) (h0 : s.toList.isEmpty = false) (h1 : (s.toList == [126]) = false) (h2 : (s.toList == [110, 117, 108, 108]) = false) (h3 : (s.toList == [78, 117, 108, 108]) = false) (h4 : (s.toList == [78, 85, 76, 76]) = false) (h5 : (s.toList == [116, 114, 117, 101]) = false) (h6 : (s.toList == [84, 114, 117, 101]) = false) (h7 : (s.toList == [84, 82, 85, 69]) = true) :
    Calls Tryd.prog 75 #[.string s] w fun e w' => e = .returned (.string ⟨#[98, 111, 111, 108]⟩) ∧ Drawn0 w w' := by
  go_enter Tryd.func75, Tryd.ntmps75
  go_wp2_with (fail)
  go_ret
  exact ⟨by first | rfl | simp, by repeat (first | exact Drawn0.refl _ | apply Drawn0.step)⟩
set_option maxHeartbeats 1000000 in
set_option maxRecDepth 100000 in
theorem resolve_8 (s : ByteArray) (w : World) (h0 : s.toList.isEmpty = false) (h1 : (s.toList == [126]) = false) (h2 : (s.toList == [110, 117, 108, 108]) = false) (h3 : (s.toList == [78, 117, 108, 108]) = false) (h4 : (s.toList == [78, 85, 76, 76]) = false) (h5 : (s.toList == [116, 114, 117, 101]) = false) (h6 : (s.toList == [84, 114, 117, 101]) = false) (h7 : (s.toList == [84, 82, 85, 69]) = false) (h8 : (s.toList == [102, 97, 108, 115, 101]) = true) :
    Calls Tryd.prog 75 #[.string s] w fun e w' => e = .returned (.string ⟨#[98, 111, 111, 108]⟩) ∧ Drawn0 w w' := by
  go_enter Tryd.func75, Tryd.ntmps75
  go_wp2_with (fail)
  go_ret
  exact ⟨by first | rfl | simp, by repeat (first | exact Drawn0.refl _ | apply Drawn0.step)⟩
set_option maxHeartbeats 1000000 in
set_option maxRecDepth 100000 in
theorem resolve_9 (s : ByteArray) (w : World) (h0 : s.toList.isEmpty = false) (h1 : (s.toList == [126]) = false) (h2 : (s.toList == [110, 117, 108, 108]) = false) (h3 : (s.toList == [78, 117, 108, 108]) = false) (h4 : (s.toList == [78, 85, 76, 76]) = false) (h5 : (s.toList == [116, 114, 117, 101]) = false) (h6 : (s.toList == [84, 114, 117, 101]) = false) (h7 : (s.toList == [84, 82, 85, 69]) = false) (h8 : (s.toList == [102, 97, 108, 115, 101]) = false) (h9 : (s.toList == [70, 97, 108, 115, 101]) = true) :
    Calls Tryd.prog 75 #[.string s] w fun e w' => e = .returned (.string ⟨#[98, 111, 111, 108]⟩) ∧ Drawn0 w w' := by
  go_enter Tryd.func75, Tryd.ntmps75
  go_wp2_with (fail)
  go_ret
  exact ⟨by first | rfl | simp, by repeat (first | exact Drawn0.refl _ | apply Drawn0.step)⟩
set_option maxHeartbeats 1000000 in
set_option maxRecDepth 100000 in
theorem resolve_10 (s : ByteArray) (w : World) (h0 : s.toList.isEmpty = false) (h1 : (s.toList == [126]) = false) (h2 : (s.toList == [110, 117, 108, 108]) = false) (h3 : (s.toList == [78, 117, 108, 108]) = false) (h4 : (s.toList == [78, 85, 76, 76]) = false) (h5 : (s.toList == [116, 114, 117, 101]) = false) (h6 : (s.toList == [84, 114, 117, 101]) = false) (h7 : (s.toList == [84, 82, 85, 69]) = false) (h8 : (s.toList == [102, 97, 108, 115, 101]) = false) (h9 : (s.toList == [70, 97, 108, 115, 101]) = false) (h10 : (s.toList == [70, 65, 76, 83, 69]) = true) :
    Calls Tryd.prog 75 #[.string s] w fun e w' => e = .returned (.string ⟨#[98, 111, 111, 108]⟩) ∧ Drawn0 w w' := by
  go_enter Tryd.func75, Tryd.ntmps75
  go_wp2_with (fail)
  go_ret
  exact ⟨by first | rfl | simp, by repeat (first | exact Drawn0.refl _ | apply Drawn0.step)⟩
set_option maxHeartbeats 1000000 in
set_option maxRecDepth 100000 in
theorem resolve_11 (s : ByteArray) (w : World) (h0 : s.toList.isEmpty = false) (h1 : (s.toList == [126]) = false) (h2 : (s.toList == [110, 117, 108, 108]) = false) (h3 : (s.toList == [78, 117, 108, 108]) = false) (h4 : (s.toList == [78, 85, 76, 76]) = false) (h5 : (s.toList == [116, 114, 117, 101]) = false) (h6 : (s.toList == [84, 114, 117, 101]) = false) (h7 : (s.toList == [84, 82, 85, 69]) = false) (h8 : (s.toList == [102, 97, 108, 115, 101]) = false) (h9 : (s.toList == [70, 97, 108, 115, 101]) = false) (h10 : (s.toList == [70, 65, 76, 83, 69]) = false) (h11 : (s.toList == [46, 110, 97, 110]) = true) :
    Calls Tryd.prog 75 #[.string s] w fun e w' => e = .returned (.string ⟨#[102, 108, 111, 97, 116]⟩) ∧ Drawn0 w w' := by
  go_enter Tryd.func75, Tryd.ntmps75
  go_wp2_with (fail)
  go_ret
  exact ⟨by first | rfl | simp, by repeat (first | exact Drawn0.refl _ | apply Drawn0.step)⟩
set_option maxHeartbeats 1000000 in
set_option maxRecDepth 100000 in
theorem resolve_12 (s : ByteArray) (w : World) (h0 : s.toList.isEmpty = false) (h1 : (s.toList == [126]) = false) (h2 : (s.toList == [110, 117, 108, 108]) = false) (h3 : (s.toList == [78, 117, 108, 108]) = false) (h4 : (s.toList == [78, 85, 76, 76]) = false) (h5 : (s.toList == [116, 114, 117, 101]) = false) (h6 : (s.toList == [84, 114, 117, 101]) = false) (h7 : (s.toList == [84, 82, 85, 69]) = false) (h8 : (s.toList == [102, 97, 108, 115, 101]) = false) (h9 : (s.toList == [70, 97, 108, 115, 101]) = false) (h10 : (s.toList == [70, 65, 76, 83, 69]) = false) (h11 : (s.toList == [46, 110, 97, 110]) = false) (h12 : (s.toList == [46, 78, 97, 78]) = true) :
    Calls Tryd.prog 75 #[.string s] w fun e w' => e = .returned (.string ⟨#[102, 108, 111, 97, 116]⟩) ∧ Drawn0 w w' := by
  go_enter Tryd.func75, Tryd.ntmps75
  go_wp2_with (fail)
  go_ret
  exact ⟨by first | rfl | simp, by repeat (first | exact Drawn0.refl _ | apply Drawn0.step)⟩
set_option maxHeartbeats 1000000 in
set_option maxRecDepth 100000 in
theorem resolve_13 (s : ByteArray) (w : World) (h0 : s.toList.isEmpty = false) (h1 : (s.toList == [126]) = false) (h2 : (s.toList == [110, 117, 108, 108]) = false) (h3 : (s.toList == [78, 117, 108, 108]) = false) (h4 : (s.toList == [78, 85, 76, 76]) = false) (h5 : (s.toList == [116, 114, 117, 101]) = false) (h6 : (s.toList == [84, 114, 117, 101]) = false) (h7 : (s.toList == [84, 82, 85, 69]) = false) (h8 : (s.toList == [102, 97, 108, 115, 101]) = false) (h9 : (s.toList == [70, 97, 108, 115, 101]) = false) (h10 : (s.toList == [70, 65, 76, 83, 69]) = false) (h11 : (s.toList == [46, 110, 97, 110]) = false) (h12 : (s.toList == [46, 78, 97, 78]) = false) (h13 : (s.toList == [46, 78, 65, 78]) = true) :
    Calls Tryd.prog 75 #[.string s] w fun e w' => e = .returned (.string ⟨#[102, 108, 111, 97, 116]⟩) ∧ Drawn0 w w' := by
  go_enter Tryd.func75, Tryd.ntmps75
  go_wp2_with (fail)
  go_ret
  exact ⟨by first | rfl | simp, by repeat (first | exact Drawn0.refl _ | apply Drawn0.step)⟩
set_option maxHeartbeats 1000000 in
set_option maxRecDepth 100000 in
theorem resolve_14 (s sg : ByteArray) (wh re : Bool) (w : World) (cS : ∀ W, Calls Tryd.prog 87 #[.string s] W fun e w' => e = .returned (.string sg) ∧ Drawn0 W w') (cW : ∀ W, Calls Tryd.prog 88 #[.string s] W fun e w' => e = .returned (.bool wh) ∧ Drawn0 W w') (cR : ∀ W, Calls Tryd.prog 89 #[.string s] W fun e w' => e = .returned (.bool re) ∧ Drawn0 W w') (h0 : s.toList.isEmpty = false) (h1 : (s.toList == [126]) = false) (h2 : (s.toList == [110, 117, 108, 108]) = false) (h3 : (s.toList == [78, 117, 108, 108]) = false) (h4 : (s.toList == [78, 85, 76, 76]) = false) (h5 : (s.toList == [116, 114, 117, 101]) = false) (h6 : (s.toList == [84, 114, 117, 101]) = false) (h7 : (s.toList == [84, 82, 85, 69]) = false) (h8 : (s.toList == [102, 97, 108, 115, 101]) = false) (h9 : (s.toList == [70, 97, 108, 115, 101]) = false) (h10 : (s.toList == [70, 65, 76, 83, 69]) = false) (h11 : (s.toList == [46, 110, 97, 110]) = false) (h12 : (s.toList == [46, 78, 97, 78]) = false) (h13 : (s.toList == [46, 78, 65, 78]) = false) (g0 : (sg.toList == [46, 105, 110, 102]) = true) :
    Calls Tryd.prog 75 #[.string s] w fun e w' => e = .returned (.string ⟨#[102, 108, 111, 97, 116]⟩) ∧ Drawn0 w w' := by
  go_enter Tryd.func75, Tryd.ntmps75
  go_wp2_with (first | (go_at_call 87; refine (cS _).mono ?_; rintro e w' ⟨rfl, ⟨q1, rfl⟩⟩) | (go_at_call 88; refine (cW _).mono ?_; rintro e w' ⟨rfl, ⟨q2, rfl⟩⟩) | (go_at_call 89; refine (cR _).mono ?_; rintro e w' ⟨rfl, ⟨q3, rfl⟩⟩))
  go_ret
  exact ⟨by first | rfl | simp, by repeat (first | exact Drawn0.refl _ | apply Drawn0.step)⟩
set_option maxHeartbeats 1000000 in
set_option maxRecDepth 100000 in
theorem resolve_15 (s sg : ByteArray) (wh re : Bool) (w : World) (cS : ∀ W, Calls Tryd.prog 87 #[.string s] W fun e w' => e = .returned (.string sg) ∧ Drawn0 W w') (cW : ∀ W, Calls Tryd.prog 88 #[.string s] W fun e w' => e = .returned (.bool wh) ∧ Drawn0 W w') (cR : ∀ W, Calls Tryd.prog 89 #[.string s] W fun e w' => e = .returned (.bool re) ∧ Drawn0 W w') (h0 : s.toList.isEmpty = false) (h1 : (s.toList == [126]) = false) (h2 : (s.toList == [110, 117, 108, 108]) = false) (h3 : (s.toList == [78, 117, 108, 108]) = false) (h4 : (s.toList == [78, 85, 76, 76]) = false) (h5 : (s.toList == [116, 114, 117, 101]) = false) (h6 : (s.toList == [84, 114, 117, 101]) = false) (h7 : (s.toList == [84, 82, 85, 69]) = false) (h8 : (s.toList == [102, 97, 108, 115, 101]) = false) (h9 : (s.toList == [70, 97, 108, 115, 101]) = false) (h10 : (s.toList == [70, 65, 76, 83, 69]) = false) (h11 : (s.toList == [46, 110, 97, 110]) = false) (h12 : (s.toList == [46, 78, 97, 78]) = false) (h13 : (s.toList == [46, 78, 65, 78]) = false) (g0 : (sg.toList == [46, 105, 110, 102]) = false) (g1 : (sg.toList == [46, 73, 110, 102]) = true) :
    Calls Tryd.prog 75 #[.string s] w fun e w' => e = .returned (.string ⟨#[102, 108, 111, 97, 116]⟩) ∧ Drawn0 w w' := by
  go_enter Tryd.func75, Tryd.ntmps75
  go_wp2_with (first | (go_at_call 87; refine (cS _).mono ?_; rintro e w' ⟨rfl, ⟨q1, rfl⟩⟩) | (go_at_call 88; refine (cW _).mono ?_; rintro e w' ⟨rfl, ⟨q2, rfl⟩⟩) | (go_at_call 89; refine (cR _).mono ?_; rintro e w' ⟨rfl, ⟨q3, rfl⟩⟩))
  go_ret
  exact ⟨by first | rfl | simp, by repeat (first | exact Drawn0.refl _ | apply Drawn0.step)⟩
set_option maxHeartbeats 1000000 in
set_option maxRecDepth 100000 in
theorem resolve_16 (s sg : ByteArray) (wh re : Bool) (w : World) (cS : ∀ W, Calls Tryd.prog 87 #[.string s] W fun e w' => e = .returned (.string sg) ∧ Drawn0 W w') (cW : ∀ W, Calls Tryd.prog 88 #[.string s] W fun e w' => e = .returned (.bool wh) ∧ Drawn0 W w') (cR : ∀ W, Calls Tryd.prog 89 #[.string s] W fun e w' => e = .returned (.bool re) ∧ Drawn0 W w') (h0 : s.toList.isEmpty = false) (h1 : (s.toList == [126]) = false) (h2 : (s.toList == [110, 117, 108, 108]) = false) (h3 : (s.toList == [78, 117, 108, 108]) = false) (h4 : (s.toList == [78, 85, 76, 76]) = false) (h5 : (s.toList == [116, 114, 117, 101]) = false) (h6 : (s.toList == [84, 114, 117, 101]) = false) (h7 : (s.toList == [84, 82, 85, 69]) = false) (h8 : (s.toList == [102, 97, 108, 115, 101]) = false) (h9 : (s.toList == [70, 97, 108, 115, 101]) = false) (h10 : (s.toList == [70, 65, 76, 83, 69]) = false) (h11 : (s.toList == [46, 110, 97, 110]) = false) (h12 : (s.toList == [46, 78, 97, 78]) = false) (h13 : (s.toList == [46, 78, 65, 78]) = false) (g0 : (sg.toList == [46, 105, 110, 102]) = false) (g1 : (sg.toList == [46, 73, 110, 102]) = false) (g2 : (sg.toList == [46, 73, 78, 70]) = true) :
    Calls Tryd.prog 75 #[.string s] w fun e w' => e = .returned (.string ⟨#[102, 108, 111, 97, 116]⟩) ∧ Drawn0 w w' := by
  go_enter Tryd.func75, Tryd.ntmps75
  go_wp2_with (first | (go_at_call 87; refine (cS _).mono ?_; rintro e w' ⟨rfl, ⟨q1, rfl⟩⟩) | (go_at_call 88; refine (cW _).mono ?_; rintro e w' ⟨rfl, ⟨q2, rfl⟩⟩) | (go_at_call 89; refine (cR _).mono ?_; rintro e w' ⟨rfl, ⟨q3, rfl⟩⟩))
  go_ret
  exact ⟨by first | rfl | simp, by repeat (first | exact Drawn0.refl _ | apply Drawn0.step)⟩
set_option maxHeartbeats 1000000 in
set_option maxRecDepth 100000 in
theorem resolve_17 (s sg : ByteArray) (wh re : Bool) (w : World) (cS : ∀ W, Calls Tryd.prog 87 #[.string s] W fun e w' => e = .returned (.string sg) ∧ Drawn0 W w') (cW : ∀ W, Calls Tryd.prog 88 #[.string s] W fun e w' => e = .returned (.bool wh) ∧ Drawn0 W w') (cR : ∀ W, Calls Tryd.prog 89 #[.string s] W fun e w' => e = .returned (.bool re) ∧ Drawn0 W w') (h0 : s.toList.isEmpty = false) (h1 : (s.toList == [126]) = false) (h2 : (s.toList == [110, 117, 108, 108]) = false) (h3 : (s.toList == [78, 117, 108, 108]) = false) (h4 : (s.toList == [78, 85, 76, 76]) = false) (h5 : (s.toList == [116, 114, 117, 101]) = false) (h6 : (s.toList == [84, 114, 117, 101]) = false) (h7 : (s.toList == [84, 82, 85, 69]) = false) (h8 : (s.toList == [102, 97, 108, 115, 101]) = false) (h9 : (s.toList == [70, 97, 108, 115, 101]) = false) (h10 : (s.toList == [70, 65, 76, 83, 69]) = false) (h11 : (s.toList == [46, 110, 97, 110]) = false) (h12 : (s.toList == [46, 78, 97, 78]) = false) (h13 : (s.toList == [46, 78, 65, 78]) = false) (g0 : (sg.toList == [46, 105, 110, 102]) = false) (g1 : (sg.toList == [46, 73, 110, 102]) = false) (g2 : (sg.toList == [46, 73, 78, 70]) = false) (hwh : wh = true) :
    Calls Tryd.prog 75 #[.string s] w fun e w' => e = .returned (.string ⟨#[105, 110, 116]⟩) ∧ Drawn0 w w' := by
  subst hwh
  go_enter Tryd.func75, Tryd.ntmps75
  go_wp2_with (first | (go_at_call 87; refine (cS _).mono ?_; rintro e w' ⟨rfl, ⟨q1, rfl⟩⟩) | (go_at_call 88; refine (cW _).mono ?_; rintro e w' ⟨rfl, ⟨q2, rfl⟩⟩) | (go_at_call 89; refine (cR _).mono ?_; rintro e w' ⟨rfl, ⟨q3, rfl⟩⟩))
  go_ret
  exact ⟨by first | rfl | simp, by repeat (first | exact Drawn0.refl _ | apply Drawn0.step)⟩
set_option maxHeartbeats 1000000 in
set_option maxRecDepth 100000 in
theorem resolve_18 (s sg : ByteArray) (wh re : Bool) (w : World) (cS : ∀ W, Calls Tryd.prog 87 #[.string s] W fun e w' => e = .returned (.string sg) ∧ Drawn0 W w') (cW : ∀ W, Calls Tryd.prog 88 #[.string s] W fun e w' => e = .returned (.bool wh) ∧ Drawn0 W w') (cR : ∀ W, Calls Tryd.prog 89 #[.string s] W fun e w' => e = .returned (.bool re) ∧ Drawn0 W w') (h0 : s.toList.isEmpty = false) (h1 : (s.toList == [126]) = false) (h2 : (s.toList == [110, 117, 108, 108]) = false) (h3 : (s.toList == [78, 117, 108, 108]) = false) (h4 : (s.toList == [78, 85, 76, 76]) = false) (h5 : (s.toList == [116, 114, 117, 101]) = false) (h6 : (s.toList == [84, 114, 117, 101]) = false) (h7 : (s.toList == [84, 82, 85, 69]) = false) (h8 : (s.toList == [102, 97, 108, 115, 101]) = false) (h9 : (s.toList == [70, 97, 108, 115, 101]) = false) (h10 : (s.toList == [70, 65, 76, 83, 69]) = false) (h11 : (s.toList == [46, 110, 97, 110]) = false) (h12 : (s.toList == [46, 78, 97, 78]) = false) (h13 : (s.toList == [46, 78, 65, 78]) = false) (g0 : (sg.toList == [46, 105, 110, 102]) = false) (g1 : (sg.toList == [46, 73, 110, 102]) = false) (g2 : (sg.toList == [46, 73, 78, 70]) = false) (hwh : wh = false) (hre : re = true) :
    Calls Tryd.prog 75 #[.string s] w fun e w' => e = .returned (.string ⟨#[102, 108, 111, 97, 116]⟩) ∧ Drawn0 w w' := by
  subst hwh; subst hre
  go_enter Tryd.func75, Tryd.ntmps75
  go_wp2_with (first | (go_at_call 87; refine (cS _).mono ?_; rintro e w' ⟨rfl, ⟨q1, rfl⟩⟩) | (go_at_call 88; refine (cW _).mono ?_; rintro e w' ⟨rfl, ⟨q2, rfl⟩⟩) | (go_at_call 89; refine (cR _).mono ?_; rintro e w' ⟨rfl, ⟨q3, rfl⟩⟩))
  go_ret
  exact ⟨by first | rfl | simp, by repeat (first | exact Drawn0.refl _ | apply Drawn0.step)⟩
set_option maxHeartbeats 1000000 in
set_option maxRecDepth 100000 in
theorem resolve_19 (s sg : ByteArray) (wh re : Bool) (w : World) (cS : ∀ W, Calls Tryd.prog 87 #[.string s] W fun e w' => e = .returned (.string sg) ∧ Drawn0 W w') (cW : ∀ W, Calls Tryd.prog 88 #[.string s] W fun e w' => e = .returned (.bool wh) ∧ Drawn0 W w') (cR : ∀ W, Calls Tryd.prog 89 #[.string s] W fun e w' => e = .returned (.bool re) ∧ Drawn0 W w') (h0 : s.toList.isEmpty = false) (h1 : (s.toList == [126]) = false) (h2 : (s.toList == [110, 117, 108, 108]) = false) (h3 : (s.toList == [78, 117, 108, 108]) = false) (h4 : (s.toList == [78, 85, 76, 76]) = false) (h5 : (s.toList == [116, 114, 117, 101]) = false) (h6 : (s.toList == [84, 114, 117, 101]) = false) (h7 : (s.toList == [84, 82, 85, 69]) = false) (h8 : (s.toList == [102, 97, 108, 115, 101]) = false) (h9 : (s.toList == [70, 97, 108, 115, 101]) = false) (h10 : (s.toList == [70, 65, 76, 83, 69]) = false) (h11 : (s.toList == [46, 110, 97, 110]) = false) (h12 : (s.toList == [46, 78, 97, 78]) = false) (h13 : (s.toList == [46, 78, 65, 78]) = false) (g0 : (sg.toList == [46, 105, 110, 102]) = false) (g1 : (sg.toList == [46, 73, 110, 102]) = false) (g2 : (sg.toList == [46, 73, 78, 70]) = false) (hwh : wh = false) (hre : re = false) :
    Calls Tryd.prog 75 #[.string s] w fun e w' => e = .returned (.string ⟨#[115, 116, 114]⟩) ∧ Drawn0 w w' := by
  subst hwh; subst hre
  go_enter Tryd.func75, Tryd.ntmps75
  go_wp2_with (first | (go_at_call 87; refine (cS _).mono ?_; rintro e w' ⟨rfl, ⟨q1, rfl⟩⟩) | (go_at_call 88; refine (cW _).mono ?_; rintro e w' ⟨rfl, ⟨q2, rfl⟩⟩) | (go_at_call 89; refine (cR _).mono ?_; rintro e w' ⟨rfl, ⟨q3, rfl⟩⟩))
  go_ret
  exact ⟨by first | rfl | simp, by repeat (first | exact Drawn0.refl _ | apply Drawn0.step)⟩
theorem resolve_any (k : Nat) (s sg : ByteArray) (wh re : Bool) (w : World) (hs : tag_sign.f s = some sg) (hw : tag_whole.f k s = some wh) (hr : tag_real.f k s = some re) :
    Calls Tryd.prog 75 #[.string s] w fun e w' => e = .returned (.string ⟨(resolveBy s.toList sg.toList wh re).toArray⟩) ∧ Drawn0 w w' := by
  have cS := fun W => tag_sign.calls s sg W hs
  have cW := fun W => tag_whole.calls k s wh W hw
  have cR := fun W => tag_real.calls k s re W hr
  unfold resolveBy
  cases h0 : s.toList.isEmpty with
  | true =>
    have := resolve_0 s w h0
    simpa [h0] using this
  | false =>
    cases h1 : (s.toList == [126]) with
    | true =>
      have := resolve_1 s w h0 h1
      simpa [h0, h1] using this
    | false =>
      cases h2 : (s.toList == [110, 117, 108, 108]) with
      | true =>
        have := resolve_2 s w h0 h1 h2
        simpa [h0, h1, h2] using this
      | false =>
        cases h3 : (s.toList == [78, 117, 108, 108]) with
        | true =>
          have := resolve_3 s w h0 h1 h2 h3
          simpa [h0, h1, h2, h3] using this
        | false =>
          cases h4 : (s.toList == [78, 85, 76, 76]) with
          | true =>
            have := resolve_4 s w h0 h1 h2 h3 h4
            simpa [h0, h1, h2, h3, h4] using this
          | false =>
            cases h5 : (s.toList == [116, 114, 117, 101]) with
            | true =>
              have := resolve_5 s w h0 h1 h2 h3 h4 h5
              simpa [h0, h1, h2, h3, h4, h5] using this
            | false =>
              cases h6 : (s.toList == [84, 114, 117, 101]) with
              | true =>
                have := resolve_6 s w h0 h1 h2 h3 h4 h5 h6
                simpa [h0, h1, h2, h3, h4, h5, h6] using this
              | false =>
                cases h7 : (s.toList == [84, 82, 85, 69]) with
                | true =>
                  have := resolve_7 s w h0 h1 h2 h3 h4 h5 h6 h7
                  simpa [h0, h1, h2, h3, h4, h5, h6, h7] using this
                | false =>
                  cases h8 : (s.toList == [102, 97, 108, 115, 101]) with
                  | true =>
                    have := resolve_8 s w h0 h1 h2 h3 h4 h5 h6 h7 h8
                    simpa [h0, h1, h2, h3, h4, h5, h6, h7, h8] using this
                  | false =>
                    cases h9 : (s.toList == [70, 97, 108, 115, 101]) with
                    | true =>
                      have := resolve_9 s w h0 h1 h2 h3 h4 h5 h6 h7 h8 h9
                      simpa [h0, h1, h2, h3, h4, h5, h6, h7, h8, h9] using this
                    | false =>
                      cases h10 : (s.toList == [70, 65, 76, 83, 69]) with
                      | true =>
                        have := resolve_10 s w h0 h1 h2 h3 h4 h5 h6 h7 h8 h9 h10
                        simpa [h0, h1, h2, h3, h4, h5, h6, h7, h8, h9, h10] using this
                      | false =>
                        cases h11 : (s.toList == [46, 110, 97, 110]) with
                        | true =>
                          have := resolve_11 s w h0 h1 h2 h3 h4 h5 h6 h7 h8 h9 h10 h11
                          simpa [h0, h1, h2, h3, h4, h5, h6, h7, h8, h9, h10, h11] using this
                        | false =>
                          cases h12 : (s.toList == [46, 78, 97, 78]) with
                          | true =>
                            have := resolve_12 s w h0 h1 h2 h3 h4 h5 h6 h7 h8 h9 h10 h11 h12
                            simpa [h0, h1, h2, h3, h4, h5, h6, h7, h8, h9, h10, h11, h12] using this
                          | false =>
                            cases h13 : (s.toList == [46, 78, 65, 78]) with
                            | true =>
                              have := resolve_13 s w h0 h1 h2 h3 h4 h5 h6 h7 h8 h9 h10 h11 h12 h13
                              simpa [h0, h1, h2, h3, h4, h5, h6, h7, h8, h9, h10, h11, h12, h13] using this
                            | false =>
                              cases g0 : (sg.toList == [46, 105, 110, 102]) with
                              | true =>
                                have := resolve_14 s sg wh re w cS cW cR h0 h1 h2 h3 h4 h5 h6 h7 h8 h9 h10 h11 h12 h13 g0
                                simpa [h0, h1, h2, h3, h4, h5, h6, h7, h8, h9, h10, h11, h12, h13, g0] using this
                              | false =>
                                cases g1 : (sg.toList == [46, 73, 110, 102]) with
                                | true =>
                                  have := resolve_15 s sg wh re w cS cW cR h0 h1 h2 h3 h4 h5 h6 h7 h8 h9 h10 h11 h12 h13 g0 g1
                                  simpa [h0, h1, h2, h3, h4, h5, h6, h7, h8, h9, h10, h11, h12, h13, g0, g1] using this
                                | false =>
                                  cases g2 : (sg.toList == [46, 73, 78, 70]) with
                                  | true =>
                                    have := resolve_16 s sg wh re w cS cW cR h0 h1 h2 h3 h4 h5 h6 h7 h8 h9 h10 h11 h12 h13 g0 g1 g2
                                    simpa [h0, h1, h2, h3, h4, h5, h6, h7, h8, h9, h10, h11, h12, h13, g0, g1, g2] using this
                                  | false =>
                                    cases wh with
                                    | true =>
                                      have := resolve_17 s sg true re w cS cW cR h0 h1 h2 h3 h4 h5 h6 h7 h8 h9 h10 h11 h12 h13 g0 g1 g2 rfl
                                      simpa [h0, h1, h2, h3, h4, h5, h6, h7, h8, h9, h10, h11, h12, h13, g0, g1, g2] using this
                                    | false =>
                                      cases re with
                                      | true =>
                                        have := resolve_18 s sg false true w cS cW cR h0 h1 h2 h3 h4 h5 h6 h7 h8 h9 h10 h11 h12 h13 g0 g1 g2 rfl rfl
                                        simpa [h0, h1, h2, h3, h4, h5, h6, h7, h8, h9, h10, h11, h12, h13, g0, g1, g2] using this
                                      | false =>
                                        have := resolve_19 s sg false false w cS cW cR h0 h1 h2 h3 h4 h5 h6 h7 h8 h9 h10 h11 h12 h13 g0 g1 g2 rfl rfl
                                        simpa [h0, h1, h2, h3, h4, h5, h6, h7, h8, h9, h10, h11, h12, h13, g0, g1, g2] using this
end Go.Proofs.YtpbkdeelkpjccaaDoor.G

-- Laid by xprint.py (this work's own driver of the kit's printer).
namespace Go.Proofs.YtpbkdeelkpjccaaDoor.G
open Go.RowKit Go.Proofs.YtpbkdeelkpjccaaDoorW.PrintWords Go.Proofs.YtpbkdeelkpjccaaDoorW.PrintLast Go.Proofs.YtpbkdeelkpjccaaDoorW.PrintMore
attribute [local go_sem] max2_int min2_int max_two min_two max_three min_three max_four min_four   -- for this text's walks alone
set_option linter.unusedVariables false
set_option linter.unusedSimpArgs false
def tag_plain.f (a0 : ByteArray) : Option (Bool) := if a0.toList = ([110, 117, 108, 108] : List UInt8) then (some true) else (if a0.toList = ([98, 111, 111, 108] : List UInt8) then (some true) else (if a0.toList = ([105, 110, 116] : List UInt8) then (some true) else (some (a0.toList == ([102, 108, 111, 97, 116] : List UInt8)))))
set_option maxHeartbeats 8000000 in
set_option maxRecDepth 100000 in
theorem tag_plain.calls (a0 : ByteArray) (r : Bool) (w : World) (h : tag_plain.f a0 = some r) :
    Calls Tryd.prog 74 #[.string a0] w fun e w' => e = .returned (.bool r) ∧ Drawn0 w w' := by
  have H : (if a0.toList = ([110, 117, 108, 108] : List UInt8) then (some true) else (if a0.toList = ([98, 111, 111, 108] : List UInt8) then (some true) else (if a0.toList = ([105, 110, 116] : List UInt8) then (some true) else (some (a0.toList == ([102, 108, 111, 97, 116] : List UInt8)))))) = some r := h
  clear h
  by_cases c2 : a0.toList = ([110, 117, 108, 108] : List UInt8)
  · rw [if_pos c2] at H
    have c2b0 : (a0.toList == ([110, 117, 108, 108] : List UInt8)) = true := beq_iff_eq.mpr c2
    have c2b1 : (a0.toList != ([110, 117, 108, 108] : List UInt8)) = false := bne_eq_false_iff_eq.mpr c2
    clear c2
    obtain rfl := Option.some.inj H
    go_enter Tryd.func74, Tryd.ntmps74
    go_wp2
    go_ret
    exact ⟨by first | rfl | (simp; done) | (simp [*]; done), by repeat (first | exact Drawn0.refl _ | apply Drawn0.step)⟩
  · rw [if_neg c2] at H
    have c2b0 : (a0.toList == ([110, 117, 108, 108] : List UInt8)) = false := beq_eq_false_iff_ne.mpr c2
    have c2b1 : (a0.toList != ([110, 117, 108, 108] : List UInt8)) = true := bne_iff_ne.mpr c2
    by_cases c3 : a0.toList = ([98, 111, 111, 108] : List UInt8)
    · rw [if_pos c3] at H
      have c3b0 : (a0.toList == ([98, 111, 111, 108] : List UInt8)) = true := beq_iff_eq.mpr c3
      have c3b1 : (a0.toList != ([98, 111, 111, 108] : List UInt8)) = false := bne_eq_false_iff_eq.mpr c3
      clear c3
      obtain rfl := Option.some.inj H
      go_enter Tryd.func74, Tryd.ntmps74
      go_wp2
      go_ret
      exact ⟨by first | rfl | (simp; done) | (simp [*]; done), by repeat (first | exact Drawn0.refl _ | apply Drawn0.step)⟩
    · rw [if_neg c3] at H
      have c3b0 : (a0.toList == ([98, 111, 111, 108] : List UInt8)) = false := beq_eq_false_iff_ne.mpr c3
      have c3b1 : (a0.toList != ([98, 111, 111, 108] : List UInt8)) = true := bne_iff_ne.mpr c3
      by_cases c4 : a0.toList = ([105, 110, 116] : List UInt8)
      · rw [if_pos c4] at H
        have c4b0 : (a0.toList == ([105, 110, 116] : List UInt8)) = true := beq_iff_eq.mpr c4
        have c4b1 : (a0.toList != ([105, 110, 116] : List UInt8)) = false := bne_eq_false_iff_eq.mpr c4
        clear c4
        obtain rfl := Option.some.inj H
        go_enter Tryd.func74, Tryd.ntmps74
        go_wp2
        go_ret
        exact ⟨by first | rfl | (simp; done) | (simp [*]; done), by repeat (first | exact Drawn0.refl _ | apply Drawn0.step)⟩
      · rw [if_neg c4] at H
        have c4b0 : (a0.toList == ([105, 110, 116] : List UInt8)) = false := beq_eq_false_iff_ne.mpr c4
        have c4b1 : (a0.toList != ([105, 110, 116] : List UInt8)) = true := bne_iff_ne.mpr c4
        obtain rfl := Option.some.inj H
        go_enter Tryd.func74, Tryd.ntmps74
        go_wp2
        go_ret
        exact ⟨by first | rfl | (simp; done) | (simp [*]; done), by repeat (first | exact Drawn0.refl _ | apply Drawn0.step)⟩
end Go.Proofs.YtpbkdeelkpjccaaDoor.G
