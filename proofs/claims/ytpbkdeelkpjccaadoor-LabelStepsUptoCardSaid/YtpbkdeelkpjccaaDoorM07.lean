/- Merged by merge.py out of: Hidxs, Gtagnamed, GlexName1, Hown. -/
import Derived.Test.YtpbkdeelkpjccaaDoorM03
import Derived.Test.YtpbkdeelkpjccaaDoorM05
namespace Go.Proofs.YtpbkdeelkpjccaaDoor.G
open Go.RowKit Go.Proofs.YtpbkdeelkpjccaaDoorW.PrintWords
set_option linter.unusedVariables false
set_option linter.unusedSimpArgs false
def TellsK {α : Type} (P : Program) (g : Nat) (lb : Array Value) (d : Kd α) (z : α) (xs : List α) (p : Nat → Bool) (w : World) : Prop :=
  ∀ (j : Nat) (W : World) (cs : List Value), j < xs.length → Below w.heap.size w W → d.K w (xs.getD j z) cs → Calls P g (#[.agg cs.toArray] ++ lb) W fun e w' => e = .returned (.bool (p j)) ∧ Below W.heap.size W w'
set_option maxHeartbeats 4000000 in
theorem IndexFunc_Node (g : Nat) (lb : Array Value) (eg : ∀ args w, (callFunc g args).run Tryd.prog w = .ok (.enter g args) w) (A : Option Addr) (c : Nat) (xs : List S34) (p : Nat → Bool) (w : World)
    (hx : Kd.C k34 w A xs.length xs) (hp : TellsK Tryd.prog g lb k34 z34 xs p w) :
    Calls Tryd.prog 60 #[.slice A xs.length c, .func (.func g) #[] lb] w fun e w' => e = .returned (.int .i64 (firstAt p xs.length)) ∧ Below w.heap.size w w' := by
  have HX := Aside0.mk hx
  have HP := Aside0.mk hp
  have hbig : xs.length ≤ 9223372036854775807 := hx.2.1
  clear hx hp
  go_enter Tryd.func60, Tryd.ntmps60
  go_wp2
  go_loopg [5, 8] xs.length (fun gg _ s8 wr => ∃ kk : Nat, kk ≤ xs.length ∧ xs.length - kk ≤ gg ∧ s8 = .int .i64 kk ∧ Aside0 (Below w.heap.size w wr) ∧ Aside0 (∀ j, j < kk → p j = false))
  case atStart => exact ⟨0, Nat.zero_le _, by omega, rfl, ⟨Below.refl _ w⟩, ⟨fun j hj => absurd hj (Nat.not_lt_zero _)⟩⟩
  case round =>
    obtain ⟨kk, hkk, hg, rfl, BW, HA⟩ := hrel
    by_cases hlt : kk < xs.length
    · have hltz : (kk : Int) < (xs.length : Int) := by omega
      have hcall0 := HP.out kk wr
      obtain ⟨ad, A3, c3, e, q0, q1, q2, q3, l3, g3⟩ := at_T34 HX.out (kk : Int) (by omega) (by omega)
      cases e
      rw [show rd_T34 xs (kk : Int) = xs.getD kk z34 from rfl] at *
      generalize xs.getD kk z34 = y at *
      replace q0 := (BW.out.cell (World.block_lt_of_cell? w _ q0)).trans q0
      replace q1 := (BW.out.cell (World.block_lt_of_cell? w _ q1)).trans q1
      replace q2 := (BW.out.cell (World.block_lt_of_cell? w _ q2)).trans q2
      replace q3 := (BW.out.cell (World.block_lt_of_cell? w _ q3)).trans q3
      have hcall := hcall0 _ hlt BW.out (k34_mk w y l3 g3)
      clear hcall0
      rw [Int.toNat_natCast] at q0 q1 q2 q3
      cases hq : p kk with
      | true =>
        rw [hq] at hcall
        go_wp2_with (go_at_fn g; refine hcall.mono ?_; rintro e w' ⟨rfl, hb'⟩)
        go_ret
        exact ⟨by rw [firstAt_hit hlt hq HA.out]; rfl, below_then BW.out BW.out.size hb'⟩
      | false =>
        rw [hq] at hcall
        have HQ := Aside0.mk hq
        clear hq
        go_wp2_with (go_at_fn g; refine hcall.mono ?_; rintro e w' ⟨rfl, hb'⟩)
        go_roundg (xs.length - (kk + 1))
        case measure => omega
        case rel =>
          refine ⟨kk + 1, by omega, by omega, by go_num, ⟨below_then BW.out BW.out.size hb'⟩, ⟨fun j hj => ?_⟩⟩
          by_cases e : j = kk
          · subst e; exact HQ.out
          · exact HA.out j (by omega)
    · have hltz : ¬ (kk : Int) < (xs.length : Int) := by omega
      have HK := Aside0.mk (show kk = xs.length by omega)
      go_wp2
      go_ret
      exact ⟨by rw [firstAt_miss (fun j hj => HA.out j (by have := HK.out; omega))]; rfl, BW.out⟩
set_option maxHeartbeats 1000000 in
theorem ContainsFunc_Node (g : Nat) (lb : Array Value) (eg : ∀ args w, (callFunc g args).run Tryd.prog w = .ok (.enter g args) w) (A : Option Addr) (c : Nat) (xs : List S34) (p : Nat → Bool) (w : World)
    (hx : Kd.C k34 w A xs.length xs) (hp : TellsK Tryd.prog g lb k34 z34 xs p w) :
    Calls Tryd.prog 30 #[.slice A xs.length c, .func (.func g) #[] lb] w fun e w' => e = .returned (.bool ((List.range xs.length).any p)) ∧ Below w.heap.size w w' := by
  rw [← firstAt_any]
  have hcall := IndexFunc_Node g lb eg A c xs p w hx hp
  clear hx hp
  generalize firstAt p xs.length = r at hcall ⊢
  go_enter Tryd.func30, Tryd.ntmps30
  go_wp2_with (go_at_call 60; refine hcall.mono ?_; rintro e w' ⟨rfl, hb'⟩)
  go_ret
  exact ⟨rfl, hb'⟩
set_option maxHeartbeats 4000000 in
theorem IndexFunc_Rule (g : Nat) (lb : Array Value) (eg : ∀ args w, (callFunc g args).run Tryd.prog w = .ok (.enter g args) w) (A : Option Addr) (c : Nat) (xs : List S50) (p : Nat → Bool) (w : World)
    (hx : Kd.C k50 w A xs.length xs) (hp : TellsK Tryd.prog g lb k50 z50 xs p w) :
    Calls Tryd.prog 52 #[.slice A xs.length c, .func (.func g) #[] lb] w fun e w' => e = .returned (.int .i64 (firstAt p xs.length)) ∧ Below w.heap.size w w' := by
  have HX := Aside0.mk hx
  have HP := Aside0.mk hp
  have hbig : xs.length ≤ 9223372036854775807 := hx.2.1
  clear hx hp
  go_enter Tryd.func52, Tryd.ntmps52
  go_wp2
  go_loopg [5, 8] xs.length (fun gg _ s8 wr => ∃ kk : Nat, kk ≤ xs.length ∧ xs.length - kk ≤ gg ∧ s8 = .int .i64 kk ∧ Aside0 (Below w.heap.size w wr) ∧ Aside0 (∀ j, j < kk → p j = false))
  case atStart => exact ⟨0, Nat.zero_le _, by omega, rfl, ⟨Below.refl _ w⟩, ⟨fun j hj => absurd hj (Nat.not_lt_zero _)⟩⟩
  case round =>
    obtain ⟨kk, hkk, hg, rfl, BW, HA⟩ := hrel
    by_cases hlt : kk < xs.length
    · have hltz : (kk : Int) < (xs.length : Int) := by omega
      have hcall0 := HP.out kk wr
      obtain ⟨ad, A0, c0, e, q0, q1, q2, q3, q4, l0, g0⟩ := at_T50 HX.out (kk : Int) (by omega) (by omega)
      cases e
      rw [show rd_T50 xs (kk : Int) = xs.getD kk z50 from rfl] at *
      generalize xs.getD kk z50 = y at *
      replace q0 := (BW.out.cell (World.block_lt_of_cell? w _ q0)).trans q0
      replace q1 := (BW.out.cell (World.block_lt_of_cell? w _ q1)).trans q1
      replace q2 := (BW.out.cell (World.block_lt_of_cell? w _ q2)).trans q2
      replace q3 := (BW.out.cell (World.block_lt_of_cell? w _ q3)).trans q3
      replace q4 := (BW.out.cell (World.block_lt_of_cell? w _ q4)).trans q4
      have hcall := hcall0 _ hlt BW.out (k50_mk w y l0 g0)
      clear hcall0
      rw [Int.toNat_natCast] at q0 q1 q2 q3 q4
      cases hq : p kk with
      | true =>
        rw [hq] at hcall
        go_wp2_with (go_at_fn g; refine hcall.mono ?_; rintro e w' ⟨rfl, hb'⟩)
        go_ret
        exact ⟨by rw [firstAt_hit hlt hq HA.out]; rfl, below_then BW.out BW.out.size hb'⟩
      | false =>
        rw [hq] at hcall
        have HQ := Aside0.mk hq
        clear hq
        go_wp2_with (go_at_fn g; refine hcall.mono ?_; rintro e w' ⟨rfl, hb'⟩)
        go_roundg (xs.length - (kk + 1))
        case measure => omega
        case rel =>
          refine ⟨kk + 1, by omega, by omega, by go_num, ⟨below_then BW.out BW.out.size hb'⟩, ⟨fun j hj => ?_⟩⟩
          by_cases e : j = kk
          · subst e; exact HQ.out
          · exact HA.out j (by omega)
    · have hltz : ¬ (kk : Int) < (xs.length : Int) := by omega
      have HK := Aside0.mk (show kk = xs.length by omega)
      go_wp2
      go_ret
      exact ⟨by rw [firstAt_miss (fun j hj => HA.out j (by have := HK.out; omega))]; rfl, BW.out⟩
set_option maxHeartbeats 1000000 in
theorem ContainsFunc_Rule (g : Nat) (lb : Array Value) (eg : ∀ args w, (callFunc g args).run Tryd.prog w = .ok (.enter g args) w) (A : Option Addr) (c : Nat) (xs : List S50) (p : Nat → Bool) (w : World)
    (hx : Kd.C k50 w A xs.length xs) (hp : TellsK Tryd.prog g lb k50 z50 xs p w) :
    Calls Tryd.prog 25 #[.slice A xs.length c, .func (.func g) #[] lb] w fun e w' => e = .returned (.bool ((List.range xs.length).any p)) ∧ Below w.heap.size w w' := by
  rw [← firstAt_any]
  have hcall := IndexFunc_Rule g lb eg A c xs p w hx hp
  clear hx hp
  generalize firstAt p xs.length = r at hcall ⊢
  go_enter Tryd.func25, Tryd.ntmps25
  go_wp2_with (go_at_call 52; refine hcall.mono ?_; rintro e w' ⟨rfl, hb'⟩)
  go_ret
  exact ⟨rfl, hb'⟩
set_option maxHeartbeats 4000000 in
theorem IndexFunc_Part (g : Nat) (lb : Array Value) (eg : ∀ args w, (callFunc g args).run Tryd.prog w = .ok (.enter g args) w) (A : Option Addr) (c : Nat) (xs : List S71) (p : Nat → Bool) (w : World)
    (hx : Kd.C k71 w A xs.length xs) (hp : TellsK Tryd.prog g lb k71 z71 xs p w) :
    Calls Tryd.prog 81 #[.slice A xs.length c, .func (.func g) #[] lb] w fun e w' => e = .returned (.int .i64 (firstAt p xs.length)) ∧ Below w.heap.size w w' := by
  have HX := Aside0.mk hx
  have HP := Aside0.mk hp
  have hbig : xs.length ≤ 9223372036854775807 := hx.2.1
  clear hx hp
  go_enter Tryd.func81, Tryd.ntmps81
  go_wp2
  go_loopg [5, 8] xs.length (fun gg _ s8 wr => ∃ kk : Nat, kk ≤ xs.length ∧ xs.length - kk ≤ gg ∧ s8 = .int .i64 kk ∧ Aside0 (Below w.heap.size w wr) ∧ Aside0 (∀ j, j < kk → p j = false))
  case atStart => exact ⟨0, Nat.zero_le _, by omega, rfl, ⟨Below.refl _ w⟩, ⟨fun j hj => absurd hj (Nat.not_lt_zero _)⟩⟩
  case round =>
    obtain ⟨kk, hkk, hg, rfl, BW, HA⟩ := hrel
    by_cases hlt : kk < xs.length
    · have hltz : (kk : Int) < (xs.length : Int) := by omega
      have hcall0 := HP.out kk wr
      obtain ⟨ad, e, q0, q1⟩ := at_T71 HX.out (kk : Int) (by omega) (by omega)
      cases e
      rw [show rd_T71 xs (kk : Int) = xs.getD kk z71 from rfl] at *
      generalize xs.getD kk z71 = y at *
      replace q0 := (BW.out.cell (World.block_lt_of_cell? w _ q0)).trans q0
      replace q1 := (BW.out.cell (World.block_lt_of_cell? w _ q1)).trans q1
      have hcall := hcall0 _ hlt BW.out (k71_mk w y)
      clear hcall0
      rw [Int.toNat_natCast] at q0 q1
      cases hq : p kk with
      | true =>
        rw [hq] at hcall
        go_wp2_with (go_at_fn g; refine hcall.mono ?_; rintro e w' ⟨rfl, hb'⟩)
        go_ret
        exact ⟨by rw [firstAt_hit hlt hq HA.out]; rfl, below_then BW.out BW.out.size hb'⟩
      | false =>
        rw [hq] at hcall
        have HQ := Aside0.mk hq
        clear hq
        go_wp2_with (go_at_fn g; refine hcall.mono ?_; rintro e w' ⟨rfl, hb'⟩)
        go_roundg (xs.length - (kk + 1))
        case measure => omega
        case rel =>
          refine ⟨kk + 1, by omega, by omega, by go_num, ⟨below_then BW.out BW.out.size hb'⟩, ⟨fun j hj => ?_⟩⟩
          by_cases e : j = kk
          · subst e; exact HQ.out
          · exact HA.out j (by omega)
    · have hltz : ¬ (kk : Int) < (xs.length : Int) := by omega
      have HK := Aside0.mk (show kk = xs.length by omega)
      go_wp2
      go_ret
      exact ⟨by rw [firstAt_miss (fun j hj => HA.out j (by have := HK.out; omega))]; rfl, BW.out⟩
set_option maxHeartbeats 1000000 in
theorem ContainsFunc_Part (g : Nat) (lb : Array Value) (eg : ∀ args w, (callFunc g args).run Tryd.prog w = .ok (.enter g args) w) (A : Option Addr) (c : Nat) (xs : List S71) (p : Nat → Bool) (w : World)
    (hx : Kd.C k71 w A xs.length xs) (hp : TellsK Tryd.prog g lb k71 z71 xs p w) :
    Calls Tryd.prog 68 #[.slice A xs.length c, .func (.func g) #[] lb] w fun e w' => e = .returned (.bool ((List.range xs.length).any p)) ∧ Below w.heap.size w w' := by
  rw [← firstAt_any]
  have hcall := IndexFunc_Part g lb eg A c xs p w hx hp
  clear hx hp
  generalize firstAt p xs.length = r at hcall ⊢
  go_enter Tryd.func68, Tryd.ntmps68
  go_wp2_with (go_at_call 81; refine hcall.mono ?_; rintro e w' ⟨rfl, hb'⟩)
  go_ret
  exact ⟨rfl, hb'⟩
end Go.Proofs.YtpbkdeelkpjccaaDoor.G

-- Laid by xprint.py (this work's own driver of the kit's printer).
namespace Go.Proofs.YtpbkdeelkpjccaaDoor.G
open Go.RowKit Go.Proofs.YtpbkdeelkpjccaaDoorW.PrintWords Go.Proofs.YtpbkdeelkpjccaaDoorW.PrintLast Go.Proofs.YtpbkdeelkpjccaaDoorW.PrintMore
attribute [local go_sem] max2_int min2_int max_two min_two max_three min_three max_four min_four   -- for this text's walks alone
set_option linter.unusedVariables false
set_option linter.unusedSimpArgs false
def tag_named.f (a0 : Int) : Option (Bool) := if a0 ≥ 97 then (if a0 ≤ 122 then (some true) else (if a0 ≥ 65 then (if a0 ≤ 90 then (some true) else (if a0 ≥ 48 then (if a0 ≤ 57 then (some true) else (some (a0 == 45))) else (some (a0 == 45)))) else (if a0 ≥ 48 then (if a0 ≤ 57 then (some true) else (some (a0 == 45))) else (some (a0 == 45))))) else (if a0 ≥ 65 then (if a0 ≤ 90 then (some true) else (if a0 ≥ 48 then (if a0 ≤ 57 then (some true) else (some (a0 == 45))) else (some (a0 == 45)))) else (if a0 ≥ 48 then (if a0 ≤ 57 then (some true) else (some (a0 == 45))) else (some (a0 == 45))))
set_option maxHeartbeats 8000000 in
set_option maxRecDepth 100000 in
theorem tag_named.calls (a0 : Int) (r : Bool) (w : World) (h : tag_named.f a0 = some r) :
    Calls Tryd.prog 84 #[.int .i32 a0] w fun e w' => e = .returned (.bool r) ∧ Drawn0 w w' := by
  have H : (if a0 ≥ 97 then (if a0 ≤ 122 then (some true) else (if a0 ≥ 65 then (if a0 ≤ 90 then (some true) else (if a0 ≥ 48 then (if a0 ≤ 57 then (some true) else (some (a0 == 45))) else (some (a0 == 45)))) else (if a0 ≥ 48 then (if a0 ≤ 57 then (some true) else (some (a0 == 45))) else (some (a0 == 45))))) else (if a0 ≥ 65 then (if a0 ≤ 90 then (some true) else (if a0 ≥ 48 then (if a0 ≤ 57 then (some true) else (some (a0 == 45))) else (some (a0 == 45)))) else (if a0 ≥ 48 then (if a0 ≤ 57 then (some true) else (some (a0 == 45))) else (some (a0 == 45))))) = some r := h
  clear h
  by_cases c2 : a0 ≥ 97
  · rw [if_pos c2] at H
    have c2b0 : decide (97 ≤ a0) = true := decide_eq_true c2
    clear c2
    by_cases c3 : a0 ≤ 122
    · rw [if_pos c3] at H
      have c3b0 : decide (a0 ≤ 122) = true := decide_eq_true c3
      clear c3
      obtain rfl := Option.some.inj H
      go_enter Tryd.func84, Tryd.ntmps84
      go_wp2
      go_ret
      exact ⟨by first | rfl | (simp; done) | (simp [*]; done), by repeat (first | exact Drawn0.refl _ | apply Drawn0.step)⟩
    · rw [if_neg c3] at H
      have c3b0 : decide (a0 ≤ 122) = false := decide_eq_false c3
      clear c3
      by_cases c4 : a0 ≥ 65
      · rw [if_pos c4] at H
        have c4b0 : decide (65 ≤ a0) = true := decide_eq_true c4
        clear c4
        by_cases c5 : a0 ≤ 90
        · rw [if_pos c5] at H
          have c5b0 : decide (a0 ≤ 90) = true := decide_eq_true c5
          clear c5
          obtain rfl := Option.some.inj H
          go_enter Tryd.func84, Tryd.ntmps84
          go_wp2
          go_ret
          exact ⟨by first | rfl | (simp; done) | (simp [*]; done), by repeat (first | exact Drawn0.refl _ | apply Drawn0.step)⟩
        · rw [if_neg c5] at H
          have c5b0 : decide (a0 ≤ 90) = false := decide_eq_false c5
          clear c5
          by_cases c6 : a0 ≥ 48
          · rw [if_pos c6] at H
            have c6b0 : decide (48 ≤ a0) = true := decide_eq_true c6
            clear c6
            by_cases c7 : a0 ≤ 57
            · rw [if_pos c7] at H
              have c7b0 : decide (a0 ≤ 57) = true := decide_eq_true c7
              clear c7
              obtain rfl := Option.some.inj H
              go_enter Tryd.func84, Tryd.ntmps84
              go_wp2
              go_ret
              exact ⟨by first | rfl | (simp; done) | (simp [*]; done), by repeat (first | exact Drawn0.refl _ | apply Drawn0.step)⟩
            · rw [if_neg c7] at H
              have c7b0 : decide (a0 ≤ 57) = false := decide_eq_false c7
              clear c7
              obtain rfl := Option.some.inj H
              go_enter Tryd.func84, Tryd.ntmps84
              go_wp2
              go_ret
              exact ⟨by first | rfl | (simp; done) | (simp [*]; done), by repeat (first | exact Drawn0.refl _ | apply Drawn0.step)⟩
          · rw [if_neg c6] at H
            have c6b0 : decide (48 ≤ a0) = false := decide_eq_false c6
            clear c6
            obtain rfl := Option.some.inj H
            go_enter Tryd.func84, Tryd.ntmps84
            go_wp2
            go_ret
            exact ⟨by first | rfl | (simp; done) | (simp [*]; done), by repeat (first | exact Drawn0.refl _ | apply Drawn0.step)⟩
      · rw [if_neg c4] at H
        have c4b0 : decide (65 ≤ a0) = false := decide_eq_false c4
        clear c4
        by_cases c8 : a0 ≥ 48
        · rw [if_pos c8] at H
          have c8b0 : decide (48 ≤ a0) = true := decide_eq_true c8
          clear c8
          by_cases c9 : a0 ≤ 57
          · rw [if_pos c9] at H
            have c9b0 : decide (a0 ≤ 57) = true := decide_eq_true c9
            clear c9
            obtain rfl := Option.some.inj H
            go_enter Tryd.func84, Tryd.ntmps84
            go_wp2
            go_ret
            exact ⟨by first | rfl | (simp; done) | (simp [*]; done), by repeat (first | exact Drawn0.refl _ | apply Drawn0.step)⟩
          · rw [if_neg c9] at H
            have c9b0 : decide (a0 ≤ 57) = false := decide_eq_false c9
            clear c9
            obtain rfl := Option.some.inj H
            go_enter Tryd.func84, Tryd.ntmps84
            go_wp2
            go_ret
            exact ⟨by first | rfl | (simp; done) | (simp [*]; done), by repeat (first | exact Drawn0.refl _ | apply Drawn0.step)⟩
        · rw [if_neg c8] at H
          have c8b0 : decide (48 ≤ a0) = false := decide_eq_false c8
          clear c8
          obtain rfl := Option.some.inj H
          go_enter Tryd.func84, Tryd.ntmps84
          go_wp2
          go_ret
          exact ⟨by first | rfl | (simp; done) | (simp [*]; done), by repeat (first | exact Drawn0.refl _ | apply Drawn0.step)⟩
  · rw [if_neg c2] at H
    have c2b0 : decide (97 ≤ a0) = false := decide_eq_false c2
    clear c2
    by_cases c10 : a0 ≥ 65
    · rw [if_pos c10] at H
      have c10b0 : decide (65 ≤ a0) = true := decide_eq_true c10
      clear c10
      by_cases c11 : a0 ≤ 90
      · rw [if_pos c11] at H
        have c11b0 : decide (a0 ≤ 90) = true := decide_eq_true c11
        clear c11
        obtain rfl := Option.some.inj H
        go_enter Tryd.func84, Tryd.ntmps84
        go_wp2
        go_ret
        exact ⟨by first | rfl | (simp; done) | (simp [*]; done), by repeat (first | exact Drawn0.refl _ | apply Drawn0.step)⟩
      · rw [if_neg c11] at H
        have c11b0 : decide (a0 ≤ 90) = false := decide_eq_false c11
        clear c11
        by_cases c12 : a0 ≥ 48
        · rw [if_pos c12] at H
          have c12b0 : decide (48 ≤ a0) = true := decide_eq_true c12
          clear c12
          by_cases c13 : a0 ≤ 57
          · rw [if_pos c13] at H
            have c13b0 : decide (a0 ≤ 57) = true := decide_eq_true c13
            clear c13
            obtain rfl := Option.some.inj H
            go_enter Tryd.func84, Tryd.ntmps84
            go_wp2
            go_ret
            exact ⟨by first | rfl | (simp; done) | (simp [*]; done), by repeat (first | exact Drawn0.refl _ | apply Drawn0.step)⟩
          · rw [if_neg c13] at H
            have c13b0 : decide (a0 ≤ 57) = false := decide_eq_false c13
            clear c13
            obtain rfl := Option.some.inj H
            go_enter Tryd.func84, Tryd.ntmps84
            go_wp2
            go_ret
            exact ⟨by first | rfl | (simp; done) | (simp [*]; done), by repeat (first | exact Drawn0.refl _ | apply Drawn0.step)⟩
        · rw [if_neg c12] at H
          have c12b0 : decide (48 ≤ a0) = false := decide_eq_false c12
          clear c12
          obtain rfl := Option.some.inj H
          go_enter Tryd.func84, Tryd.ntmps84
          go_wp2
          go_ret
          exact ⟨by first | rfl | (simp; done) | (simp [*]; done), by repeat (first | exact Drawn0.refl _ | apply Drawn0.step)⟩
    · rw [if_neg c10] at H
      have c10b0 : decide (65 ≤ a0) = false := decide_eq_false c10
      clear c10
      by_cases c14 : a0 ≥ 48
      · rw [if_pos c14] at H
        have c14b0 : decide (48 ≤ a0) = true := decide_eq_true c14
        clear c14
        by_cases c15 : a0 ≤ 57
        · rw [if_pos c15] at H
          have c15b0 : decide (a0 ≤ 57) = true := decide_eq_true c15
          clear c15
          obtain rfl := Option.some.inj H
          go_enter Tryd.func84, Tryd.ntmps84
          go_wp2
          go_ret
          exact ⟨by first | rfl | (simp; done) | (simp [*]; done), by repeat (first | exact Drawn0.refl _ | apply Drawn0.step)⟩
        · rw [if_neg c15] at H
          have c15b0 : decide (a0 ≤ 57) = false := decide_eq_false c15
          clear c15
          obtain rfl := Option.some.inj H
          go_enter Tryd.func84, Tryd.ntmps84
          go_wp2
          go_ret
          exact ⟨by first | rfl | (simp; done) | (simp [*]; done), by repeat (first | exact Drawn0.refl _ | apply Drawn0.step)⟩
      · rw [if_neg c14] at H
        have c14b0 : decide (48 ≤ a0) = false := decide_eq_false c14
        clear c14
        obtain rfl := Option.some.inj H
        go_enter Tryd.func84, Tryd.ntmps84
        go_wp2
        go_ret
        exact ⟨by first | rfl | (simp; done) | (simp [*]; done), by repeat (first | exact Drawn0.refl _ | apply Drawn0.step)⟩
def tag_named.Pure : Prop := ∀ (a0 : Int), (Lit.int .i32 a0).wf = true → tag_named.f a0 = some true
theorem tag_named.walk (P : tag_named.Pure) (a0 : Int) (w : World) (w0 : (Lit.int .i32 a0).wf = true) :
    Calls Tryd.prog 84 #[.int .i32 a0] w fun e w' => e = .returned (.bool true) ∧ Below w.heap.size w w' := by
  have h := P a0 w0
  refine (tag_named.calls a0 true w h).mono ?_
  rintro e w' ⟨rfl, hd⟩
  exact ⟨rfl, hd.below⟩
end Go.Proofs.YtpbkdeelkpjccaaDoor.G

-- Laid by xprint.py (this work's own driver of the kit's printer).
namespace Go.Proofs.YtpbkdeelkpjccaaDoor.G
open Go.RowKit Go.Proofs.YtpbkdeelkpjccaaDoorW.PrintWords Go.Proofs.YtpbkdeelkpjccaaDoorW.PrintLast Go.Proofs.YtpbkdeelkpjccaaDoorW.PrintMore
attribute [local go_sem] max2_int min2_int max_two min_two max_three min_three max_four min_four   -- for this text's walks alone
set_option linter.unusedVariables false
set_option linter.unusedSimpArgs false
def lex_Name_1.f (a0 : Int) : Option (Bool) := if a0 < 97 then (if a0 < 65 then (if a0 < 48 then (if a0 = 45 then (some false) else (some (a0 != 95))) else (if a0 > 57 then (if a0 = 45 then (some false) else (some (a0 != 95))) else (some false))) else (if a0 > 90 then (if a0 < 48 then (if a0 = 45 then (some false) else (some (a0 != 95))) else (if a0 > 57 then (if a0 = 45 then (some false) else (some (a0 != 95))) else (some false))) else (some false))) else (if a0 > 122 then (if a0 < 65 then (if a0 < 48 then (if a0 = 45 then (some false) else (some (a0 != 95))) else (if a0 > 57 then (if a0 = 45 then (some false) else (some (a0 != 95))) else (some false))) else (if a0 > 90 then (if a0 < 48 then (if a0 = 45 then (some false) else (some (a0 != 95))) else (if a0 > 57 then (if a0 = 45 then (some false) else (some (a0 != 95))) else (some false))) else (some false))) else (some false))
set_option maxHeartbeats 8000000 in
set_option maxRecDepth 100000 in
theorem lex_Name_1.calls (a0 : Int) (r : Bool) (w : World) (h : lex_Name_1.f a0 = some r) :
    Calls Tryd.prog 86 #[.int .i32 a0] w fun e w' => e = .returned (.bool r) ∧ Drawn0 w w' := by
  have H : (if a0 < 97 then (if a0 < 65 then (if a0 < 48 then (if a0 = 45 then (some false) else (some (a0 != 95))) else (if a0 > 57 then (if a0 = 45 then (some false) else (some (a0 != 95))) else (some false))) else (if a0 > 90 then (if a0 < 48 then (if a0 = 45 then (some false) else (some (a0 != 95))) else (if a0 > 57 then (if a0 = 45 then (some false) else (some (a0 != 95))) else (some false))) else (some false))) else (if a0 > 122 then (if a0 < 65 then (if a0 < 48 then (if a0 = 45 then (some false) else (some (a0 != 95))) else (if a0 > 57 then (if a0 = 45 then (some false) else (some (a0 != 95))) else (some false))) else (if a0 > 90 then (if a0 < 48 then (if a0 = 45 then (some false) else (some (a0 != 95))) else (if a0 > 57 then (if a0 = 45 then (some false) else (some (a0 != 95))) else (some false))) else (some false))) else (some false))) = some r := h
  clear h
  by_cases c2 : a0 < 97
  · rw [if_pos c2] at H
    have c2b0 : decide (a0 < 97) = true := decide_eq_true c2
    clear c2
    by_cases c3 : a0 < 65
    · rw [if_pos c3] at H
      have c3b0 : decide (a0 < 65) = true := decide_eq_true c3
      clear c3
      by_cases c4 : a0 < 48
      · rw [if_pos c4] at H
        have c4b0 : decide (a0 < 48) = true := decide_eq_true c4
        clear c4
        by_cases c5 : a0 = 45
        · rw [if_pos c5] at H
          have c5b0 : (a0 == 45) = true := beq_iff_eq.mpr c5
          have c5b1 : (a0 != 45) = false := bne_eq_false_iff_eq.mpr c5
          clear c5
          obtain rfl := Option.some.inj H
          go_enter Tryd.func86, Tryd.ntmps86
          go_wp2
          go_ret
          exact ⟨by first | rfl | (simp; done) | (simp [*]; done), by repeat (first | exact Drawn0.refl _ | apply Drawn0.step)⟩
        · rw [if_neg c5] at H
          have c5b0 : (a0 == 45) = false := beq_eq_false_iff_ne.mpr c5
          have c5b1 : (a0 != 45) = true := bne_iff_ne.mpr c5
          obtain rfl := Option.some.inj H
          go_enter Tryd.func86, Tryd.ntmps86
          go_wp2
          go_ret
          exact ⟨by first | rfl | (simp; done) | (simp [*]; done), by repeat (first | exact Drawn0.refl _ | apply Drawn0.step)⟩
      · rw [if_neg c4] at H
        have c4b0 : decide (a0 < 48) = false := decide_eq_false c4
        clear c4
        by_cases c6 : a0 > 57
        · rw [if_pos c6] at H
          have c6b0 : decide (57 < a0) = true := decide_eq_true c6
          clear c6
          by_cases c7 : a0 = 45
          · rw [if_pos c7] at H
            have c7b0 : (a0 == 45) = true := beq_iff_eq.mpr c7
            have c7b1 : (a0 != 45) = false := bne_eq_false_iff_eq.mpr c7
            clear c7
            obtain rfl := Option.some.inj H
            go_enter Tryd.func86, Tryd.ntmps86
            go_wp2
            go_ret
            exact ⟨by first | rfl | (simp; done) | (simp [*]; done), by repeat (first | exact Drawn0.refl _ | apply Drawn0.step)⟩
          · rw [if_neg c7] at H
            have c7b0 : (a0 == 45) = false := beq_eq_false_iff_ne.mpr c7
            have c7b1 : (a0 != 45) = true := bne_iff_ne.mpr c7
            obtain rfl := Option.some.inj H
            go_enter Tryd.func86, Tryd.ntmps86
            go_wp2
            go_ret
            exact ⟨by first | rfl | (simp; done) | (simp [*]; done), by repeat (first | exact Drawn0.refl _ | apply Drawn0.step)⟩
        · rw [if_neg c6] at H
          have c6b0 : decide (57 < a0) = false := decide_eq_false c6
          clear c6
          obtain rfl := Option.some.inj H
          go_enter Tryd.func86, Tryd.ntmps86
          go_wp2
          go_ret
          exact ⟨by first | rfl | (simp; done) | (simp [*]; done), by repeat (first | exact Drawn0.refl _ | apply Drawn0.step)⟩
    · rw [if_neg c3] at H
      have c3b0 : decide (a0 < 65) = false := decide_eq_false c3
      clear c3
      by_cases c8 : a0 > 90
      · rw [if_pos c8] at H
        have c8b0 : decide (90 < a0) = true := decide_eq_true c8
        clear c8
        by_cases c9 : a0 < 48
        · rw [if_pos c9] at H
          have c9b0 : decide (a0 < 48) = true := decide_eq_true c9
          clear c9
          by_cases c10 : a0 = 45
          · rw [if_pos c10] at H
            have c10b0 : (a0 == 45) = true := beq_iff_eq.mpr c10
            have c10b1 : (a0 != 45) = false := bne_eq_false_iff_eq.mpr c10
            clear c10
            obtain rfl := Option.some.inj H
            go_enter Tryd.func86, Tryd.ntmps86
            go_wp2
            go_ret
            exact ⟨by first | rfl | (simp; done) | (simp [*]; done), by repeat (first | exact Drawn0.refl _ | apply Drawn0.step)⟩
          · rw [if_neg c10] at H
            have c10b0 : (a0 == 45) = false := beq_eq_false_iff_ne.mpr c10
            have c10b1 : (a0 != 45) = true := bne_iff_ne.mpr c10
            obtain rfl := Option.some.inj H
            go_enter Tryd.func86, Tryd.ntmps86
            go_wp2
            go_ret
            exact ⟨by first | rfl | (simp; done) | (simp [*]; done), by repeat (first | exact Drawn0.refl _ | apply Drawn0.step)⟩
        · rw [if_neg c9] at H
          have c9b0 : decide (a0 < 48) = false := decide_eq_false c9
          clear c9
          by_cases c11 : a0 > 57
          · rw [if_pos c11] at H
            have c11b0 : decide (57 < a0) = true := decide_eq_true c11
            clear c11
            by_cases c12 : a0 = 45
            · rw [if_pos c12] at H
              have c12b0 : (a0 == 45) = true := beq_iff_eq.mpr c12
              have c12b1 : (a0 != 45) = false := bne_eq_false_iff_eq.mpr c12
              clear c12
              obtain rfl := Option.some.inj H
              go_enter Tryd.func86, Tryd.ntmps86
              go_wp2
              go_ret
              exact ⟨by first | rfl | (simp; done) | (simp [*]; done), by repeat (first | exact Drawn0.refl _ | apply Drawn0.step)⟩
            · rw [if_neg c12] at H
              have c12b0 : (a0 == 45) = false := beq_eq_false_iff_ne.mpr c12
              have c12b1 : (a0 != 45) = true := bne_iff_ne.mpr c12
              obtain rfl := Option.some.inj H
              go_enter Tryd.func86, Tryd.ntmps86
              go_wp2
              go_ret
              exact ⟨by first | rfl | (simp; done) | (simp [*]; done), by repeat (first | exact Drawn0.refl _ | apply Drawn0.step)⟩
          · rw [if_neg c11] at H
            have c11b0 : decide (57 < a0) = false := decide_eq_false c11
            clear c11
            obtain rfl := Option.some.inj H
            go_enter Tryd.func86, Tryd.ntmps86
            go_wp2
            go_ret
            exact ⟨by first | rfl | (simp; done) | (simp [*]; done), by repeat (first | exact Drawn0.refl _ | apply Drawn0.step)⟩
      · rw [if_neg c8] at H
        have c8b0 : decide (90 < a0) = false := decide_eq_false c8
        clear c8
        obtain rfl := Option.some.inj H
        go_enter Tryd.func86, Tryd.ntmps86
        go_wp2
        go_ret
        exact ⟨by first | rfl | (simp; done) | (simp [*]; done), by repeat (first | exact Drawn0.refl _ | apply Drawn0.step)⟩
  · rw [if_neg c2] at H
    have c2b0 : decide (a0 < 97) = false := decide_eq_false c2
    clear c2
    by_cases c13 : a0 > 122
    · rw [if_pos c13] at H
      have c13b0 : decide (122 < a0) = true := decide_eq_true c13
      clear c13
      by_cases c14 : a0 < 65
      · rw [if_pos c14] at H
        have c14b0 : decide (a0 < 65) = true := decide_eq_true c14
        clear c14
        by_cases c15 : a0 < 48
        · rw [if_pos c15] at H
          have c15b0 : decide (a0 < 48) = true := decide_eq_true c15
          clear c15
          by_cases c16 : a0 = 45
          · rw [if_pos c16] at H
            have c16b0 : (a0 == 45) = true := beq_iff_eq.mpr c16
            have c16b1 : (a0 != 45) = false := bne_eq_false_iff_eq.mpr c16
            clear c16
            obtain rfl := Option.some.inj H
            go_enter Tryd.func86, Tryd.ntmps86
            go_wp2
            go_ret
            exact ⟨by first | rfl | (simp; done) | (simp [*]; done), by repeat (first | exact Drawn0.refl _ | apply Drawn0.step)⟩
          · rw [if_neg c16] at H
            have c16b0 : (a0 == 45) = false := beq_eq_false_iff_ne.mpr c16
            have c16b1 : (a0 != 45) = true := bne_iff_ne.mpr c16
            obtain rfl := Option.some.inj H
            go_enter Tryd.func86, Tryd.ntmps86
            go_wp2
            go_ret
            exact ⟨by first | rfl | (simp; done) | (simp [*]; done), by repeat (first | exact Drawn0.refl _ | apply Drawn0.step)⟩
        · rw [if_neg c15] at H
          have c15b0 : decide (a0 < 48) = false := decide_eq_false c15
          clear c15
          by_cases c17 : a0 > 57
          · rw [if_pos c17] at H
            have c17b0 : decide (57 < a0) = true := decide_eq_true c17
            clear c17
            by_cases c18 : a0 = 45
            · rw [if_pos c18] at H
              have c18b0 : (a0 == 45) = true := beq_iff_eq.mpr c18
              have c18b1 : (a0 != 45) = false := bne_eq_false_iff_eq.mpr c18
              clear c18
              obtain rfl := Option.some.inj H
              go_enter Tryd.func86, Tryd.ntmps86
              go_wp2
              go_ret
              exact ⟨by first | rfl | (simp; done) | (simp [*]; done), by repeat (first | exact Drawn0.refl _ | apply Drawn0.step)⟩
            · rw [if_neg c18] at H
              have c18b0 : (a0 == 45) = false := beq_eq_false_iff_ne.mpr c18
              have c18b1 : (a0 != 45) = true := bne_iff_ne.mpr c18
              obtain rfl := Option.some.inj H
              go_enter Tryd.func86, Tryd.ntmps86
              go_wp2
              go_ret
              exact ⟨by first | rfl | (simp; done) | (simp [*]; done), by repeat (first | exact Drawn0.refl _ | apply Drawn0.step)⟩
          · rw [if_neg c17] at H
            have c17b0 : decide (57 < a0) = false := decide_eq_false c17
            clear c17
            obtain rfl := Option.some.inj H
            go_enter Tryd.func86, Tryd.ntmps86
            go_wp2
            go_ret
            exact ⟨by first | rfl | (simp; done) | (simp [*]; done), by repeat (first | exact Drawn0.refl _ | apply Drawn0.step)⟩
      · rw [if_neg c14] at H
        have c14b0 : decide (a0 < 65) = false := decide_eq_false c14
        clear c14
        by_cases c19 : a0 > 90
        · rw [if_pos c19] at H
          have c19b0 : decide (90 < a0) = true := decide_eq_true c19
          clear c19
          by_cases c20 : a0 < 48
          · rw [if_pos c20] at H
            have c20b0 : decide (a0 < 48) = true := decide_eq_true c20
            clear c20
            by_cases c21 : a0 = 45
            · rw [if_pos c21] at H
              have c21b0 : (a0 == 45) = true := beq_iff_eq.mpr c21
              have c21b1 : (a0 != 45) = false := bne_eq_false_iff_eq.mpr c21
              clear c21
              obtain rfl := Option.some.inj H
              go_enter Tryd.func86, Tryd.ntmps86
              go_wp2
              go_ret
              exact ⟨by first | rfl | (simp; done) | (simp [*]; done), by repeat (first | exact Drawn0.refl _ | apply Drawn0.step)⟩
            · rw [if_neg c21] at H
              have c21b0 : (a0 == 45) = false := beq_eq_false_iff_ne.mpr c21
              have c21b1 : (a0 != 45) = true := bne_iff_ne.mpr c21
              obtain rfl := Option.some.inj H
              go_enter Tryd.func86, Tryd.ntmps86
              go_wp2
              go_ret
              exact ⟨by first | rfl | (simp; done) | (simp [*]; done), by repeat (first | exact Drawn0.refl _ | apply Drawn0.step)⟩
          · rw [if_neg c20] at H
            have c20b0 : decide (a0 < 48) = false := decide_eq_false c20
            clear c20
            by_cases c22 : a0 > 57
            · rw [if_pos c22] at H
              have c22b0 : decide (57 < a0) = true := decide_eq_true c22
              clear c22
              by_cases c23 : a0 = 45
              · rw [if_pos c23] at H
                have c23b0 : (a0 == 45) = true := beq_iff_eq.mpr c23
                have c23b1 : (a0 != 45) = false := bne_eq_false_iff_eq.mpr c23
                clear c23
                obtain rfl := Option.some.inj H
                go_enter Tryd.func86, Tryd.ntmps86
                go_wp2
                go_ret
                exact ⟨by first | rfl | (simp; done) | (simp [*]; done), by repeat (first | exact Drawn0.refl _ | apply Drawn0.step)⟩
              · rw [if_neg c23] at H
                have c23b0 : (a0 == 45) = false := beq_eq_false_iff_ne.mpr c23
                have c23b1 : (a0 != 45) = true := bne_iff_ne.mpr c23
                obtain rfl := Option.some.inj H
                go_enter Tryd.func86, Tryd.ntmps86
                go_wp2
                go_ret
                exact ⟨by first | rfl | (simp; done) | (simp [*]; done), by repeat (first | exact Drawn0.refl _ | apply Drawn0.step)⟩
            · rw [if_neg c22] at H
              have c22b0 : decide (57 < a0) = false := decide_eq_false c22
              clear c22
              obtain rfl := Option.some.inj H
              go_enter Tryd.func86, Tryd.ntmps86
              go_wp2
              go_ret
              exact ⟨by first | rfl | (simp; done) | (simp [*]; done), by repeat (first | exact Drawn0.refl _ | apply Drawn0.step)⟩
        · rw [if_neg c19] at H
          have c19b0 : decide (90 < a0) = false := decide_eq_false c19
          clear c19
          obtain rfl := Option.some.inj H
          go_enter Tryd.func86, Tryd.ntmps86
          go_wp2
          go_ret
          exact ⟨by first | rfl | (simp; done) | (simp [*]; done), by repeat (first | exact Drawn0.refl _ | apply Drawn0.step)⟩
    · rw [if_neg c13] at H
      have c13b0 : decide (122 < a0) = false := decide_eq_false c13
      clear c13
      obtain rfl := Option.some.inj H
      go_enter Tryd.func86, Tryd.ntmps86
      go_wp2
      go_ret
      exact ⟨by first | rfl | (simp; done) | (simp [*]; done), by repeat (first | exact Drawn0.refl _ | apply Drawn0.step)⟩
def lex_Name_1.Pure : Prop := ∀ (a0 : Int), (Lit.int .i32 a0).wf = true → lex_Name_1.f a0 = some true
theorem lex_Name_1.walk (P : lex_Name_1.Pure) (a0 : Int) (w : World) (w0 : (Lit.int .i32 a0).wf = true) :
    Calls Tryd.prog 86 #[.int .i32 a0] w fun e w' => e = .returned (.bool true) ∧ Below w.heap.size w w' := by
  have h := P a0 w0
  refine (lex_Name_1.calls a0 true w h).mono ?_
  rintro e w' ⟨rfl, hd⟩
  exact ⟨rfl, hd.below⟩
end Go.Proofs.YtpbkdeelkpjccaaDoor.G

namespace Go.Proofs.YtpbkdeelkpjccaaDoor.G
open Go.RowKit Go.Proofs.YtpbkdeelkpjccaaDoorW.PrintWords Go.Shelf
set_option linter.unusedVariables false
set_option linter.unusedSimpArgs false
def namedB (r : Int) : Bool := decide (97 ≤ r ∧ r ≤ 122 ∨ 65 ≤ r ∧ r ≤ 90 ∨ 48 ≤ r ∧ r ≤ 57 ∨ r = 45)
theorem named_f (r : Int) : tag_named.f r = some (namedB r) := by
  unfold tag_named.f namedB
  repeat' split
  all_goals (congr 1; first | (symm; apply decide_eq_true; omega) | (symm; apply decide_eq_false; omega) | (rw [Bool.eq_iff_iff]; simp; omega))
def nameNotB (r : Int) : Bool := !decide (97 ≤ r ∧ r ≤ 122 ∨ 65 ≤ r ∧ r ≤ 90 ∨ 48 ≤ r ∧ r ≤ 57 ∨ r = 45 ∨ r = 95)
theorem nameNot_f (r : Int) : lex_Name_1.f r = some (nameNotB r) := by
  unfold lex_Name_1.f nameNotB
  repeat' split
  all_goals (congr 1; first | (symm; simp; omega) | (rw [Bool.eq_iff_iff]; simp; omega))
theorem own1_pred (w : World) : PredAt Tryd.prog 83 #[] encR (fun r => !namedB (r : Int)) w := by
  intro W x hb
  have hcall := fun W => tag_named.calls (x : Int) (namedB (x : Int)) W (named_f _)
  unfold FnGives
  dsimp only
  generalize namedB (x : Int) = b at hcall ⊢
  show Calls _ _ #[.int .i32 (x : Int)] _ _
  go_enter Tryd.func83, Tryd.ntmps83
  go_wp2_with (go_at_call 84; refine (hcall _).mono ?_; rintro e w' ⟨rfl, hd⟩; obtain ⟨q, rfl⟩ := hd.out)
  go_ret
  exact ⟨rfl, q, rfl⟩
theorem name1_pred (w : World) : PredAt Tryd.prog 86 #[] encR (fun r => nameNotB (r : Int)) w := fun W x hb =>
  (lex_Name_1.calls (x : Int) (nameNotB (x : Int)) W (nameNot_f _)).mono fun e w' ⟨he, hd⟩ => ⟨he, hd.out⟩
def anyRune (p : Nat → Bool) (s : ByteArray) : Bool := decide (0 ≤ Lib.idxFunc p true s)
def ownB (s : ByteArray) : Bool := Lib.hasPrefix s.data.toList [33] && (!(Lib.trimPrefix s.data.toList [33]).isEmpty && (decide ((Lib.trimPrefix s.data.toList [33]).length ≤ 40) && !anyRune (fun r => !namedB (r : Int)) ⟨(Lib.trimPrefix s.data.toList [33]).toArray⟩))
def nameB (s : ByteArray) : Bool := !s.toList.isEmpty && (decide (s.size ≤ 40) && !anyRune (fun r => nameNotB (r : Int)) s)
set_option maxHeartbeats 1000000 in
theorem own_any (s : ByteArray) (w : World) : Calls Tryd.prog 72 #[.string s] w fun e w' => e = .returned (.bool (ownB s)) ∧ Below w.heap.size w w' := by
  unfold ownB
  have cC := fun W => Tryd.strings_CutPrefix s ⟨#[33]⟩ W
  simp only [show (⟨#[33]⟩ : ByteArray).data.toList = [33] from rfl] at cC
  generalize Lib.hasPrefix s.data.toList [33] = b at cC ⊢
  generalize Lib.trimPrefix s.data.toList [33] = t at cC ⊢
  have cF := fun W => Tryd.strings_ContainsFunc 83 #[] (enters_of Tryd.func83 (by kernel_rfl) rfl) (fun r => !namedB (r : Int)) ⟨t.toArray⟩ W (own1_pred W)
  change ∀ W, Calls _ _ _ _ fun e w' => e = .returned (.bool (anyRune (fun r => !namedB (r : Int)) ⟨t.toArray⟩)) ∧ _ at cF
  generalize anyRune (fun r => !namedB (r : Int)) ⟨t.toArray⟩ = q at cF ⊢
  have hsz : (⟨t.toArray⟩ : ByteArray).size = t.length := by simp [ByteArray.size]
  have htl : (⟨t.toArray⟩ : ByteArray).toList = t := by simp
  generalize (⟨t.toArray⟩ : ByteArray) = y at cC cF hsz htl
  rw [← hsz, ← htl]
  clear htl hsz
  cases b
  · go_enter Tryd.func72, Tryd.ntmps72
    go_wp2_with (go_at_call 82; refine (cC _).mono ?_; rintro e w' ⟨rfl, rfl⟩)
    go_ret
    exact ⟨rfl, Below.refl _ _⟩
  · cases he : y.toList.isEmpty
    · by_cases hl : y.size ≤ 40
      · have hld : decide (y.size ≤ 40) = true := decide_eq_true hl
        rw [hld]
        go_enter Tryd.func72, Tryd.ntmps72
        go_wp2_with (first | (go_at_call 82; refine (cC _).mono ?_; rintro e w' ⟨rfl, rfl⟩) | (go_at_call 85; refine (cF _).mono ?_; rintro e w' ⟨rfl, hb⟩))
        go_ret
        exact ⟨by simp, hb⟩
      · have hld : decide (y.size ≤ 40) = false := decide_eq_false hl
        rw [hld]
        go_enter Tryd.func72, Tryd.ntmps72
        go_wp2_with (go_at_call 82; refine (cC _).mono ?_; rintro e w' ⟨rfl, rfl⟩)
        go_ret
        exact ⟨rfl, Below.refl _ _⟩
    · go_enter Tryd.func72, Tryd.ntmps72
      go_wp2_with (go_at_call 82; refine (cC _).mono ?_; rintro e w' ⟨rfl, rfl⟩)
      go_ret
      exact ⟨rfl, Below.refl _ _⟩
set_option maxHeartbeats 1000000 in
theorem name_any (s : ByteArray) (w : World) : Calls Tryd.prog 73 #[.string s] w fun e w' => e = .returned (.bool (nameB s)) ∧ Below w.heap.size w w' := by
  unfold nameB
  have cF := fun W => Tryd.strings_ContainsFunc 86 #[] (enters_of Tryd.func86 (by kernel_rfl) rfl) (fun r => nameNotB (r : Int)) s W (name1_pred W)
  change ∀ W, Calls _ _ _ _ fun e w' => e = .returned (.bool (anyRune (fun r => nameNotB (r : Int)) s)) ∧ _ at cF
  generalize anyRune (fun r => nameNotB (r : Int)) s = q at cF ⊢
  cases he : s.toList.isEmpty
  · by_cases hl : s.size ≤ 40
    · have hld : decide (s.size ≤ 40) = true := decide_eq_true hl
      rw [hld]
      go_enter Tryd.func73, Tryd.ntmps73
      go_wp2_with (go_at_call 85; refine (cF _).mono ?_; rintro e w' ⟨rfl, hb⟩)
      go_ret
      exact ⟨by simp, hb⟩
    · have hld : decide (s.size ≤ 40) = false := decide_eq_false hl
      rw [hld]
      go_enter Tryd.func73, Tryd.ntmps73
      go_wp2
      go_ret
      exact ⟨rfl, Below.refl _ _⟩
  · go_enter Tryd.func73, Tryd.ntmps73
    go_wp2
    go_ret
    exact ⟨rfl, Below.refl _ _⟩
def tag_own.f (a0 : ByteArray) : Option Bool := some (ownB a0)
theorem tag_own.calls (a0 : ByteArray) (r : Bool) (w : World) (h : tag_own.f a0 = some r) :
    Calls Tryd.prog 72 #[.string a0] w fun e w' => e = .returned (.bool r) ∧ Below w.heap.size w w' := by
  obtain rfl := Option.some.inj h; exact own_any a0 w
def lex_Name.f (a0 : ByteArray) : Option Bool := some (nameB a0)
theorem lex_Name.calls (a0 : ByteArray) (r : Bool) (w : World) (h : lex_Name.f a0 = some r) :
    Calls Tryd.prog 73 #[.string a0] w fun e w' => e = .returned (.bool r) ∧ Below w.heap.size w w' := by
  obtain rfl := Option.some.inj h; exact name_any a0 w
end Go.Proofs.YtpbkdeelkpjccaaDoor.G
