/- Merged by merge.py out of: HpolicyR, Ptable, Hrows, Porder. -/
import Derived.Test.YtpbkdeelkpjccaaDoorM24
import Derived.Test.YtpbkdeelkpjccaaDoorM19
import Derived.Test.YtpbkdeelkpjccaaDoorM21
import Derived.Test.YtpbkdeelkpjccaaDoorM04
import Derived.Test.YtpbkdeelkpjccaaDoorM11
import Derived.Test.YtpbkdeelkpjccaaDoorM03
import Derived.Test.YtpbkdeelkpjccaaDoorM18
import Derived.Test.YtpbkdeelkpjccaaDoorM17
import Derived.Test.YtpbkdeelkpjccaaDoorM16
namespace Go.Proofs.YtpbkdeelkpjccaaDoor.G
open Go.RowKit Go.Proofs.YtpbkdeelkpjccaaDoorW.PrintWords
set_option linter.unusedVariables false
set_option linter.unusedSimpArgs false
section
variable (p : PolV) (A0 : Option Addr) (c0 : Nat) (A1 : Option Addr) (c1 : Nat) (A3 : Option Addr) (c3 : Nat)
abbrev polArg : Value := .agg #[.slice A0 p.lev.length c0, .slice A1 p.cats.length c1, .string p.mask, .slice A3 p.rules.length c3]
theorem pats_fit {rules : List S50} (h : ∀ x ∈ rules, fitR x = true) : ∀ i, ∀ q ∈ (patsFrom rules i).1, fitP q = true := by
  induction rules with
  | nil => intro i q hq; simp [patsFrom] at hq
  | cons x r ih =>
    intro i q hq
    have ih := ih (fun y hy => h y (List.mem_cons_of_mem _ hy)) (i + 1)
    unfold patsFrom at hq
    split at hq
    · rcases List.mem_cons.1 hq with rfl | hq
      · have := h x (by simp); simp only [fitR, Bool.and_eq_true] at this; exact this.1.1.1
      · exact ih q hq
    · exact ih q hq
theorem patterns_calls (w : World) (H : PolAt p A0 c0 A1 c1 A3 c3 w) (hl : p.rules.length ≤ 5864062014804) :
    Calls Tryd.prog 26 #[polArg p A0 c0 A1 c1 A3 c3] w fun e w' => ∃ v0_ v1_ : Value, e = .returned (.tuple #[v0_, v1_]) ∧ Kd.N (Kd.slice 71 k71) 48 w' w.heap.size (fun k_ => (True ∨ w.heap.size ≤ k_) ∧ some k_ ≠ (v1_ : Value).ownBlock) v0_ (patsL p.rules).1 ∧
      Kd.R (Kd.int .i64) 3 w' w.heap.size (fun k_ => w.heap.size ≤ k_) v1_ (patsL p.rules).2 ∧ Below w.heap.size w w' :=
  policy_Patterns.calls (p.rules.length + 1) A0 c0 p.lev A1 c1 p.cats p.mask (fun _ => True) A3 c3 p.rules _ _ w H.h0 H.l0 H.h1 H.l1 (Kd.V_mk H.l3 (fun W' hW => k50_heap.C (fun k hlt => hW k trivial hlt) H.h3)) (patterns_f _ _ _ _ (by omega))
theorem makes_calls (w : World) (hT : Tabs w) (l : List (List S71)) (hl : l.length ≤ 5864062014804) (hf : ∀ q ∈ l, fitP q = true) (A : Option Addr) (c : Nat) (hr : Kd.C (Kd.slice 71 k71) w A l.length l) (hc : l.length ≤ c) :
    Calls Tryd.prog 27 #[.slice A l.length c] w fun e w' => ∃ v0_ v1_ : Value, e = .returned (.tuple #[.agg #[v0_, v1_, .int .i64 (makeL l).2.2.1], .int .i64 (makeL l).2.2.2]) ∧ Kd.S (Kd.slice 71 k71) 48 w' w.heap.size (fun _ => True) v0_ (makeL l).1 ∧ Kd.R (Kd.int .i64) 3 w' w.heap.size (fun _ => True) v1_ (makeL l).2.1 ∧ Below w.heap.size w w' :=
  nfa_Make.calls (2 * l.length + 2) A c l _ _ _ _ w hT hr hc (make_f l hl hf)
set_option maxHeartbeats 4000000 in
set_option maxRecDepth 100000 in
theorem polRight_a (w : World) (H : PolAt p A0 c0 A1 c1 A3 c3 w) (hm : mayB p.lev p.cats = false) :
    Calls Tryd.prog 12 #[polArg p A0 c0 A1 c1 A3 c3] w fun e w' => e = .returned (.bool false) ∧ Below w.heap.size w w' := by
  have hB0 : (w.alloc (.cells #[.slice A0 p.lev.length c0, .slice A1 p.cats.length c1, .string p.mask, .slice A3 p.rules.length c3] 41)).cell? ⟨w.heap.size, 0, none⟩ = some (.slice A0 p.lev.length c0) := by simp [World.cell?_alloc_at]
  have hB1 : (w.alloc (.cells #[.slice A0 p.lev.length c0, .slice A1 p.cats.length c1, .string p.mask, .slice A3 p.rules.length c3] 41)).cell? ⟨w.heap.size, 1, none⟩ = some (.slice A1 p.cats.length c1) := by simp [World.cell?_alloc_at]
  have HB0 := Aside0.mk hB0
  have HB1 := Aside0.mk hB1
  obtain ⟨f0, f1, f2, f3⟩ := fitPol_parts H.fit
  have hP : ∀ W, Below w.heap.size w W → PolAt p A0 c0 A1 c1 A3 c3 W := fun W hb => H.below p A0 c0 A1 c1 A3 c3 hb
  have cM : Aside0 (∀ W, Below w.heap.size w W → _) := ⟨fun W hb => lattice_May.calls A0 c0 p.lev A1 c1 p.cats _ W (hP W hb).h0 H.l0 (hP W hb).h1 H.l1 (may_f _ _ f0 f1)⟩
  have cV : Aside0 (∀ W, Below w.heap.size w W → _) := ⟨fun W hb => valid_any p.mask (by omega) W (hP W hb).hT⟩
  have cR : Aside0 (∀ W, Below w.heap.size w W → W.cell? ⟨w.heap.size, 0, none⟩ = some (.slice A0 p.lev.length c0) → W.cell? ⟨w.heap.size, 1, none⟩ = some (.slice A1 p.cats.length c1) →
      Calls Tryd.prog 25 #[.slice A3 p.rules.length c3, .func (.func 21) #[] #[.pointer (some ⟨w.heap.size, 0, none⟩)]] W fun e w' => e = .returned (.bool (!(p.rules.all (ruleB p.lev p.cats)))) ∧ Below W.heap.size W w') := ⟨fun W hb q0 q1 => by
    have h := ContainsFunc_Rule 21 #[.pointer (some ⟨w.heap.size, 0, none⟩)] (enters_of Tryd.func21 (by kernel_rfl) rfl) A3 c3 p.rules _ W (hP W hb).h3 (polRight1 p A0 c0 A1 c1 A3 c3 W (hP W hb) w.heap.size q0 q1)
    rw [any_range (fun x => !ruleB p.lev p.cats x) p.rules (fun j => p.rules.getD j z50) (fun j hj => getD_lt _ _ hj)] at h
    rw [List.not_all_eq_any_not]
    exact h⟩
  have hbig0 : p.rules.length ≤ 9223372036854775807 := H.h3.2.1
  have hu38 := Tryd.underlying38
  have hu41 := Tryd.underlying41
  have hu80 := Tryd.underlying80
  rw [hm] at cM
  clear hm
  clear H hP hB0 hB1 f0 f1 f2 f3
  unfold polArg
  generalize p.lev.length = n0 at *
  generalize p.cats.length = n1 at *
  generalize p.rules.length = n3 at *
  generalize p.mask = mask at *
  go_enter Tryd.func12, Tryd.ntmps12
  go_wp2_with (first | (go_at_call 23; refine (cM.out _ ?hb).mono ?_; (case hb => exact (below_alloc (Below.refl _ _) _)); rintro e w1 ⟨rfl, hb1⟩; obtain ⟨hc1, hf1⟩ := bcell hb1; have hz1 : w.heap.size < w1.heap.size := (by have := hb1.size; simp at this; omega)))
  go_ret
  exact ⟨rfl, (below_then (below_alloc (Below.refl _ _) _) (by simp) hb1)⟩
set_option maxHeartbeats 4000000 in
set_option maxRecDepth 100000 in
theorem polRight_b (w : World) (H : PolAt p A0 c0 A1 c1 A3 c3 w) (hm : mayB p.lev p.cats = true) (hv : validB p.mask = false) :
    Calls Tryd.prog 12 #[polArg p A0 c0 A1 c1 A3 c3] w fun e w' => e = .returned (.bool false) ∧ Below w.heap.size w w' := by
  have hB0 : (w.alloc (.cells #[.slice A0 p.lev.length c0, .slice A1 p.cats.length c1, .string p.mask, .slice A3 p.rules.length c3] 41)).cell? ⟨w.heap.size, 0, none⟩ = some (.slice A0 p.lev.length c0) := by simp [World.cell?_alloc_at]
  have hB1 : (w.alloc (.cells #[.slice A0 p.lev.length c0, .slice A1 p.cats.length c1, .string p.mask, .slice A3 p.rules.length c3] 41)).cell? ⟨w.heap.size, 1, none⟩ = some (.slice A1 p.cats.length c1) := by simp [World.cell?_alloc_at]
  have HB0 := Aside0.mk hB0
  have HB1 := Aside0.mk hB1
  obtain ⟨f0, f1, f2, f3⟩ := fitPol_parts H.fit
  have hP : ∀ W, Below w.heap.size w W → PolAt p A0 c0 A1 c1 A3 c3 W := fun W hb => H.below p A0 c0 A1 c1 A3 c3 hb
  have cM : Aside0 (∀ W, Below w.heap.size w W → _) := ⟨fun W hb => lattice_May.calls A0 c0 p.lev A1 c1 p.cats _ W (hP W hb).h0 H.l0 (hP W hb).h1 H.l1 (may_f _ _ f0 f1)⟩
  have cV : Aside0 (∀ W, Below w.heap.size w W → _) := ⟨fun W hb => valid_any p.mask (by omega) W (hP W hb).hT⟩
  have cR : Aside0 (∀ W, Below w.heap.size w W → W.cell? ⟨w.heap.size, 0, none⟩ = some (.slice A0 p.lev.length c0) → W.cell? ⟨w.heap.size, 1, none⟩ = some (.slice A1 p.cats.length c1) →
      Calls Tryd.prog 25 #[.slice A3 p.rules.length c3, .func (.func 21) #[] #[.pointer (some ⟨w.heap.size, 0, none⟩)]] W fun e w' => e = .returned (.bool (!(p.rules.all (ruleB p.lev p.cats)))) ∧ Below W.heap.size W w') := ⟨fun W hb q0 q1 => by
    have h := ContainsFunc_Rule 21 #[.pointer (some ⟨w.heap.size, 0, none⟩)] (enters_of Tryd.func21 (by kernel_rfl) rfl) A3 c3 p.rules _ W (hP W hb).h3 (polRight1 p A0 c0 A1 c1 A3 c3 W (hP W hb) w.heap.size q0 q1)
    rw [any_range (fun x => !ruleB p.lev p.cats x) p.rules (fun j => p.rules.getD j z50) (fun j hj => getD_lt _ _ hj)] at h
    rw [List.not_all_eq_any_not]
    exact h⟩
  have hbig0 : p.rules.length ≤ 9223372036854775807 := H.h3.2.1
  have hu38 := Tryd.underlying38
  have hu41 := Tryd.underlying41
  have hu80 := Tryd.underlying80
  rw [hm] at cM
  clear hm
  rw [hv] at cV
  clear hv
  clear H hP hB0 hB1 f0 f1 f2 f3
  unfold polArg
  generalize p.lev.length = n0 at *
  generalize p.cats.length = n1 at *
  generalize p.rules.length = n3 at *
  generalize p.mask = mask at *
  go_enter Tryd.func12, Tryd.ntmps12
  go_wp2_with (first | (go_at_call 23; refine (cM.out _ ?hb).mono ?_; (case hb => exact (below_alloc (Below.refl _ _) _)); rintro e w1 ⟨rfl, hb1⟩; obtain ⟨hc1, hf1⟩ := bcell hb1; have hz1 : w.heap.size < w1.heap.size := (by have := hb1.size; simp at this; omega)) | (go_at_call 24; refine (cV.out _ ?hb).mono ?_; (case hb => exact (below_then (below_alloc (Below.refl _ _) _) (by simp) hb1)); rintro e w2 ⟨rfl, hb2⟩; obtain ⟨hc2, hf2⟩ := bcell hb2; have hz2 : w.heap.size < w2.heap.size := (by have := hb2.size; omega)))
  go_ret
  exact ⟨rfl, (below_then (below_then (below_alloc (Below.refl _ _) _) (by simp) hb1) (below_then (below_alloc (Below.refl _ _) _) (by simp) hb1).size hb2)⟩
set_option maxHeartbeats 4000000 in
set_option maxRecDepth 100000 in
theorem polRight_c (w : World) (H : PolAt p A0 c0 A1 c1 A3 c3 w) (hm : mayB p.lev p.cats = true) (hv : validB p.mask = true) (hs : decide ((200 : Int) < (p.mask.size : Int)) = true) :
    Calls Tryd.prog 12 #[polArg p A0 c0 A1 c1 A3 c3] w fun e w' => e = .returned (.bool false) ∧ Below w.heap.size w w' := by
  have hB0 : (w.alloc (.cells #[.slice A0 p.lev.length c0, .slice A1 p.cats.length c1, .string p.mask, .slice A3 p.rules.length c3] 41)).cell? ⟨w.heap.size, 0, none⟩ = some (.slice A0 p.lev.length c0) := by simp [World.cell?_alloc_at]
  have hB1 : (w.alloc (.cells #[.slice A0 p.lev.length c0, .slice A1 p.cats.length c1, .string p.mask, .slice A3 p.rules.length c3] 41)).cell? ⟨w.heap.size, 1, none⟩ = some (.slice A1 p.cats.length c1) := by simp [World.cell?_alloc_at]
  have HB0 := Aside0.mk hB0
  have HB1 := Aside0.mk hB1
  obtain ⟨f0, f1, f2, f3⟩ := fitPol_parts H.fit
  have hP : ∀ W, Below w.heap.size w W → PolAt p A0 c0 A1 c1 A3 c3 W := fun W hb => H.below p A0 c0 A1 c1 A3 c3 hb
  have cM : Aside0 (∀ W, Below w.heap.size w W → _) := ⟨fun W hb => lattice_May.calls A0 c0 p.lev A1 c1 p.cats _ W (hP W hb).h0 H.l0 (hP W hb).h1 H.l1 (may_f _ _ f0 f1)⟩
  have cV : Aside0 (∀ W, Below w.heap.size w W → _) := ⟨fun W hb => valid_any p.mask (by omega) W (hP W hb).hT⟩
  have cR : Aside0 (∀ W, Below w.heap.size w W → W.cell? ⟨w.heap.size, 0, none⟩ = some (.slice A0 p.lev.length c0) → W.cell? ⟨w.heap.size, 1, none⟩ = some (.slice A1 p.cats.length c1) →
      Calls Tryd.prog 25 #[.slice A3 p.rules.length c3, .func (.func 21) #[] #[.pointer (some ⟨w.heap.size, 0, none⟩)]] W fun e w' => e = .returned (.bool (!(p.rules.all (ruleB p.lev p.cats)))) ∧ Below W.heap.size W w') := ⟨fun W hb q0 q1 => by
    have h := ContainsFunc_Rule 21 #[.pointer (some ⟨w.heap.size, 0, none⟩)] (enters_of Tryd.func21 (by kernel_rfl) rfl) A3 c3 p.rules _ W (hP W hb).h3 (polRight1 p A0 c0 A1 c1 A3 c3 W (hP W hb) w.heap.size q0 q1)
    rw [any_range (fun x => !ruleB p.lev p.cats x) p.rules (fun j => p.rules.getD j z50) (fun j hj => getD_lt _ _ hj)] at h
    rw [List.not_all_eq_any_not]
    exact h⟩
  have hbig0 : p.rules.length ≤ 9223372036854775807 := H.h3.2.1
  have hu38 := Tryd.underlying38
  have hu41 := Tryd.underlying41
  have hu80 := Tryd.underlying80
  rw [hm] at cM
  clear hm
  rw [hv] at cV
  clear hv
  clear H hP hB0 hB1 f0 f1 f2 f3
  unfold polArg
  generalize p.lev.length = n0 at *
  generalize p.cats.length = n1 at *
  generalize p.rules.length = n3 at *
  generalize p.mask = mask at *
  go_enter Tryd.func12, Tryd.ntmps12
  go_wp2_with (first | (go_at_call 23; refine (cM.out _ ?hb).mono ?_; (case hb => exact (below_alloc (Below.refl _ _) _)); rintro e w1 ⟨rfl, hb1⟩; obtain ⟨hc1, hf1⟩ := bcell hb1; have hz1 : w.heap.size < w1.heap.size := (by have := hb1.size; simp at this; omega)) | (go_at_call 24; refine (cV.out _ ?hb).mono ?_; (case hb => exact (below_then (below_alloc (Below.refl _ _) _) (by simp) hb1)); rintro e w2 ⟨rfl, hb2⟩; obtain ⟨hc2, hf2⟩ := bcell hb2; have hz2 : w.heap.size < w2.heap.size := (by have := hb2.size; omega)))
  go_ret
  exact ⟨rfl, (below_then (below_then (below_alloc (Below.refl _ _) _) (by simp) hb1) (below_then (below_alloc (Below.refl _ _) _) (by simp) hb1).size hb2)⟩
set_option maxHeartbeats 4000000 in
set_option maxRecDepth 100000 in
theorem polRight_d (w : World) (H : PolAt p A0 c0 A1 c1 A3 c3 w) (hm : mayB p.lev p.cats = true) (hv : validB p.mask = true) (hs : decide ((200 : Int) < (p.mask.size : Int)) = false) (hn : decide ((100 : Int) < (p.rules.length : Int)) = true) :
    Calls Tryd.prog 12 #[polArg p A0 c0 A1 c1 A3 c3] w fun e w' => e = .returned (.bool false) ∧ Below w.heap.size w w' := by
  have hB0 : (w.alloc (.cells #[.slice A0 p.lev.length c0, .slice A1 p.cats.length c1, .string p.mask, .slice A3 p.rules.length c3] 41)).cell? ⟨w.heap.size, 0, none⟩ = some (.slice A0 p.lev.length c0) := by simp [World.cell?_alloc_at]
  have hB1 : (w.alloc (.cells #[.slice A0 p.lev.length c0, .slice A1 p.cats.length c1, .string p.mask, .slice A3 p.rules.length c3] 41)).cell? ⟨w.heap.size, 1, none⟩ = some (.slice A1 p.cats.length c1) := by simp [World.cell?_alloc_at]
  have HB0 := Aside0.mk hB0
  have HB1 := Aside0.mk hB1
  obtain ⟨f0, f1, f2, f3⟩ := fitPol_parts H.fit
  have hP : ∀ W, Below w.heap.size w W → PolAt p A0 c0 A1 c1 A3 c3 W := fun W hb => H.below p A0 c0 A1 c1 A3 c3 hb
  have cM : Aside0 (∀ W, Below w.heap.size w W → _) := ⟨fun W hb => lattice_May.calls A0 c0 p.lev A1 c1 p.cats _ W (hP W hb).h0 H.l0 (hP W hb).h1 H.l1 (may_f _ _ f0 f1)⟩
  have cV : Aside0 (∀ W, Below w.heap.size w W → _) := ⟨fun W hb => valid_any p.mask (by omega) W (hP W hb).hT⟩
  have cR : Aside0 (∀ W, Below w.heap.size w W → W.cell? ⟨w.heap.size, 0, none⟩ = some (.slice A0 p.lev.length c0) → W.cell? ⟨w.heap.size, 1, none⟩ = some (.slice A1 p.cats.length c1) →
      Calls Tryd.prog 25 #[.slice A3 p.rules.length c3, .func (.func 21) #[] #[.pointer (some ⟨w.heap.size, 0, none⟩)]] W fun e w' => e = .returned (.bool (!(p.rules.all (ruleB p.lev p.cats)))) ∧ Below W.heap.size W w') := ⟨fun W hb q0 q1 => by
    have h := ContainsFunc_Rule 21 #[.pointer (some ⟨w.heap.size, 0, none⟩)] (enters_of Tryd.func21 (by kernel_rfl) rfl) A3 c3 p.rules _ W (hP W hb).h3 (polRight1 p A0 c0 A1 c1 A3 c3 W (hP W hb) w.heap.size q0 q1)
    rw [any_range (fun x => !ruleB p.lev p.cats x) p.rules (fun j => p.rules.getD j z50) (fun j hj => getD_lt _ _ hj)] at h
    rw [List.not_all_eq_any_not]
    exact h⟩
  have hbig0 : p.rules.length ≤ 9223372036854775807 := H.h3.2.1
  have hu38 := Tryd.underlying38
  have hu41 := Tryd.underlying41
  have hu80 := Tryd.underlying80
  rw [hm] at cM
  clear hm
  rw [hv] at cV
  clear hv
  clear H hP hB0 hB1 f0 f1 f2 f3
  unfold polArg
  generalize p.lev.length = n0 at *
  generalize p.cats.length = n1 at *
  generalize p.rules.length = n3 at *
  generalize p.mask = mask at *
  go_enter Tryd.func12, Tryd.ntmps12
  go_wp2_with (first | (go_at_call 23; refine (cM.out _ ?hb).mono ?_; (case hb => exact (below_alloc (Below.refl _ _) _)); rintro e w1 ⟨rfl, hb1⟩; obtain ⟨hc1, hf1⟩ := bcell hb1; have hz1 : w.heap.size < w1.heap.size := (by have := hb1.size; simp at this; omega)) | (go_at_call 24; refine (cV.out _ ?hb).mono ?_; (case hb => exact (below_then (below_alloc (Below.refl _ _) _) (by simp) hb1)); rintro e w2 ⟨rfl, hb2⟩; obtain ⟨hc2, hf2⟩ := bcell hb2; have hz2 : w.heap.size < w2.heap.size := (by have := hb2.size; omega)))
  go_ret
  exact ⟨rfl, (below_then (below_then (below_alloc (Below.refl _ _) _) (by simp) hb1) (below_then (below_alloc (Below.refl _ _) _) (by simp) hb1).size hb2)⟩
set_option maxHeartbeats 4000000 in
set_option maxRecDepth 100000 in
theorem polRight_e (w : World) (H : PolAt p A0 c0 A1 c1 A3 c3 w) (hm : mayB p.lev p.cats = true) (hv : validB p.mask = true) (hs : decide ((200 : Int) < (p.mask.size : Int)) = false) (hn : decide ((100 : Int) < (p.rules.length : Int)) = false) (hr : p.rules.all (ruleB p.lev p.cats) = false) :
    Calls Tryd.prog 12 #[polArg p A0 c0 A1 c1 A3 c3] w fun e w' => e = .returned (.bool false) ∧ Below w.heap.size w w' := by
  have hB0 : (w.alloc (.cells #[.slice A0 p.lev.length c0, .slice A1 p.cats.length c1, .string p.mask, .slice A3 p.rules.length c3] 41)).cell? ⟨w.heap.size, 0, none⟩ = some (.slice A0 p.lev.length c0) := by simp [World.cell?_alloc_at]
  have hB1 : (w.alloc (.cells #[.slice A0 p.lev.length c0, .slice A1 p.cats.length c1, .string p.mask, .slice A3 p.rules.length c3] 41)).cell? ⟨w.heap.size, 1, none⟩ = some (.slice A1 p.cats.length c1) := by simp [World.cell?_alloc_at]
  have HB0 := Aside0.mk hB0
  have HB1 := Aside0.mk hB1
  obtain ⟨f0, f1, f2, f3⟩ := fitPol_parts H.fit
  have hP : ∀ W, Below w.heap.size w W → PolAt p A0 c0 A1 c1 A3 c3 W := fun W hb => H.below p A0 c0 A1 c1 A3 c3 hb
  have cM : Aside0 (∀ W, Below w.heap.size w W → _) := ⟨fun W hb => lattice_May.calls A0 c0 p.lev A1 c1 p.cats _ W (hP W hb).h0 H.l0 (hP W hb).h1 H.l1 (may_f _ _ f0 f1)⟩
  have cV : Aside0 (∀ W, Below w.heap.size w W → _) := ⟨fun W hb => valid_any p.mask (by omega) W (hP W hb).hT⟩
  have cR : Aside0 (∀ W, Below w.heap.size w W → W.cell? ⟨w.heap.size, 0, none⟩ = some (.slice A0 p.lev.length c0) → W.cell? ⟨w.heap.size, 1, none⟩ = some (.slice A1 p.cats.length c1) →
      Calls Tryd.prog 25 #[.slice A3 p.rules.length c3, .func (.func 21) #[] #[.pointer (some ⟨w.heap.size, 0, none⟩)]] W fun e w' => e = .returned (.bool (!(p.rules.all (ruleB p.lev p.cats)))) ∧ Below W.heap.size W w') := ⟨fun W hb q0 q1 => by
    have h := ContainsFunc_Rule 21 #[.pointer (some ⟨w.heap.size, 0, none⟩)] (enters_of Tryd.func21 (by kernel_rfl) rfl) A3 c3 p.rules _ W (hP W hb).h3 (polRight1 p A0 c0 A1 c1 A3 c3 W (hP W hb) w.heap.size q0 q1)
    rw [any_range (fun x => !ruleB p.lev p.cats x) p.rules (fun j => p.rules.getD j z50) (fun j hj => getD_lt _ _ hj)] at h
    rw [List.not_all_eq_any_not]
    exact h⟩
  have hbig0 : p.rules.length ≤ 9223372036854775807 := H.h3.2.1
  have hu38 := Tryd.underlying38
  have hu41 := Tryd.underlying41
  have hu80 := Tryd.underlying80
  rw [hm] at cM
  clear hm
  rw [hv] at cV
  clear hv
  rw [hr] at cR
  clear hr
  clear H hP hB0 hB1 f0 f1 f2 f3
  unfold polArg
  generalize p.lev.length = n0 at *
  generalize p.cats.length = n1 at *
  generalize p.rules.length = n3 at *
  generalize p.mask = mask at *
  go_enter Tryd.func12, Tryd.ntmps12
  go_wp2_with (first | (go_at_call 23; refine (cM.out _ ?hb).mono ?_; (case hb => exact (below_alloc (Below.refl _ _) _)); rintro e w1 ⟨rfl, hb1⟩; obtain ⟨hc1, hf1⟩ := bcell hb1; have hz1 : w.heap.size < w1.heap.size := (by have := hb1.size; simp at this; omega)) | (go_at_call 24; refine (cV.out _ ?hb).mono ?_; (case hb => exact (below_then (below_alloc (Below.refl _ _) _) (by simp) hb1)); rintro e w2 ⟨rfl, hb2⟩; obtain ⟨hc2, hf2⟩ := bcell hb2; have hz2 : w.heap.size < w2.heap.size := (by have := hb2.size; omega)) | (go_at_call 25; refine (cR.out _ ?hb ?h0 ?h1).mono ?_; (case hb => exact (below_then (below_then (below_alloc (Below.refl _ _) _) (by simp) hb1) (below_then (below_alloc (Below.refl _ _) _) (by simp) hb1).size hb2)); (case h0 => exact (hc2 _ _ (by omega)).trans ((hc1 _ _ (by simp)).trans HB0.out)); (case h1 => exact (hc2 _ _ (by omega)).trans ((hc1 _ _ (by simp)).trans HB1.out)); rintro e w3 ⟨rfl, hb3⟩; obtain ⟨hc3, hf3⟩ := bcell hb3; have hz3 : w.heap.size < w3.heap.size := (by have := hb3.size; omega)))
  go_ret
  exact ⟨rfl, (below_then (below_then (below_then (below_alloc (Below.refl _ _) _) (by simp) hb1) (below_then (below_alloc (Below.refl _ _) _) (by simp) hb1).size hb2) (below_then (below_then (below_alloc (Below.refl _ _) _) (by simp) hb1) (below_then (below_alloc (Below.refl _ _) _) (by simp) hb1).size hb2).size hb3)⟩
set_option maxHeartbeats 4000000 in
set_option maxRecDepth 100000 in
theorem polRight_f (w : World) (H : PolAt p A0 c0 A1 c1 A3 c3 w) (hm : mayB p.lev p.cats = true) (hv : validB p.mask = true) (hs : decide ((200 : Int) < (p.mask.size : Int)) = false) (hn : decide ((100 : Int) < (p.rules.length : Int)) = false) (hr : p.rules.all (ruleB p.lev p.cats) = true) :
    Calls Tryd.prog 12 #[polArg p A0 c0 A1 c1 A3 c3] w fun e w' => e = .returned (.bool ((makeL (patsL p.rules).1).2.2.2 == 0)) ∧ Below w.heap.size w w' := by
  have hB0 : (w.alloc (.cells #[.slice A0 p.lev.length c0, .slice A1 p.cats.length c1, .string p.mask, .slice A3 p.rules.length c3] 41)).cell? ⟨w.heap.size, 0, none⟩ = some (.slice A0 p.lev.length c0) := by simp [World.cell?_alloc_at]
  have hB1 : (w.alloc (.cells #[.slice A0 p.lev.length c0, .slice A1 p.cats.length c1, .string p.mask, .slice A3 p.rules.length c3] 41)).cell? ⟨w.heap.size, 1, none⟩ = some (.slice A1 p.cats.length c1) := by simp [World.cell?_alloc_at]
  have HB0 := Aside0.mk hB0
  have HB1 := Aside0.mk hB1
  obtain ⟨f0, f1, f2, f3⟩ := fitPol_parts H.fit
  have hP : ∀ W, Below w.heap.size w W → PolAt p A0 c0 A1 c1 A3 c3 W := fun W hb => H.below p A0 c0 A1 c1 A3 c3 hb
  have cM : Aside0 (∀ W, Below w.heap.size w W → _) := ⟨fun W hb => lattice_May.calls A0 c0 p.lev A1 c1 p.cats _ W (hP W hb).h0 H.l0 (hP W hb).h1 H.l1 (may_f _ _ f0 f1)⟩
  have cV : Aside0 (∀ W, Below w.heap.size w W → _) := ⟨fun W hb => valid_any p.mask (by omega) W (hP W hb).hT⟩
  have cR : Aside0 (∀ W, Below w.heap.size w W → W.cell? ⟨w.heap.size, 0, none⟩ = some (.slice A0 p.lev.length c0) → W.cell? ⟨w.heap.size, 1, none⟩ = some (.slice A1 p.cats.length c1) →
      Calls Tryd.prog 25 #[.slice A3 p.rules.length c3, .func (.func 21) #[] #[.pointer (some ⟨w.heap.size, 0, none⟩)]] W fun e w' => e = .returned (.bool (!(p.rules.all (ruleB p.lev p.cats)))) ∧ Below W.heap.size W w') := ⟨fun W hb q0 q1 => by
    have h := ContainsFunc_Rule 21 #[.pointer (some ⟨w.heap.size, 0, none⟩)] (enters_of Tryd.func21 (by kernel_rfl) rfl) A3 c3 p.rules _ W (hP W hb).h3 (polRight1 p A0 c0 A1 c1 A3 c3 W (hP W hb) w.heap.size q0 q1)
    rw [any_range (fun x => !ruleB p.lev p.cats x) p.rules (fun j => p.rules.getD j z50) (fun j hj => getD_lt _ _ hj)] at h
    rw [List.not_all_eq_any_not]
    exact h⟩
  have hbig0 : p.rules.length ≤ 9223372036854775807 := H.h3.2.1
  have hu38 := Tryd.underlying38
  have hu41 := Tryd.underlying41
  have hu80 := Tryd.underlying80
  rw [hm] at cM
  clear hm
  rw [hv] at cV
  clear hv
  rw [hr] at cR
  clear hr
  have hlen : (patsL p.rules).1.length ≤ 5864062014804 := by have := (patsFrom_len p.rules 0).1; have := of_decide_eq_false hn; unfold patsL; omega
  have cP : Aside0 (∀ W, Below w.heap.size w W → _) := ⟨fun W hb => patterns_calls p A0 c0 A1 c1 A3 c3 W (hP W hb) (by have := of_decide_eq_false hn; omega)⟩
  have cK : Aside0 (∀ W, Below w.heap.size w W → ∀ (A : Option Addr) (c : Nat), Kd.C (Kd.slice 71 k71) W A (patsL p.rules).1.length (patsL p.rules).1 → (patsL p.rules).1.length ≤ c → _) := ⟨fun W hb A c h1 h2 => makes_calls W (hP W hb).hT _ hlen (pats_fit f3 0) A c h1 h2⟩
  have hbigp : (patsL p.rules).1.length ≤ 9223372036854775807 := by omega
  unfold polArg at cP
  generalize patsL p.rules = PL at *
  generalize makeL PL.1 = ML at *
  obtain ⟨m1, m2, m3, m4⟩ := ML
  cases hq : m4 == 0 <;> (
    replace hq : (m4 == 0) = _ := hq
    clear hlen
    clear H hP hB0 hB1 f0 f1 f2 f3
    unfold polArg
    generalize p.lev.length = n0 at *
    generalize p.cats.length = n1 at *
    generalize p.rules.length = n3 at *
    generalize p.mask = mask at *
    go_enter Tryd.func12, Tryd.ntmps12
    go_wp2_with (first | (go_at_call 23; refine (cM.out _ ?hb).mono ?_; (case hb => exact (below_alloc (Below.refl _ _) _)); rintro e w1 ⟨rfl, hb1⟩; obtain ⟨hc1, hf1⟩ := bcell hb1; have hz1 : w.heap.size < w1.heap.size := (by have := hb1.size; simp at this; omega)) | (go_at_call 24; refine (cV.out _ ?hb).mono ?_; (case hb => exact (below_then (below_alloc (Below.refl _ _) _) (by simp) hb1)); rintro e w2 ⟨rfl, hb2⟩; obtain ⟨hc2, hf2⟩ := bcell hb2; have hz2 : w.heap.size < w2.heap.size := (by have := hb2.size; omega)) | (go_at_call 25; refine (cR.out _ ?hb ?h0 ?h1).mono ?_; (case hb => exact (below_then (below_then (below_alloc (Below.refl _ _) _) (by simp) hb1) (below_then (below_alloc (Below.refl _ _) _) (by simp) hb1).size hb2)); (case h0 => exact (hc2 _ _ (by omega)).trans ((hc1 _ _ (by simp)).trans HB0.out)); (case h1 => exact (hc2 _ _ (by omega)).trans ((hc1 _ _ (by simp)).trans HB1.out)); rintro e w3 ⟨rfl, hb3⟩; obtain ⟨hc3, hf3⟩ := bcell hb3; have hz3 : w.heap.size < w3.heap.size := (by have := hb3.size; omega)) | (go_at_call 26; refine (cP.out _ ?hb).mono ?_; (case hb => exact (below_then (below_then (below_then (below_alloc (Below.refl _ _) _) (by simp) hb1) (below_then (below_alloc (Below.refl _ _) _) (by simp) hb1).size hb2) (below_then (below_then (below_alloc (Below.refl _ _) _) (by simp) hb1) (below_then (below_alloc (Below.refl _ _) _) (by simp) hb1).size hb2).size hb3)); rintro e w4 ⟨v0, v1, rfl, hN, hR, hb4⟩; obtain ⟨A4, c4, rfl, hl4, hC4⟩ := Kd.N_reads hN; obtain ⟨A5, c5, rfl, hl5, hC5⟩ := Kd.R_reads hR; have H4 := Aside0.mk hC4; have BL4 := Aside0.mk (below_then (below_then (below_then (below_then (below_alloc (Below.refl _ _) _) (by simp) hb1) (below_then (below_alloc (Below.refl _ _) _) (by simp) hb1).size hb2) (below_then (below_then (below_alloc (Below.refl _ _) _) (by simp) hb1) (below_then (below_alloc (Below.refl _ _) _) (by simp) hb1).size hb2).size hb3) (below_then (below_then (below_then (below_alloc (Below.refl _ _) _) (by simp) hb1) (below_then (below_alloc (Below.refl _ _) _) (by simp) hb1).size hb2) (below_then (below_then (below_alloc (Below.refl _ _) _) (by simp) hb1) (below_then (below_alloc (Below.refl _ _) _) (by simp) hb1).size hb2).size hb3).size hb4); clear hN hR hC4 hC5 hl5) | (go_at_call 27; refine (cK.out _ ?hb A4 c4 ?hC ?hl).mono ?_; (case hb => exact BL4.out); (case hC => exact H4.out); (case hl => exact hl4); rintro e w5 ⟨v6, v7, rfl, hS, hR, hb5⟩; obtain ⟨A6, c6, rfl, hl6, hC6⟩ := Kd.S_reads hS; obtain ⟨A7, c7, rfl, hl7, hC7⟩ := Kd.R_reads hR; have BL5 := Aside0.mk (below_then BL4.out BL4.out.size hb5); clear hS hR hC6 hC7 hl6 hl7))
    go_ret
    exact ⟨by first | rfl | (rw [hq]; rfl) | (simp [hq]; done) | (simp; done), below_alloc BL5.out _⟩)
end
theorem polRight_any (p : PolV) (A0 : Option Addr) (c0 : Nat) (A1 : Option Addr) (c1 : Nat) (A3 : Option Addr) (c3 : Nat) (w : World) (H : PolAt p A0 c0 A1 c1 A3 c3 w) :
    Calls Tryd.prog 12 #[polArg p A0 c0 A1 c1 A3 c3] w fun e w' => e = .returned (.bool (polB p)) ∧ Below w.heap.size w w' := by
  unfold polB
  cases hm : mayB p.lev p.cats
  · exact polRight_a p A0 c0 A1 c1 A3 c3 w H hm
  · cases hv : validB p.mask
    · exact polRight_b p A0 c0 A1 c1 A3 c3 w H hm hv
    · by_cases hs : p.mask.size ≤ 200
      · rw [decide_eq_true hs]
        by_cases hn : p.rules.length ≤ 100
        · rw [decide_eq_true hn]
          cases hr : p.rules.all (ruleB p.lev p.cats)
          · exact polRight_e p A0 c0 A1 c1 A3 c3 w H hm hv (decide_eq_false (by omega)) (decide_eq_false (by omega)) hr
          · exact polRight_f p A0 c0 A1 c1 A3 c3 w H hm hv (decide_eq_false (by omega)) (decide_eq_false (by omega)) hr
        · rw [decide_eq_false hn]
          exact polRight_d p A0 c0 A1 c1 A3 c3 w H hm hv (decide_eq_false (by omega)) (decide_eq_true (by omega))
      · rw [decide_eq_false hs]
        exact polRight_c p A0 c0 A1 c1 A3 c3 w H hm hv (decide_eq_true (by omega))
end Go.Proofs.YtpbkdeelkpjccaaDoor.G

namespace Go.Proofs.YtpbkdeelkpjccaaDoor.G
open Go.RowKit Go.Proofs.YtpbkdeelkpjccaaDoorW.PrintWords
set_option linter.unusedVariables false
set_option linter.unusedSimpArgs false
theorem begins_len : ∀ (l : List (List S71)) (a : Int), (beginsFrom l a).length = l.length
  | [], _ => rfl
  | p :: l, a => by rw [beginsFrom, List.length_cons, begins_len l, List.length_cons]
theorem many_ge : ∀ (l : List (List S71)) (a : Int), a ≤ manyFrom l a
  | [], a => Int.le_refl _
  | p :: l, a => by rw [manyFrom]; have := many_ge l (a + ((p.length : Int) + 1)); omega
theorem begins_small : ∀ (l : List (List S71)) (a : Int), ∀ b ∈ beginsFrom l a, a ≤ b ∧ b ≤ manyFrom l a
  | [], _, b, h => by cases h
  | p :: l, a, b, h => by
    rw [beginsFrom] at h
    have hm := many_ge l (a + ((p.length : Int) + 1))
    rw [manyFrom]
    rcases List.mem_cons.1 h with rfl | h
    · omega
    · have := begins_small l _ b h; omega
def polPs (p : PolV) : List (List S71) := (patsL p.rules).1
def polBs (p : PolV) : List Int := beginsFrom (polPs p) 0
def polOf (p : PolV) : List Int := (patsL p.rules).2
def polPl (p : PolV) : List (Int × S71) := allParts (polPs p) (polBs p)
theorem polB_parts {p : PolV} (h : polB p = true) : mayB p.lev p.cats = true ∧ p.rules.length ≤ 100 ∧ (∀ x ∈ p.rules, ruleB p.lev p.cats x = true) ∧ (makeL (polPs p)).2.2.2 = 0 := by
  unfold polB at h
  simp only [Bool.and_eq_true, decide_eq_true_eq, List.all_eq_true, beq_iff_eq] at h
  exact ⟨h.1.1.1.1.1, h.1.1.2, h.1.2, h.2⟩
theorem pol_make {p : PolV} (h : polB p = true) : (polPs p).all pathB = true ∧ manyFrom (polPs p) 0 ≤ 512 ∧ makeL (polPs p) = (polPs p, polBs p, manyFrom (polPs p) 0, 0) := by
  have h4 := (polB_parts h).2.2.2
  unfold makeL at h4 ⊢
  split at h4
  · simp at h4
  · rename_i ha
    split at h4
    · simp at h4
    · rename_i hm
      refine ⟨by simpa using ha, by omega, ?_⟩
      rw [if_neg ha, if_neg hm]; rfl
theorem pats_few (p : PolV) : (polPs p).length ≤ p.rules.length := (patsFrom_len p.rules 0).1
theorem table_tab {p : PolV} (hb : polB p = true) {A0 : Option Addr} {c0 : Nat} {A1 : Option Addr} {c1 : Nat} {w : World} (h0 : Kd.C (Kd.slice 71 k71) w A0 (polPs p).length (polPs p)) (l0 : (polPs p).length ≤ c0) (h1 : Kd.C (Kd.int .i64) w A1 (polBs p).length (polBs p)) (l1 : (polBs p).length ≤ c1) :
    TabAt (polPs p) (polBs p) A0 c0 A1 c1 w :=
  ⟨h0, l0, h1, l1, (begins_len _ _).symm, fun b hbm => by have := begins_small (polPs p) 0 b hbm; have := (pol_make hb).2.1; omega,
    fun q hq => pathB_len (List.all_eq_true.1 (pol_make hb).1 q hq), by have := pats_few p; have := (polB_parts hb).2.1; omega⟩
set_option maxHeartbeats 4000000 in
set_option maxRecDepth 100000 in
theorem table_calls (p : PolV) (A0 : Option Addr) (c0 : Nat) (A1 : Option Addr) (c1 : Nat) (A3 : Option Addr) (c3 : Nat) (w : World) (H : PolAt p A0 c0 A1 c1 A3 c3 w) (hb : polB p = true) :
    Calls Tryd.prog 32 #[polArg p A0 c0 A1 c1 A3 c3] w fun e w' => ∃ (A4 : Option Addr) (c4 : Nat) (A5 : Option Addr) (c5 : Nat) (v6 : Value), e = .returned (.tuple #[.agg #[.slice A4 (polPs p).length c4, .slice A5 (polBs p).length c5, .int .i64 (manyFrom (polPs p) 0)], v6]) ∧ TabAt (polPs p) (polBs p) A4 c4 A5 c5 w' ∧ Kd.R (Kd.int .i64) 3 w' w.heap.size (fun _ => True) v6 (polOf p) ∧ Below w.heap.size w w' := by
  have hr := (polB_parts hb).2.1
  have hl := pats_few p
  have cP : Aside0 (∀ W, Below w.heap.size w W → _) := ⟨fun W h => patterns_calls p A0 c0 A1 c1 A3 c3 W (H.below p A0 c0 A1 c1 A3 c3 h) (by omega)⟩
  have cM : Aside0 (∀ W, Below w.heap.size w W → ∀ A c, Kd.C (Kd.slice 71 k71) W A (polPs p).length (polPs p) → (polPs p).length ≤ c → _) := ⟨fun W h A c hC hc => makes_calls W (H.hT.below h) (polPs p) (by omega) (pats_fit (fitPol_parts H.fit).2.2.2 0) A c hC hc⟩
  rw [(pol_make hb).2.2] at cM
  have HT := Aside0.mk (fun {A0 : Option Addr} {c0 : Nat} {A1 : Option Addr} {c1 : Nat} {w : World} => table_tab (p := p) hb (A0 := A0) (c0 := c0) (A1 := A1) (c1 := c1) (w := w))
  have hu41 := Tryd.underlying41
  have hu38 := Tryd.underlying38
  have hu80 := Tryd.underlying80
  unfold polArg at cP ⊢
  dsimp only at cM
  change Aside0 (∀ W, Below w.heap.size w W → Calls _ _ _ _ (fun e w' => ∃ v0_ v1_ : Value, e = .returned (.tuple #[v0_, v1_]) ∧ Kd.N (Kd.slice 71 k71) _ w' W.heap.size _ v0_ (polPs p) ∧ Kd.R (Kd.int .i64) 3 w' W.heap.size (fun k_ => W.heap.size ≤ k_) v1_ (polOf p) ∧ Below W.heap.size W w')) at cP
  clear H hr hl hb
  generalize manyFrom (polPs p) 0 = many at *
  generalize hps : polPs p = ps at *
  generalize hbs : polBs p = bs at *
  generalize hof : polOf p = of_ at *
  clear hps hbs hof
  generalize p.lev.length = n0 at *
  generalize p.cats.length = n1 at *
  generalize p.rules.length = n3 at *
  generalize p.mask = mask at *
  go_enter Tryd.func32, Tryd.ntmps32
  go_wp2_with fail
  have hb0 : Below w.heap.size w ((w.alloc (.cells #[.slice A0 n0 c0, .slice A1 n1 c1, .string mask, .slice A3 n3 c3] 41)).alloc (.cells #[.slice none 0 0, .slice none 0 0, .int .i64 0] 80)) := below_alloc (below_alloc (Below.refl _ _) _) _
  have hk0 : ((w.alloc (.cells #[.slice A0 n0 c0, .slice A1 n1 c1, .string mask, .slice A3 n3 c3] 41)).alloc (.cells #[.slice none 0 0, .slice none 0 0, .int .i64 0] 80)).heap[w.heap.size + 1]? = some (.cells #[.slice none 0 0, .slice none 0 0, .int .i64 0] 80 (0, 0)) := heap_alloc2_new _ _ _
  refine (cP.out _ hb0).mono ?_
  rintro e w1 ⟨v0, v1, rfl, hN, hR, hb1⟩
  obtain ⟨A4, c4, rfl, l4, g4⟩ := Kd.N_reads hN
  obtain ⟨A6, c6, rfl, l6, g6⟩ := Kd.R_reads hR
  have HB1 := Aside0.mk (below_then hb0 hb0.size hb1)
  have HK1 := Aside0.mk (blk_below5 hb1 hk0)
  have hcall := cM.out w1 HB1.out A4 c4 g4 l4
  have HR : Aside0 (Kd.R (Kd.int .i64) 3 w1 (w.heap.size + 2) (fun _ => True) (.slice A6 of_.length c6) of_) := ⟨by have h := Kd.R_mono hR (fun _ _ => trivial) (ok' := fun _ => True); simpa using h⟩
  have hz1 : w.heap.size + 1 < w1.heap.size := by have := hb1.size; simp at this; omega
  clear hN hR g4 g6 cP cM hb0 hk0 hb1
  go_wp2_with fail
  refine hcall.mono ?_
  clear hcall
  rintro e w2 ⟨v2, v3, rfl, hS, hR2, hb2⟩
  obtain ⟨A7, c7, rfl, l7, g7⟩ := Kd.S_reads hS
  obtain ⟨A8, c8, rfl, l8, g8⟩ := Kd.R_reads hR2
  have HB2 := Aside0.mk (below_then HB1.out HB1.out.size hb2)
  have HK2 := Aside0.mk (blk_below5 hb2 HK1.out)
  have HRw := Aside0.mk (Kd.R_below HR.out hb2)
  have HS := Aside0.mk (Kd.S_R hS)
  have HR2 := Aside0.mk hR2
  have hz2 : w.heap.size + 1 < w2.heap.size := by have := hb2.size; omega
  have k0 : w2.cell? ⟨w.heap.size + 1, 0, none⟩ = some (.slice none 0 0) := (blk_cell HK2.out 0).trans rfl
  have k1 : w2.cell? ⟨w.heap.size + 1, 1, none⟩ = some (.slice none 0 0) := (blk_cell HK2.out 1).trans rfl
  have k2 : w2.cell? ⟨w.heap.size + 1, 2, none⟩ = some (.int .i64 0) := (blk_cell HK2.out 2).trans rfl
  have kf : ∀ o, w2.frozen? ⟨w.heap.size + 1, o, none⟩ = false := fun o => blk_frozen HK2.out o
  have hne : w2.heap.size ≠ w.heap.size + 1 := by omega
  clear hS hR2 hb2 g7 g8
  have HZ1 := Aside0.mk hz1
  go_wp2
  have hkf := blk_set (blk_set (blk_set HK2.out 0 (.slice A7 ps.length c7)) 1 (.slice A8 bs.length c8)) 2 (.int .i64 many)
  have hmv : ∀ k, w.heap.size + 2 ≤ k → k < w2.heap.size → ((((w2.setCell ⟨w.heap.size + 1, 0, none⟩ (.slice A7 ps.length c7)).setCell ⟨w.heap.size + 1, 1, none⟩ (.slice A8 bs.length c8)).setCell ⟨w.heap.size + 1, 2, none⟩ (.int .i64 many)).alloc (.cells #[.slice A7 ps.length c7, .slice A8 bs.length c8, .int .i64 many] 80)).heap[k]? = w2.heap[k]? := fun k h1 h2 => by
    rw [Below.heap_alloc _ _ _ (by simp [World.setCell]; omega), Below.heap_setCell _ _ _ _ (by show k ≠ w.heap.size + 1; omega), Below.heap_setCell _ _ _ _ (by show k ≠ w.heap.size + 1; omega), Below.heap_setCell _ _ _ _ (by show k ≠ w.heap.size + 1; omega)]
  have hbF := below_alloc (below_set (below_set (below_set HB2.out (show w.heap.size ≤ w.heap.size + 1 by omega) (v := .slice A7 ps.length c7) (j := 0)) (show w.heap.size ≤ w.heap.size + 1 by omega) (v := .slice A8 bs.length c8) (j := 1)) (show w.heap.size ≤ w.heap.size + 1 by omega) (v := .int .i64 many) (j := 2)) (.cells #[.slice A7 ps.length c7, .slice A8 bs.length c8, .int .i64 many] 80)
  have hkF := blk_alloc hkf (.cells #[.slice A7 ps.length c7, .slice A8 bs.length c8, .int .i64 many] 80)
  generalize hwf : (((w2.setCell ⟨w.heap.size + 1, 0, none⟩ (.slice A7 ps.length c7)).setCell ⟨w.heap.size + 1, 1, none⟩ (.slice A8 bs.length c8)).setCell ⟨w.heap.size + 1, 2, none⟩ (.int .i64 many)).alloc (.cells #[.slice A7 ps.length c7, .slice A8 bs.length c8, .int .i64 many] 80) = wf at *
  have hz := HZ1.out
  have m7 := Kd.R_move (Kd.R_bound HS.out) (w1 := wf) (fun k hk => hmv k (by have := hk.2.1; omega) hk.2.2.1)
  have m8 := Kd.R_move (Kd.R_bound HR2.out) (w1 := wf) (fun k hk => hmv k (by have := hk.2.1; omega) hk.2.2.1)
  have m6 := Kd.R_move (Kd.R_bound HRw.out) (w1 := wf) (fun k hk => hmv k hk.2.1 hk.2.2.1)
  obtain ⟨A7', c7', e7, l7', g7⟩ := Kd.R_reads m7
  injection e7 with e71 e72 e73
  subst e71 e73
  obtain ⟨A8', c8', e8, l8', g8⟩ := Kd.R_reads m8
  injection e8 with e81 e82 e83
  subst e81 e83
  refine bodyPost_ret (results_ct rfl _ _ (w.heap.size + 1) 80 #[.slice A7 ps.length c7, .slice A8 bs.length c8, .int .i64 many] (0, 0) _ rfl hkF Tryd.underlying80 rfl (by kernel_rfl)) rfl ?_
  exact ⟨A7, c7, A8, c8, .slice A6 of_.length c6, rfl, HT.out g7 l7' g8 l8', Kd.R_mono (Kd.R_lower m6 (by omega)) (fun _ _ => trivial), hbF⟩
end Go.Proofs.YtpbkdeelkpjccaaDoor.G

namespace Go.Proofs.YtpbkdeelkpjccaaDoor.G
open Go.RowKit Go.Proofs.YtpbkdeelkpjccaaDoorW.PrintWords
set_option linter.unusedVariables false
set_option linter.unusedSimpArgs false
structure RowsAt (out : List (List Int)) (vs : List Value) (M base : Nat) (ok : Nat → Prop) (w : World) : Prop where
  len : vs.length = out.length
  row : w.heap[M]? = some (.cells vs.toArray 22 (0, 0))
  el : ∀ i, i < out.length → Kd.R (Kd.int .i64) 3 w base (fun k => ok k ∧ k ≠ M) (vs.getD i undef) (out.getD i [])
  ap : ∀ i j, i < out.length → j < out.length → i ≠ j → ∀ k, (vs.getD i undef).ownBlock = some k → (vs.getD j undef).ownBlock ≠ some k
section
variable {out : List (List Int)} {vs : List Value} {M base : Nat} {ok ok' : Nat → Prop} {w w' : World}
theorem RowsAt.below (h : RowsAt out vs M base ok w) (hb : Below w.heap.size w w') : RowsAt out vs M base ok w' :=
  ⟨h.len, blk_below5 hb h.row, fun i hi => Kd.R_below (h.el i hi) hb, h.ap⟩
theorem RowsAt.mono (h : RowsAt out vs M base ok w) (hk : ∀ k, k < w.heap.size → ok k → ok' k) : RowsAt out vs M base ok' w :=
  ⟨h.len, h.row, fun i hi => Kd.R_mono (Kd.R_bound (h.el i hi)) (fun k hk' => ⟨hk k hk'.2.2.1 hk'.1.1, hk'.1.2⟩), h.ap⟩
theorem RowsAt.made (n : Nat) (hM : w.heap[M]? = some (.cells (Array.replicate n (.slice none 0 0)) 22 (0, 0))) : RowsAt (List.replicate n []) (List.replicate n (.slice none 0 0)) M base ok w := by
  refine ⟨by simp, by rw [hM]; simp, fun i hi => ?_, fun i j hi hj hne k hk => ?_⟩
  · have hi' : i < n := by simpa using hi
    rw [getD_lt _ _ (by simpa using hi'), getD_lt _ _ (by simpa using hi'), List.getElem_replicate, List.getElem_replicate]
    exact Kd.R_nil _ _ _ _ _
  · have hi' : i < n := by simpa using hi
    rw [getD_lt _ _ (by simpa using hi'), List.getElem_replicate] at hk
    simp [Value.ownBlock] at hk
theorem RowsAt.push (h : RowsAt out vs M base ok w) {i : Nat} (hi : i < out.length) {x : Int} {v1 : Value} {w1 : World} (hR : Kd.R (Kd.int .i64) 3 w1 base (fun k => ok k ∧ k ≠ M) v1 (out.getD i [] ++ [x])) (hg : w.grownBy w1 (vs.getD i undef).ownBlock)
    (hat : v1.ownBlock = (vs.getD i undef).ownBlock ∨ ∃ b, v1.ownBlock = some b ∧ w.heap.size ≤ b) : RowsAt (out.set i (out.getD i [] ++ [x])) (vs.set i v1) M base ok (w1.setCell ⟨M, i, none⟩ v1) := by
  have hrow1 : w1.heap[M]? = some (.cells vs.toArray 22 (0, 0)) := blk_grown h.row hg (fun e => ((h.el i hi).1 M e.symm).2 rfl)
  have hlv : i < vs.length := by rw [h.len]; exact hi
  refine ⟨by simp [h.len], by rw [blk_set hrow1]; simp, fun j hj => ?_, fun a b ha hb hne k hk => ?_⟩
  · have hj' : j < out.length := by simpa using hj
    by_cases e : j = i
    · subst e
      rw [getD_lt _ _ (by simpa [h.len] using hj'), getD_lt _ _ (by simpa using hj'), List.getElem_set_self, List.getElem_set_self]
      exact Kd.R_far hR (fun k hk => hk.2) _
    · rw [getD_lt _ _ (by simpa [h.len] using hj'), getD_lt _ _ (by simpa using hj'), List.getElem_set_ne (by omega), List.getElem_set_ne (by omega)]
      have hel := h.el j hj'
      rw [getD_lt _ _ (by rw [h.len]; exact hj'), getD_lt _ _ hj'] at hel
      have hap := h.ap j i hj' hi e
      rw [getD_lt _ _ (by rw [h.len]; exact hj')] at hap
      have ht := Kd.R_grown (Kd.R_tight2 rfl hel) hg (fun k hk e2 => hap k hk.1.symm e2.symm)
      exact Kd.R_far (p := ⟨M, i, none⟩) (Kd.R_mono ht (fun k hk => hk.2)) (fun k hk => hk.2) _
  · have ha' : a < out.length := by simpa using ha
    have hb' : b < out.length := by simpa using hb
    have own : ∀ j, j < out.length → (vs.set i v1).getD j undef = if j = i then v1 else vs.getD j undef := fun j hj => by
      rw [getD_lt _ _ (by simpa [h.len] using hj), getD_lt vs _ (by rw [h.len]; exact hj), List.getElem_set]
      split
      · rename_i e; rw [if_pos e.symm]
      · rename_i e; rw [if_neg (fun e2 => e e2.symm)]
    rw [own a ha'] at hk
    rw [own b hb']
    by_cases ea : a = i
    · rw [if_pos ea] at hk
      rw [if_neg (by omega)]
      rcases hat with h2 | ⟨b2, h2, h3⟩
      · rw [h2] at hk
        subst ea
        exact h.ap a b ha' hb' hne k hk
      · rw [h2] at hk
        injection hk with hk
        intro e2
        have := Kd.R_lt (h.el b hb') k e2
        omega
    · rw [if_neg ea] at hk
      by_cases eb : b = i
      · rw [if_pos eb]
        rcases hat with h2 | ⟨b2, h2, h3⟩
        · rw [h2]; subst eb; exact h.ap a b ha' hb' hne k hk
        · rw [h2]
          intro e2
          injection e2 with e2
          have := Kd.R_lt (h.el a ha') k hk
          omega
      · rw [if_neg eb]
        exact h.ap a b ha' hb' hne k hk
theorem RowsAt.reads (h : RowsAt out vs M base ok w) {i : Nat} (hi : i < out.length) : ∃ A c, vs.getD i undef = .slice A (out.getD i []).length c ∧ w.cell? ⟨M, i, none⟩ = some (.slice A (out.getD i []).length c) := by
  obtain ⟨A, c, e, _, _⟩ := Kd.R_reads (h.el i hi)
  have hlv : i < vs.length := by rw [h.len]; exact hi
  refine ⟨A, c, e, (blk_cell h.row i).trans ?_⟩
  rw [← e, getD_lt _ _ hlv]
  simp [hlv]
end
structure InAt (out : List (List Int)) (vs : List Value) (M : Nat) (w5 : World) (va : Value) (acc : List Int) (w : World) : Prop where
  rows : RowsAt out vs M w5.heap.size (fun k => some k ≠ va.ownBlock) w
  hv : Kd.R (Kd.int .i64) 3 w w5.heap.size (fun k => k ≠ M) va acc
  gw : w5.grownBy w (some M)
section
variable {out : List (List Int)} {vs : List Value} {M : Nat} {w5 w w' : World} {va : Value} {acc : List Int}
theorem InAt.below (h : InAt out vs M w5 va acc w) (hb : Below w.heap.size w w') : InAt out vs M w5 va acc w' := ⟨h.rows.below hb, Kd.R_below h.hv hb, World.grownBy.trans h.gw (grown_of_below hb _)⟩
theorem InAt.push (h : InAt out vs M w5 va acc w) {i : Nat} (hi : i < out.length) {x : Int} {v1 : Value} {w1 : World} (hR : Kd.R (Kd.int .i64) 3 w1 w5.heap.size (fun k => some k ≠ va.ownBlock ∧ k ≠ M) v1 (out.getD i [] ++ [x])) (hg : w.grownBy w1 (vs.getD i undef).ownBlock)
    (hat : v1.ownBlock = (vs.getD i undef).ownBlock ∨ ∃ b, v1.ownBlock = some b ∧ w.heap.size ≤ b) : w1.frozen? ⟨M, i, none⟩ = false ∧ InAt (out.set i (out.getD i [] ++ [x])) (vs.set i v1) M w5 va acc (w1.setCell ⟨M, i, none⟩ v1) := by
  have hrb := h.rows.el i hi
  refine ⟨blk_frozen (blk_grown h.rows.row hg (fun e => (hrb.1 M e.symm).2 rfl)) _, h.rows.push hi hR hg hat, ?_, ?_⟩
  · have ht := Kd.R_grown (Kd.R_tight2 rfl h.hv) hg (fun k hk e2 => (hrb.1 k e2.symm).1 hk.1)
    exact Kd.R_far (Kd.R_mono ht (fun k hk => hk.2)) (fun k hk => hk) _
  · exact World.grownBy.trans (grown_then h.gw hg (fun j hj => Kd.R_base hrb j hj)) (grown_cell _ _ _ _)
end
theorem RowsAt.lower {out : List (List Int)} {vs : List Value} {M base base' : Nat} {ok : Nat → Prop} {w : World} (h : RowsAt out vs M base ok w) (hb : base' ≤ base) : RowsAt out vs M base' ok w := ⟨h.len, h.row, fun i hi => Kd.R_lower (h.el i hi) hb, h.ap⟩
theorem make_rows (n : Nat) (hn : n ≤ 2000) (W : World) : (Instr.makeSlice 53 (.int .i64 (n : Int)) (.int .i64 (n : Int))).run Tryd.prog W = .ok (.slice (some ⟨W.heap.size, 0, none⟩) n n) (W.alloc (.cells (Array.replicate n (.slice none 0 0)) 22)) := by
  obtain ⟨i0, hi, hz0, hz1, hz2⟩ := info_parts (show (Tryd.prog.info? 22).map (fun i => (i.zero, i.size, i.bytes)) = some (some (.slice none 0 0), 1, 24) by kernel_rfl)
  have h := run_make (P := Tryd.prog) (w := W) 53 22 i0 (.slice none 0 0) Tryd.underlying53 hi hz0 .i64 .i64 (n : Int) (n : Int) (by omega) (by omega) (by rw [hz2]; omega) (by omega)
  rw [h, hz1]
  have e : madeCells (Value.slice none 0 0).cells ((n : Int).toNat * 1) = Array.replicate n (.slice none 0 0) := by
    apply Array.ext
    · simp [size_madeCells]
    · intro i h1 h2
      simp [madeCells, Value.cells, Nat.mod_one]
  rw [e]
  simp
theorem pol_of_len (p : PolV) : (polOf p).length = (polPs p).length := (patsFrom_len p.rules 0).2
theorem acc_range {ps : List (List S71)} {bs : List Int} {ws : List Nat} {k : Int} (h : k ∈ nfaAccept ps bs ws) : 0 ≤ k ∧ k < (ps.length : Int) := by
  unfold nfaAccept accTo at h
  obtain ⟨i, hi, rfl⟩ := List.mem_map.1 h
  have := List.mem_range.1 (List.mem_filter.1 hi).1
  omega
set_option maxHeartbeats 1000000 in
theorem hits1_any (of_ : List Int) (Ao : Option Addr) (co : Nat) (i k : Int) (B1 B2 : Nat) (W : World) (h0 : 0 ≤ k) (h1 : k < (of_.length : Int)) (hc : Kd.C (Kd.int .i64) W Ao of_.length of_) (b1 : W.cell? ⟨B1, 0, none⟩ = some (.slice Ao of_.length co)) (b2 : W.cell? ⟨B2, 0, none⟩ = some (.int .i64 i)) :
    Calls Tryd.prog 35 #[.int .i64 k, .pointer (some ⟨B1, 0, none⟩), .pointer (some ⟨B2, 0, none⟩)] W fun e w' => e = .returned (.bool (rd of_ k == i)) ∧ Below W.heap.size W w' := by
  obtain ⟨ad, e, p3⟩ := Kd.at_int hc k h0 h1
  subst e
  have hz : k.toNat < of_.length := by omega
  have hmax := hc.2.1
  clear hc
  generalize rd of_ k = v at *
  go_enter Tryd.func35, Tryd.ntmps35
  go_wp2
  go_quiet (fail)
  go_wp2
  go_ret
  exact ⟨rfl, pw_below_drewN (Below.refl _ _) _⟩
end Go.Proofs.YtpbkdeelkpjccaaDoor.G

namespace Go.Proofs.YtpbkdeelkpjccaaDoor.G
open Go.RowKit Go.Proofs.YtpbkdeelkpjccaaDoorW.PrintWords
set_option linter.unusedVariables false
set_option linter.unusedSimpArgs false
theorem visit_met {g : List S34} (hk : ∀ x ∈ g, ∀ k ∈ x.f3, 0 ≤ k ∧ k < (g.length : Int)) : ∀ (f : Nat) (s : List Int × List Int) (i : Int) (bd : Nat), 0 ≤ i → i < (g.length : Int) → MetAt g bd s → pot g s.1 ≤ f →
    (∃ bd', MetAt g bd' (visit g f i s)) ∧ pot g (visit g f i s).1 ≤ pot g s.1 := by
  intro f
  induction f with
  | zero =>
    intro s i bd h0 h1 H hf
    obtain ⟨a1, a2, a3⟩ := H.at i h0 h1
    have hl := H.len
    have hne : ¬ s.1.getD i.toNat 0 = 0 := fun e => by have := pot_unmet g s.1 i.toNat (by omega) (by omega) e; omega
    have hi : rd s.1 i + 1 > 1 := by omega
    rw [visit_seen g 0 i s hi]
    obtain ⟨h2, h3⟩ := H.seen i h0 h1 hi
    exact ⟨⟨_, h2⟩, by show pot g (s.1.set i.toNat _) ≤ _; omega⟩
  | succ f ih =>
    intro s i bd h0 h1 H hf
    obtain ⟨a1, a2, a3⟩ := H.at i h0 h1
    by_cases hi : rd s.1 i = 0
    · rw [visit_first g f i s hi]
      obtain ⟨h2, h3⟩ := H.first i h0 h1 hi
      have fold : ∀ (l : List Int) (s' : List Int × List Int) (bd' : Nat), (∀ k ∈ l, 0 ≤ k ∧ k < (g.length : Int)) → MetAt g bd' s' → pot g s'.1 ≤ f → (∃ b2, MetAt g b2 (l.foldl (fun s k => visit g f k s) s')) ∧ pot g (l.foldl (fun s k => visit g f k s) s').1 ≤ pot g s'.1 := by
        intro l
        induction l with
        | nil => exact fun s' bd' _ h _ => ⟨⟨_, h⟩, Nat.le_refl _⟩
        | cons k l ihl =>
          intro s' bd' hkl h hp
          have hk1 := hkl k List.mem_cons_self
          obtain ⟨⟨b2, q1⟩, q2⟩ := ih s' k bd' hk1.1 hk1.2 h hp
          obtain ⟨q3, q4⟩ := ihl _ b2 (fun j hj => hkl j (List.mem_cons_of_mem _ hj)) q1 (by omega)
          exact ⟨q3, Nat.le_trans q4 q2⟩
      obtain ⟨q1, q2⟩ := fold _ _ _ (rd_kids hk i) h2 (by show pot g (s.1.set i.toNat _) ≤ f; omega)
      refine ⟨q1, Nat.le_trans q2 ?_⟩
      show pot g (s.1.set i.toNat _) ≤ _
      omega
    · have hi2 : rd s.1 i + 1 > 1 := by omega
      rw [visit_seen g _ i s hi2]
      obtain ⟨h2, h3⟩ := H.seen i h0 h1 hi2
      exact ⟨⟨_, h2⟩, by show pot g (s.1.set i.toNat _) ≤ _; omega⟩
theorem order_len {g : List S34} (hok : graphB g = true) : (orderG g).length ≤ g.length := by
  unfold orderG
  rw [if_pos hok]
  have hl := graph_len hok
  have hM : MetAt g 0 (List.replicate g.length 0, []) := ⟨by simp, fun m hm => by have := (List.mem_replicate.1 hm).2; omega, by simp [zeros_replicate]⟩
  obtain ⟨⟨bd, h⟩, _⟩ := visit_met (graph_kids hok) _ (List.replicate g.length 0, []) 0 0 (by omega) (by omega) hM (Nat.le_refl _)
  have := h.out
  exact Nat.le_trans (Nat.le_add_right _ _) (Nat.le_of_eq this)
end Go.Proofs.YtpbkdeelkpjccaaDoor.G
