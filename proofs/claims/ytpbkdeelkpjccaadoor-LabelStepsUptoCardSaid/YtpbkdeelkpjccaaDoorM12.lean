/- Merged by merge.py out of: Hright, HtwiceB. -/
import Derived.Test.YtpbkdeelkpjccaaDoorM11
import Derived.Test.YtpbkdeelkpjccaaDoorM07
namespace Go.Proofs.YtpbkdeelkpjccaaDoor.G
open Go.RowKit Go.Proofs.YtpbkdeelkpjccaaDoorW.PrintWords
set_option linter.unusedVariables false
set_option linter.unusedSimpArgs false
theorem bcell {W w1 : World} (hb : Below W.heap.size W w1) : (∀ b o, b < W.heap.size → w1.cell? ⟨b, o, none⟩ = W.cell? ⟨b, o, none⟩) ∧ (∀ b o, b < W.heap.size → w1.frozen? ⟨b, o, none⟩ = W.frozen? ⟨b, o, none⟩) :=
  ⟨fun b o h => hb.cell (p := ⟨b, o, none⟩) h, fun b o h => hb.frozen (p := ⟨b, o, none⟩) h⟩
theorem RightAt.below {g : List S34} {A : Option Addr} {c : Nat} {x : S34} {A3 : Option Addr} {c3 : Nat} {w w' : World} (h : RightAt g A c x A3 c3 w) (hb : Below w.heap.size w w') : RightAt g A c x A3 c3 w' :=
  ⟨h.hT.below hb, Kd.C_below h.hg hb, h.hgc, Kd.C_below h.h3 hb, h.h3c, h.fit⟩
abbrev boxes (g : List S34) (A : Option Addr) (c : Nat) (x : S34) (A3 : Option Addr) (c3 : Nat) (w : World) : World :=
  (w.alloc (.cells #[.slice A g.length c] 29)).alloc (.cells #[.int .i64 x.f0, .string x.f1, .string x.f2, .slice A3 x.f3.length c3] 34)
theorem boxes_below (g : List S34) (A : Option Addr) (c : Nat) (x : S34) (A3 : Option Addr) (c3 : Nat) (w : World) : Below w.heap.size w (boxes g A c x A3 c3 w) :=
  below_alloc (below_alloc (Below.refl _ _) _) _
theorem boxes_cell (g : List S34) (A : Option Addr) (c : Nat) (x : S34) (A3 : Option Addr) (c3 : Nat) (w : World) : (boxes g A c x A3 c3 w).cell? ⟨w.heap.size, 0, none⟩ = some (.slice A g.length c) := by
  unfold boxes; go_simp
set_option maxHeartbeats 2000000 in
theorem right_far (g : List S34) (A : Option Addr) (c : Nat) (x : S34) (A3 : Option Addr) (c3 : Nat) (w : World) (R : RightAt g A c x A3 c3 w) (h : (x.f3.all fun i => hasB g.length i) = false) :
    Calls Tryd.prog 29 #[.slice A g.length c, .agg #[.int .i64 x.f0, .string x.f1, .string x.f2, .slice A3 x.f3.length c3]] w fun e w' => e = .returned (.bool false) ∧ Below w.heap.size w w' := by
  have hb0 := boxes_below g A c x A3 c3 w
  have hcB := boxes_cell g A c x A3 c3 w
  have R0 := R.below hb0
  have hfar := R0.far g A c x A3 c3 _ w.heap.size hcB
  rw [h] at hfar
  clear R R0 hcB h
  have HB0 := Aside0.mk hb0
  clear hb0
  go_enter Tryd.func29, Tryd.ntmps29
  go_wp2_with fail
  refine hfar.mono ?_
  rintro e w1 ⟨rfl, hb1⟩
  clear hfar
  obtain ⟨hc1, hf1⟩ := bcell hb1
  go_wp2
  go_ret
  exact ⟨rfl, below_then HB0.out HB0.out.size hb1⟩
set_option maxHeartbeats 2000000 in
theorem right_k0a (g : List S34) (A : Option Addr) (c : Nat) (x : S34) (A3 : Option Addr) (c3 : Nat) (w : World) (R : RightAt g A c x A3 c3 w) (h : (x.f3.all fun i => hasB g.length i) = true) (hk : (x.f0 == 0) = true) (hl : ((x.f3.length : Int) == 0) = false) :
    Calls Tryd.prog 29 #[.slice A g.length c, .agg #[.int .i64 x.f0, .string x.f1, .string x.f2, .slice A3 x.f3.length c3]] w fun e w' => e = .returned (.bool false) ∧ Below w.heap.size w w' := by
  have hb0 := boxes_below g A c x A3 c3 w
  have hcB := boxes_cell g A c x A3 c3 w
  have R0 := R.below hb0
  have hfar := R0.far g A c x A3 c3 _ w.heap.size hcB
  rw [h] at hfar
  simp only [Bool.not_true] at hfar
  have HB0 := Aside0.mk hb0
  clear hb0
  have HR := Aside0.mk R0
  have hfit := R.fit
  obtain ⟨hs1, hs2, hs3⟩ := hfit
  have HS1 := Aside0.mk hs1
  have HS2 := Aside0.mk hs2
  clear hs1 hs2
  clear R R0 hcB
  clear h
  go_enter Tryd.func29, Tryd.ntmps29
  go_wp2_with fail
  refine hfar.mono ?_
  rintro e w1 ⟨rfl, hb1⟩
  clear hfar
  obtain ⟨hc1, hf1⟩ := bcell hb1
  have R1 := Aside0.mk (HR.out.below hb1)
  have hz1 : w.heap.size + 1 < w1.heap.size := by have := hb1.size; simp at this; omega
  have hz0 : w.heap.size < w1.heap.size := by omega
  go_wp2
  go_ret
  exact ⟨rfl, below_then HB0.out HB0.out.size hb1⟩
set_option maxHeartbeats 2000000 in
theorem right_k0b (g : List S34) (A : Option Addr) (c : Nat) (x : S34) (A3 : Option Addr) (c3 : Nat) (w : World) (R : RightAt g A c x A3 c3 w) (h : (x.f3.all fun i => hasB g.length i) = true) (hk : (x.f0 == 0) = true) (hl : ((x.f3.length : Int) == 0) = true) (hv : validB x.f2 = false) :
    Calls Tryd.prog 29 #[.slice A g.length c, .agg #[.int .i64 x.f0, .string x.f1, .string x.f2, .slice A3 x.f3.length c3]] w fun e w' => e = .returned (.bool false) ∧ Below w.heap.size w w' := by
  have hb0 := boxes_below g A c x A3 c3 w
  have hcB := boxes_cell g A c x A3 c3 w
  have R0 := R.below hb0
  have hfar := R0.far g A c x A3 c3 _ w.heap.size hcB
  rw [h] at hfar
  simp only [Bool.not_true] at hfar
  have HB0 := Aside0.mk hb0
  clear hb0
  have HR := Aside0.mk R0
  have hfit := R.fit
  obtain ⟨hs1, hs2, hs3⟩ := hfit
  have HS1 := Aside0.mk hs1
  have HS2 := Aside0.mk hs2
  clear hs1 hs2
  clear R R0 hcB
  clear h
  have cV := fun W hT => valid_any x.f2 (by have := HS2.out; omega) W hT
  rw [hv] at cV
  clear hv
  go_enter Tryd.func29, Tryd.ntmps29
  go_wp2_with fail
  refine hfar.mono ?_
  rintro e w1 ⟨rfl, hb1⟩
  clear hfar
  obtain ⟨hc1, hf1⟩ := bcell hb1
  have R1 := Aside0.mk (HR.out.below hb1)
  have hz1 : w.heap.size + 1 < w1.heap.size := by have := hb1.size; simp at this; omega
  have hz0 : w.heap.size < w1.heap.size := by omega
  go_wp2_with (go_at_call 24; refine (cV _ R1.out.hT).mono ?_; rintro e w2 ⟨rfl, hb2⟩; obtain ⟨hc2, hf2⟩ := bcell hb2; have hz2 : w.heap.size + 1 < w2.heap.size := (by have := hb2.size; omega); have hz3 : w.heap.size < w2.heap.size := (by omega))
  go_ret
  exact ⟨rfl, below_then (below_then HB0.out HB0.out.size hb1) (below_then HB0.out HB0.out.size hb1).size hb2⟩
set_option maxHeartbeats 2000000 in
theorem right_k0c (g : List S34) (A : Option Addr) (c : Nat) (x : S34) (A3 : Option Addr) (c3 : Nat) (w : World) (R : RightAt g A c x A3 c3 w) (h : (x.f3.all fun i => hasB g.length i) = true) (hk : (x.f0 == 0) = true) (hl : ((x.f3.length : Int) == 0) = true) (hv : validB x.f2 = true) :
    Calls Tryd.prog 29 #[.slice A g.length c, .agg #[.int .i64 x.f0, .string x.f1, .string x.f2, .slice A3 x.f3.length c3]] w fun e w' => e = .returned (.bool (fitsB x.f1 x.f2)) ∧ Below w.heap.size w w' := by
  have hb0 := boxes_below g A c x A3 c3 w
  have hcB := boxes_cell g A c x A3 c3 w
  have R0 := R.below hb0
  have hfar := R0.far g A c x A3 c3 _ w.heap.size hcB
  rw [h] at hfar
  simp only [Bool.not_true] at hfar
  have HB0 := Aside0.mk hb0
  clear hb0
  have HR := Aside0.mk R0
  have hfit := R.fit
  obtain ⟨hs1, hs2, hs3⟩ := hfit
  have HS1 := Aside0.mk hs1
  have HS2 := Aside0.mk hs2
  clear hs1 hs2
  clear R R0 hcB
  clear h
  have cV := fun W hT => valid_any x.f2 (by have := HS2.out; omega) W hT
  rw [hv] at cV
  clear hv
  have cF := fun W => tag_Fits.calls x.f1 x.f2 _ W (fits_f _ _ HS2.out)
  generalize fitsB x.f1 x.f2 = q at cF ⊢
  go_enter Tryd.func29, Tryd.ntmps29
  go_wp2_with fail
  refine hfar.mono ?_
  rintro e w1 ⟨rfl, hb1⟩
  clear hfar
  obtain ⟨hc1, hf1⟩ := bcell hb1
  have R1 := Aside0.mk (HR.out.below hb1)
  have hz1 : w.heap.size + 1 < w1.heap.size := by have := hb1.size; simp at this; omega
  have hz0 : w.heap.size < w1.heap.size := by omega
  go_wp2_with (first | (go_at_call 24; refine (cV _ R1.out.hT).mono ?_; rintro e w2 ⟨rfl, hb2⟩; obtain ⟨hc2, hf2⟩ := bcell hb2; have hz2 : w.heap.size + 1 < w2.heap.size := (by have := hb2.size; omega); have hz3 : w.heap.size < w2.heap.size := (by omega)) | (go_at_call 56; refine (cF _).mono ?_; rintro e w3 ⟨rfl, hb3⟩))
  go_ret
  exact ⟨rfl, below_then (below_then (below_then HB0.out HB0.out.size hb1) (below_then HB0.out HB0.out.size hb1).size hb2) (below_then (below_then HB0.out HB0.out.size hb1) (below_then HB0.out HB0.out.size hb1).size hb2).size hb3⟩
set_option maxHeartbeats 2000000 in
theorem right_k1a (g : List S34) (A : Option Addr) (c : Nat) (x : S34) (A3 : Option Addr) (c3 : Nat) (w : World) (R : RightAt g A c x A3 c3 w) (h : (x.f3.all fun i => hasB g.length i) = true) (hk : (x.f0 == 0) = false) (hk1 : (x.f0 == 1) = true) (ht : tagB x.f1 = true) (hco : coreL x.f1.toList = false) :
    Calls Tryd.prog 29 #[.slice A g.length c, .agg #[.int .i64 x.f0, .string x.f1, .string x.f2, .slice A3 x.f3.length c3]] w fun e w' => e = .returned (.bool x.f2.toList.isEmpty) ∧ Below w.heap.size w w' := by
  have hb0 := boxes_below g A c x A3 c3 w
  have hcB := boxes_cell g A c x A3 c3 w
  have R0 := R.below hb0
  have hfar := R0.far g A c x A3 c3 _ w.heap.size hcB
  rw [h] at hfar
  simp only [Bool.not_true] at hfar
  have HB0 := Aside0.mk hb0
  clear hb0
  have HR := Aside0.mk R0
  have hfit := R.fit
  obtain ⟨hs1, hs2, hs3⟩ := hfit
  have HS1 := Aside0.mk hs1
  have HS2 := Aside0.mk hs2
  clear hs1 hs2
  clear R R0 hcB
  clear h
  have cT := fun W => tag_Right.calls x.f1 _ W (tagRight_f _)
  rw [ht] at cT
  clear ht
  have cC := fun W => tag_Core.calls x.f1 _ W (core_f _)
  rw [hco] at cC
  clear hco
  go_enter Tryd.func29, Tryd.ntmps29
  go_wp2_with fail
  refine hfar.mono ?_
  rintro e w1 ⟨rfl, hb1⟩
  clear hfar
  obtain ⟨hc1, hf1⟩ := bcell hb1
  have R1 := Aside0.mk (HR.out.below hb1)
  have hz1 : w.heap.size + 1 < w1.heap.size := by have := hb1.size; simp at this; omega
  have hz0 : w.heap.size < w1.heap.size := by omega
  go_wp2_with (first | (go_at_call 49; refine (cT _).mono ?_; rintro e w2 ⟨rfl, hb2⟩; obtain ⟨hc2, hf2⟩ := bcell hb2; have hz2 : w.heap.size + 1 < w2.heap.size := (by have := hb2.size; omega); have hz3 : w.heap.size < w2.heap.size := (by omega)) | (go_at_call 57; refine (cC _).mono ?_; rintro e w3 ⟨rfl, ⟨q3, rfl⟩⟩))
  go_ret
  exact ⟨by first | rfl | simp, pw_below_drewN (below_then (below_then HB0.out HB0.out.size hb1) (below_then HB0.out HB0.out.size hb1).size hb2) _⟩
set_option maxHeartbeats 2000000 in
theorem right_k1bt (g : List S34) (A : Option Addr) (c : Nat) (x : S34) (A3 : Option Addr) (c3 : Nat) (w : World) (R : RightAt g A c x A3 c3 w) (h : (x.f3.all fun i => hasB g.length i) = true) (hk : (x.f0 == 0) = false) (hk1 : (x.f0 == 1) = true) (ht : tagB x.f1 = true) (hco : coreL x.f1.toList = true) (hg : (x.f1.toList == [115, 101, 113]) = true) :
    Calls Tryd.prog 29 #[.slice A g.length c, .agg #[.int .i64 x.f0, .string x.f1, .string x.f2, .slice A3 x.f3.length c3]] w fun e w' => e = .returned (.bool x.f2.toList.isEmpty) ∧ Below w.heap.size w w' := by
  have hb0 := boxes_below g A c x A3 c3 w
  have hcB := boxes_cell g A c x A3 c3 w
  have R0 := R.below hb0
  have hfar := R0.far g A c x A3 c3 _ w.heap.size hcB
  rw [h] at hfar
  simp only [Bool.not_true] at hfar
  have HB0 := Aside0.mk hb0
  clear hb0
  have HR := Aside0.mk R0
  have hfit := R.fit
  obtain ⟨hs1, hs2, hs3⟩ := hfit
  have HS1 := Aside0.mk hs1
  have HS2 := Aside0.mk hs2
  clear hs1 hs2
  clear R R0 hcB
  clear h
  have cT := fun W => tag_Right.calls x.f1 _ W (tagRight_f _)
  rw [ht] at cT
  clear ht
  have cC := fun W => tag_Core.calls x.f1 _ W (core_f _)
  rw [hco] at cC
  clear hco
  go_enter Tryd.func29, Tryd.ntmps29
  go_wp2_with fail
  refine hfar.mono ?_
  rintro e w1 ⟨rfl, hb1⟩
  clear hfar
  obtain ⟨hc1, hf1⟩ := bcell hb1
  have R1 := Aside0.mk (HR.out.below hb1)
  have hz1 : w.heap.size + 1 < w1.heap.size := by have := hb1.size; simp at this; omega
  have hz0 : w.heap.size < w1.heap.size := by omega
  go_wp2_with (first | (go_at_call 49; refine (cT _).mono ?_; rintro e w2 ⟨rfl, hb2⟩; obtain ⟨hc2, hf2⟩ := bcell hb2; have hz2 : w.heap.size + 1 < w2.heap.size := (by have := hb2.size; omega); have hz3 : w.heap.size < w2.heap.size := (by omega)) | (go_at_call 57; refine (cC _).mono ?_; rintro e w3 ⟨rfl, ⟨q3, rfl⟩⟩))
  go_ret
  exact ⟨by first | rfl | simp, pw_below_drewN (below_then (below_then HB0.out HB0.out.size hb1) (below_then HB0.out HB0.out.size hb1).size hb2) _⟩
set_option maxHeartbeats 2000000 in
theorem right_k1bf (g : List S34) (A : Option Addr) (c : Nat) (x : S34) (A3 : Option Addr) (c3 : Nat) (w : World) (R : RightAt g A c x A3 c3 w) (h : (x.f3.all fun i => hasB g.length i) = true) (hk : (x.f0 == 0) = false) (hk1 : (x.f0 == 1) = true) (ht : tagB x.f1 = true) (hco : coreL x.f1.toList = true) (hg : (x.f1.toList == [115, 101, 113]) = false) :
    Calls Tryd.prog 29 #[.slice A g.length c, .agg #[.int .i64 x.f0, .string x.f1, .string x.f2, .slice A3 x.f3.length c3]] w fun e w' => e = .returned (.bool false) ∧ Below w.heap.size w w' := by
  have hb0 := boxes_below g A c x A3 c3 w
  have hcB := boxes_cell g A c x A3 c3 w
  have R0 := R.below hb0
  have hfar := R0.far g A c x A3 c3 _ w.heap.size hcB
  rw [h] at hfar
  simp only [Bool.not_true] at hfar
  have HB0 := Aside0.mk hb0
  clear hb0
  have HR := Aside0.mk R0
  have hfit := R.fit
  obtain ⟨hs1, hs2, hs3⟩ := hfit
  have HS1 := Aside0.mk hs1
  have HS2 := Aside0.mk hs2
  clear hs1 hs2
  clear R R0 hcB
  clear h
  have cT := fun W => tag_Right.calls x.f1 _ W (tagRight_f _)
  rw [ht] at cT
  clear ht
  have cC := fun W => tag_Core.calls x.f1 _ W (core_f _)
  rw [hco] at cC
  clear hco
  go_enter Tryd.func29, Tryd.ntmps29
  go_wp2_with fail
  refine hfar.mono ?_
  rintro e w1 ⟨rfl, hb1⟩
  clear hfar
  obtain ⟨hc1, hf1⟩ := bcell hb1
  have R1 := Aside0.mk (HR.out.below hb1)
  have hz1 : w.heap.size + 1 < w1.heap.size := by have := hb1.size; simp at this; omega
  have hz0 : w.heap.size < w1.heap.size := by omega
  go_wp2_with (first | (go_at_call 49; refine (cT _).mono ?_; rintro e w2 ⟨rfl, hb2⟩; obtain ⟨hc2, hf2⟩ := bcell hb2; have hz2 : w.heap.size + 1 < w2.heap.size := (by have := hb2.size; omega); have hz3 : w.heap.size < w2.heap.size := (by omega)) | (go_at_call 57; refine (cC _).mono ?_; rintro e w3 ⟨rfl, ⟨q3, rfl⟩⟩))
  go_ret
  exact ⟨by first | rfl | simp, pw_below_drewN (below_then (below_then HB0.out HB0.out.size hb1) (below_then HB0.out HB0.out.size hb1).size hb2) _⟩
set_option maxHeartbeats 2000000 in
theorem right_k1ct (g : List S34) (A : Option Addr) (c : Nat) (x : S34) (A3 : Option Addr) (c3 : Nat) (w : World) (R : RightAt g A c x A3 c3 w) (h : (x.f3.all fun i => hasB g.length i) = true) (hk : (x.f0 == 0) = false) (hk1 : (x.f0 == 1) = true) (ht : tagB x.f1 = false) (hg : (x.f1.toList == [115, 101, 113]) = true) :
    Calls Tryd.prog 29 #[.slice A g.length c, .agg #[.int .i64 x.f0, .string x.f1, .string x.f2, .slice A3 x.f3.length c3]] w fun e w' => e = .returned (.bool x.f2.toList.isEmpty) ∧ Below w.heap.size w w' := by
  have hb0 := boxes_below g A c x A3 c3 w
  have hcB := boxes_cell g A c x A3 c3 w
  have R0 := R.below hb0
  have hfar := R0.far g A c x A3 c3 _ w.heap.size hcB
  rw [h] at hfar
  simp only [Bool.not_true] at hfar
  have HB0 := Aside0.mk hb0
  clear hb0
  have HR := Aside0.mk R0
  have hfit := R.fit
  obtain ⟨hs1, hs2, hs3⟩ := hfit
  have HS1 := Aside0.mk hs1
  have HS2 := Aside0.mk hs2
  clear hs1 hs2
  clear R R0 hcB
  clear h
  have cT := fun W => tag_Right.calls x.f1 _ W (tagRight_f _)
  rw [ht] at cT
  clear ht
  go_enter Tryd.func29, Tryd.ntmps29
  go_wp2_with fail
  refine hfar.mono ?_
  rintro e w1 ⟨rfl, hb1⟩
  clear hfar
  obtain ⟨hc1, hf1⟩ := bcell hb1
  have R1 := Aside0.mk (HR.out.below hb1)
  have hz1 : w.heap.size + 1 < w1.heap.size := by have := hb1.size; simp at this; omega
  have hz0 : w.heap.size < w1.heap.size := by omega
  go_wp2_with (first | (go_at_call 49; refine (cT _).mono ?_; rintro e w2 ⟨rfl, hb2⟩; obtain ⟨hc2, hf2⟩ := bcell hb2; have hz2 : w.heap.size + 1 < w2.heap.size := (by have := hb2.size; omega); have hz3 : w.heap.size < w2.heap.size := (by omega)))
  go_ret
  exact ⟨by first | rfl | simp, below_then (below_then HB0.out HB0.out.size hb1) (below_then HB0.out HB0.out.size hb1).size hb2⟩
set_option maxHeartbeats 2000000 in
theorem right_k1cf (g : List S34) (A : Option Addr) (c : Nat) (x : S34) (A3 : Option Addr) (c3 : Nat) (w : World) (R : RightAt g A c x A3 c3 w) (h : (x.f3.all fun i => hasB g.length i) = true) (hk : (x.f0 == 0) = false) (hk1 : (x.f0 == 1) = true) (ht : tagB x.f1 = false) (hg : (x.f1.toList == [115, 101, 113]) = false) :
    Calls Tryd.prog 29 #[.slice A g.length c, .agg #[.int .i64 x.f0, .string x.f1, .string x.f2, .slice A3 x.f3.length c3]] w fun e w' => e = .returned (.bool false) ∧ Below w.heap.size w w' := by
  have hb0 := boxes_below g A c x A3 c3 w
  have hcB := boxes_cell g A c x A3 c3 w
  have R0 := R.below hb0
  have hfar := R0.far g A c x A3 c3 _ w.heap.size hcB
  rw [h] at hfar
  simp only [Bool.not_true] at hfar
  have HB0 := Aside0.mk hb0
  clear hb0
  have HR := Aside0.mk R0
  have hfit := R.fit
  obtain ⟨hs1, hs2, hs3⟩ := hfit
  have HS1 := Aside0.mk hs1
  have HS2 := Aside0.mk hs2
  clear hs1 hs2
  clear R R0 hcB
  clear h
  have cT := fun W => tag_Right.calls x.f1 _ W (tagRight_f _)
  rw [ht] at cT
  clear ht
  go_enter Tryd.func29, Tryd.ntmps29
  go_wp2_with fail
  refine hfar.mono ?_
  rintro e w1 ⟨rfl, hb1⟩
  clear hfar
  obtain ⟨hc1, hf1⟩ := bcell hb1
  have R1 := Aside0.mk (HR.out.below hb1)
  have hz1 : w.heap.size + 1 < w1.heap.size := by have := hb1.size; simp at this; omega
  have hz0 : w.heap.size < w1.heap.size := by omega
  go_wp2_with (first | (go_at_call 49; refine (cT _).mono ?_; rintro e w2 ⟨rfl, hb2⟩; obtain ⟨hc2, hf2⟩ := bcell hb2; have hz2 : w.heap.size + 1 < w2.heap.size := (by have := hb2.size; omega); have hz3 : w.heap.size < w2.heap.size := (by omega)))
  go_ret
  exact ⟨by first | rfl | simp, below_then (below_then HB0.out HB0.out.size hb1) (below_then HB0.out HB0.out.size hb1).size hb2⟩
set_option maxHeartbeats 2000000 in
theorem right_k3a (g : List S34) (A : Option Addr) (c : Nat) (x : S34) (A3 : Option Addr) (c3 : Nat) (w : World) (R : RightAt g A c x A3 c3 w) (h : (x.f3.all fun i => hasB g.length i) = true) (hk : (x.f0 == 0) = false) (hk1 : (x.f0 == 1) = false) (hk2 : (x.f0 == 2) = false) (ht : tagB x.f1 = true) (hco : coreL x.f1.toList = false) :
    Calls Tryd.prog 29 #[.slice A g.length c, .agg #[.int .i64 x.f0, .string x.f1, .string x.f2, .slice A3 x.f3.length c3]] w fun e w' => e = .returned (.bool false) ∧ Below w.heap.size w w' := by
  have hb0 := boxes_below g A c x A3 c3 w
  have hcB := boxes_cell g A c x A3 c3 w
  have R0 := R.below hb0
  have hfar := R0.far g A c x A3 c3 _ w.heap.size hcB
  rw [h] at hfar
  simp only [Bool.not_true] at hfar
  have HB0 := Aside0.mk hb0
  clear hb0
  have HR := Aside0.mk R0
  have hfit := R.fit
  obtain ⟨hs1, hs2, hs3⟩ := hfit
  have HS1 := Aside0.mk hs1
  have HS2 := Aside0.mk hs2
  clear hs1 hs2
  clear R R0 hcB
  clear h
  have cT := fun W => tag_Right.calls x.f1 _ W (tagRight_f _)
  rw [ht] at cT
  clear ht
  have cC := fun W => tag_Core.calls x.f1 _ W (core_f _)
  rw [hco] at cC
  clear hco
  go_enter Tryd.func29, Tryd.ntmps29
  go_wp2_with fail
  refine hfar.mono ?_
  rintro e w1 ⟨rfl, hb1⟩
  clear hfar
  obtain ⟨hc1, hf1⟩ := bcell hb1
  have R1 := Aside0.mk (HR.out.below hb1)
  have hz1 : w.heap.size + 1 < w1.heap.size := by have := hb1.size; simp at this; omega
  have hz0 : w.heap.size < w1.heap.size := by omega
  go_wp2_with (first | (go_at_call 49; refine (cT _).mono ?_; rintro e w2 ⟨rfl, hb2⟩; obtain ⟨hc2, hf2⟩ := bcell hb2; have hz2 : w.heap.size + 1 < w2.heap.size := (by have := hb2.size; omega); have hz3 : w.heap.size < w2.heap.size := (by omega)) | (go_at_call 57; refine (cC _).mono ?_; rintro e w3 ⟨rfl, ⟨q3, rfl⟩⟩))
  go_ret
  exact ⟨by first | rfl | simp, pw_below_drewN (below_then (below_then HB0.out HB0.out.size hb1) (below_then HB0.out HB0.out.size hb1).size hb2) _⟩
set_option maxHeartbeats 2000000 in
theorem right_k3b (g : List S34) (A : Option Addr) (c : Nat) (x : S34) (A3 : Option Addr) (c3 : Nat) (w : World) (R : RightAt g A c x A3 c3 w) (h : (x.f3.all fun i => hasB g.length i) = true) (hk : (x.f0 == 0) = false) (hk1 : (x.f0 == 1) = false) (hk2 : (x.f0 == 2) = false) (ht : tagB x.f1 = true) (hco : coreL x.f1.toList = true) :
    Calls Tryd.prog 29 #[.slice A g.length c, .agg #[.int .i64 x.f0, .string x.f1, .string x.f2, .slice A3 x.f3.length c3]] w fun e w' => e = .returned (.bool false) ∧ Below w.heap.size w w' := by
  have hb0 := boxes_below g A c x A3 c3 w
  have hcB := boxes_cell g A c x A3 c3 w
  have R0 := R.below hb0
  have hfar := R0.far g A c x A3 c3 _ w.heap.size hcB
  rw [h] at hfar
  simp only [Bool.not_true] at hfar
  have HB0 := Aside0.mk hb0
  clear hb0
  have HR := Aside0.mk R0
  have hfit := R.fit
  obtain ⟨hs1, hs2, hs3⟩ := hfit
  have HS1 := Aside0.mk hs1
  have HS2 := Aside0.mk hs2
  clear hs1 hs2
  clear R R0 hcB
  clear h
  have cT := fun W => tag_Right.calls x.f1 _ W (tagRight_f _)
  rw [ht] at cT
  clear ht
  have cC := fun W => tag_Core.calls x.f1 _ W (core_f _)
  rw [hco] at cC
  clear hco
  go_enter Tryd.func29, Tryd.ntmps29
  go_wp2_with fail
  refine hfar.mono ?_
  rintro e w1 ⟨rfl, hb1⟩
  clear hfar
  obtain ⟨hc1, hf1⟩ := bcell hb1
  have R1 := Aside0.mk (HR.out.below hb1)
  have hz1 : w.heap.size + 1 < w1.heap.size := by have := hb1.size; simp at this; omega
  have hz0 : w.heap.size < w1.heap.size := by omega
  go_wp2_with (first | (go_at_call 49; refine (cT _).mono ?_; rintro e w2 ⟨rfl, hb2⟩; obtain ⟨hc2, hf2⟩ := bcell hb2; have hz2 : w.heap.size + 1 < w2.heap.size := (by have := hb2.size; omega); have hz3 : w.heap.size < w2.heap.size := (by omega)) | (go_at_call 57; refine (cC _).mono ?_; rintro e w3 ⟨rfl, ⟨q3, rfl⟩⟩))
  go_ret
  exact ⟨by first | rfl | simp, pw_below_drewN (below_then (below_then HB0.out HB0.out.size hb1) (below_then HB0.out HB0.out.size hb1).size hb2) _⟩
set_option maxHeartbeats 2000000 in
theorem right_k3c (g : List S34) (A : Option Addr) (c : Nat) (x : S34) (A3 : Option Addr) (c3 : Nat) (w : World) (R : RightAt g A c x A3 c3 w) (h : (x.f3.all fun i => hasB g.length i) = true) (hk : (x.f0 == 0) = false) (hk1 : (x.f0 == 1) = false) (hk2 : (x.f0 == 2) = false) (ht : tagB x.f1 = false) :
    Calls Tryd.prog 29 #[.slice A g.length c, .agg #[.int .i64 x.f0, .string x.f1, .string x.f2, .slice A3 x.f3.length c3]] w fun e w' => e = .returned (.bool false) ∧ Below w.heap.size w w' := by
  have hb0 := boxes_below g A c x A3 c3 w
  have hcB := boxes_cell g A c x A3 c3 w
  have R0 := R.below hb0
  have hfar := R0.far g A c x A3 c3 _ w.heap.size hcB
  rw [h] at hfar
  simp only [Bool.not_true] at hfar
  have HB0 := Aside0.mk hb0
  clear hb0
  have HR := Aside0.mk R0
  have hfit := R.fit
  obtain ⟨hs1, hs2, hs3⟩ := hfit
  have HS1 := Aside0.mk hs1
  have HS2 := Aside0.mk hs2
  clear hs1 hs2
  clear R R0 hcB
  clear h
  have cT := fun W => tag_Right.calls x.f1 _ W (tagRight_f _)
  rw [ht] at cT
  clear ht
  go_enter Tryd.func29, Tryd.ntmps29
  go_wp2_with fail
  refine hfar.mono ?_
  rintro e w1 ⟨rfl, hb1⟩
  clear hfar
  obtain ⟨hc1, hf1⟩ := bcell hb1
  have R1 := Aside0.mk (HR.out.below hb1)
  have hz1 : w.heap.size + 1 < w1.heap.size := by have := hb1.size; simp at this; omega
  have hz0 : w.heap.size < w1.heap.size := by omega
  go_wp2_with (first | (go_at_call 49; refine (cT _).mono ?_; rintro e w2 ⟨rfl, hb2⟩; obtain ⟨hc2, hf2⟩ := bcell hb2; have hz2 : w.heap.size + 1 < w2.heap.size := (by have := hb2.size; omega); have hz3 : w.heap.size < w2.heap.size := (by omega)))
  go_ret
  exact ⟨by first | rfl | simp, below_then (below_then HB0.out HB0.out.size hb1) (below_then HB0.out HB0.out.size hb1).size hb2⟩
set_option maxHeartbeats 2000000 in
theorem right_k2odda (g : List S34) (A : Option Addr) (c : Nat) (x : S34) (A3 : Option Addr) (c3 : Nat) (w : World) (R : RightAt g A c x A3 c3 w) (h : (x.f3.all fun i => hasB g.length i) = true) (hk : (x.f0 == 0) = false) (hk1 : (x.f0 == 1) = false) (hk2 : (x.f0 == 2) = true) (hm : ((x.f3.length : Int) % 2 != 0) = true) (ht : tagB x.f1 = true) (hco : coreL x.f1.toList = false) :
    Calls Tryd.prog 29 #[.slice A g.length c, .agg #[.int .i64 x.f0, .string x.f1, .string x.f2, .slice A3 x.f3.length c3]] w fun e w' => e = .returned (.bool false) ∧ Below w.heap.size w w' := by
  have hb0 := boxes_below g A c x A3 c3 w
  have hcB := boxes_cell g A c x A3 c3 w
  have R0 := R.below hb0
  have hfar := R0.far g A c x A3 c3 _ w.heap.size hcB
  rw [h] at hfar
  simp only [Bool.not_true] at hfar
  have HB0 := Aside0.mk hb0
  clear hb0
  have HR := Aside0.mk R0
  have hfit := R.fit
  obtain ⟨hs1, hs2, hs3⟩ := hfit
  have HS1 := Aside0.mk hs1
  have HS2 := Aside0.mk hs2
  clear hs1 hs2
  clear R R0 hcB
  clear h
  have cT := fun W => tag_Right.calls x.f1 _ W (tagRight_f _)
  rw [ht] at cT
  clear ht
  have cC := fun W => tag_Core.calls x.f1 _ W (core_f _)
  rw [hco] at cC
  clear hco
  go_enter Tryd.func29, Tryd.ntmps29
  go_wp2_with fail
  refine hfar.mono ?_
  rintro e w1 ⟨rfl, hb1⟩
  clear hfar
  obtain ⟨hc1, hf1⟩ := bcell hb1
  have R1 := Aside0.mk (HR.out.below hb1)
  have hz1 : w.heap.size + 1 < w1.heap.size := by have := hb1.size; simp at this; omega
  have hz0 : w.heap.size < w1.heap.size := by omega
  go_wp2_with (first | (go_at_call 49; refine (cT _).mono ?_; rintro e w2 ⟨rfl, hb2⟩; obtain ⟨hc2, hf2⟩ := bcell hb2; have hz2 : w.heap.size + 1 < w2.heap.size := (by have := hb2.size; omega); have hz3 : w.heap.size < w2.heap.size := (by omega)) | (go_at_call 57; refine (cC _).mono ?_; rintro e w3 ⟨rfl, ⟨q3, rfl⟩⟩))
  go_ret
  exact ⟨by first | rfl | simp, pw_below_drewN (below_then (below_then HB0.out HB0.out.size hb1) (below_then HB0.out HB0.out.size hb1).size hb2) _⟩
set_option maxHeartbeats 2000000 in
theorem right_k2oddb (g : List S34) (A : Option Addr) (c : Nat) (x : S34) (A3 : Option Addr) (c3 : Nat) (w : World) (R : RightAt g A c x A3 c3 w) (h : (x.f3.all fun i => hasB g.length i) = true) (hk : (x.f0 == 0) = false) (hk1 : (x.f0 == 1) = false) (hk2 : (x.f0 == 2) = true) (hm : ((x.f3.length : Int) % 2 != 0) = true) (ht : tagB x.f1 = true) (hco : coreL x.f1.toList = true) :
    Calls Tryd.prog 29 #[.slice A g.length c, .agg #[.int .i64 x.f0, .string x.f1, .string x.f2, .slice A3 x.f3.length c3]] w fun e w' => e = .returned (.bool false) ∧ Below w.heap.size w w' := by
  have hb0 := boxes_below g A c x A3 c3 w
  have hcB := boxes_cell g A c x A3 c3 w
  have R0 := R.below hb0
  have hfar := R0.far g A c x A3 c3 _ w.heap.size hcB
  rw [h] at hfar
  simp only [Bool.not_true] at hfar
  have HB0 := Aside0.mk hb0
  clear hb0
  have HR := Aside0.mk R0
  have hfit := R.fit
  obtain ⟨hs1, hs2, hs3⟩ := hfit
  have HS1 := Aside0.mk hs1
  have HS2 := Aside0.mk hs2
  clear hs1 hs2
  clear R R0 hcB
  clear h
  have cT := fun W => tag_Right.calls x.f1 _ W (tagRight_f _)
  rw [ht] at cT
  clear ht
  have cC := fun W => tag_Core.calls x.f1 _ W (core_f _)
  rw [hco] at cC
  clear hco
  go_enter Tryd.func29, Tryd.ntmps29
  go_wp2_with fail
  refine hfar.mono ?_
  rintro e w1 ⟨rfl, hb1⟩
  clear hfar
  obtain ⟨hc1, hf1⟩ := bcell hb1
  have R1 := Aside0.mk (HR.out.below hb1)
  have hz1 : w.heap.size + 1 < w1.heap.size := by have := hb1.size; simp at this; omega
  have hz0 : w.heap.size < w1.heap.size := by omega
  go_wp2_with (first | (go_at_call 49; refine (cT _).mono ?_; rintro e w2 ⟨rfl, hb2⟩; obtain ⟨hc2, hf2⟩ := bcell hb2; have hz2 : w.heap.size + 1 < w2.heap.size := (by have := hb2.size; omega); have hz3 : w.heap.size < w2.heap.size := (by omega)) | (go_at_call 57; refine (cC _).mono ?_; rintro e w3 ⟨rfl, ⟨q3, rfl⟩⟩))
  go_ret
  exact ⟨by first | rfl | simp, pw_below_drewN (below_then (below_then HB0.out HB0.out.size hb1) (below_then HB0.out HB0.out.size hb1).size hb2) _⟩
set_option maxHeartbeats 2000000 in
theorem right_k2oddc (g : List S34) (A : Option Addr) (c : Nat) (x : S34) (A3 : Option Addr) (c3 : Nat) (w : World) (R : RightAt g A c x A3 c3 w) (h : (x.f3.all fun i => hasB g.length i) = true) (hk : (x.f0 == 0) = false) (hk1 : (x.f0 == 1) = false) (hk2 : (x.f0 == 2) = true) (hm : ((x.f3.length : Int) % 2 != 0) = true) (ht : tagB x.f1 = false) :
    Calls Tryd.prog 29 #[.slice A g.length c, .agg #[.int .i64 x.f0, .string x.f1, .string x.f2, .slice A3 x.f3.length c3]] w fun e w' => e = .returned (.bool false) ∧ Below w.heap.size w w' := by
  have hb0 := boxes_below g A c x A3 c3 w
  have hcB := boxes_cell g A c x A3 c3 w
  have R0 := R.below hb0
  have hfar := R0.far g A c x A3 c3 _ w.heap.size hcB
  rw [h] at hfar
  simp only [Bool.not_true] at hfar
  have HB0 := Aside0.mk hb0
  clear hb0
  have HR := Aside0.mk R0
  have hfit := R.fit
  obtain ⟨hs1, hs2, hs3⟩ := hfit
  have HS1 := Aside0.mk hs1
  have HS2 := Aside0.mk hs2
  clear hs1 hs2
  clear R R0 hcB
  clear h
  have cT := fun W => tag_Right.calls x.f1 _ W (tagRight_f _)
  rw [ht] at cT
  clear ht
  go_enter Tryd.func29, Tryd.ntmps29
  go_wp2_with fail
  refine hfar.mono ?_
  rintro e w1 ⟨rfl, hb1⟩
  clear hfar
  obtain ⟨hc1, hf1⟩ := bcell hb1
  have R1 := Aside0.mk (HR.out.below hb1)
  have hz1 : w.heap.size + 1 < w1.heap.size := by have := hb1.size; simp at this; omega
  have hz0 : w.heap.size < w1.heap.size := by omega
  go_wp2_with (first | (go_at_call 49; refine (cT _).mono ?_; rintro e w2 ⟨rfl, hb2⟩; obtain ⟨hc2, hf2⟩ := bcell hb2; have hz2 : w.heap.size + 1 < w2.heap.size := (by have := hb2.size; omega); have hz3 : w.heap.size < w2.heap.size := (by omega)))
  go_ret
  exact ⟨by first | rfl | simp, below_then (below_then HB0.out HB0.out.size hb1) (below_then HB0.out HB0.out.size hb1).size hb2⟩
end Go.Proofs.YtpbkdeelkpjccaaDoor.G

namespace Go.Proofs.YtpbkdeelkpjccaaDoor.G
open Go.RowKit Go.Proofs.YtpbkdeelkpjccaaDoorW.PrintWords Go.Maps
set_option linter.unusedVariables false
set_option linter.unusedSimpArgs false
def dupN (g : List S34) : List Int → List Int → List (List UInt8 × List UInt8) → Bool
  | [], _, _ => false
  | k :: r, sI, sL =>
    if hasB g.length k = false then dupN g r sI sL
    else if k ∈ sI then true
    else if (rd_T34 g k).f0 = 0 then
      if ((rd_T34 g k).f1.data.toList, (rd_T34 g k).f2.data.toList) ∈ sL then true
      else dupN g r (k :: sI) (((rd_T34 g k).f1.data.toList, (rd_T34 g k).f2.data.toList) :: sL)
    else dupN g r (k :: sI) sL
def twiceB (g : List S34) : Bool := g.any fun n => n.f0 == 2 && dupN g (evens n.f3) [] []
def fitG (g : List S34) : Prop := ∀ x ∈ g, fitN x
open Classical in
noncomputable def cntOf (l : List Value) : Value → Option Int := fun v => if v ∈ l then some 1 else none
theorem cntOf_nil : cntOf [] = fun _ => none := by funext v; simp [cntOf]
theorem cntOf_upd (l : List Value) (k : Value) : upd (cntOf l) k 1 = cntOf (k :: l) := by
  funext v
  unfold upd cntOf
  by_cases h : v = k
  · simp [h]
  · have e : (v ∈ k :: l) ↔ (v ∈ l) := by simp [h]
    rw [if_neg h]
    by_cases h2 : v ∈ l
    · rw [if_pos h2, if_pos (e.2 h2)]
    · rw [if_neg h2, if_neg (fun x => h2 (e.1 x))]
theorem cntOf_in {l : List Value} {k : Value} (h : k ∈ l) : (cntOf l k).getD 0 = 1 := by unfold cntOf; rw [if_pos h]; rfl
theorem cntOf_no {l : List Value} {k : Value} (h : k ∉ l) : (cntOf l k).getD 0 = 0 := by unfold cntOf; rw [if_neg h]; rfl
theorem mem_ints (l : List Int) (k : Int) : (Value.int .i64 k) ∈ l.map (Value.int .i64) ↔ k ∈ l := by
  rw [List.mem_map]
  constructor
  · rintro ⟨j, hj, e⟩; injection e with _ e; exact e ▸ hj
  · intro h; exact ⟨k, h, rfl⟩
def leafOf (p : List UInt8 × List UInt8) : Value := leafV ⟨p.1.toArray⟩ ⟨p.2.toArray⟩
theorem mem_leaves (l : List (List UInt8 × List UInt8)) (a b : ByteArray) : leafV a b ∈ l.map leafOf ↔ (a.data.toList, b.data.toList) ∈ l := by
  rw [List.mem_map]
  constructor
  · rintro ⟨⟨c, d⟩, hj, e⟩; obtain ⟨rfl, rfl⟩ := leafV_inj.1 e; exact hj
  · intro h; exact ⟨_, h, rfl⟩
theorem C_int_off {w W : World} {A : Option Addr} {n : Nat} {l : List Int} (h : Kd.C (Kd.int .i64) w A n l) (hk : ∀ i, i < w.heap.size → (∀ es c, w.heap[i]? ≠ some (.map es c)) → W.heap[i]? = w.heap[i]?) : Kd.C (Kd.int .i64) W A n l := by
  refine ⟨h.1, h.2.1, fun hn => ?_⟩
  obtain ⟨ad, e, hc⟩ := h.2.2 hn
  refine ⟨ad, e, fun j p hj => ?_⟩
  obtain ⟨c, h1, h2, h3⟩ := hc j p hj
  refine ⟨c, h1, h2, fun i u hu => ?_⟩
  have hq := h3 i u hu
  have hb := hk _ (World.block_lt_of_cell? w _ hq) (fun es cl hm => by simp [World.cell?, hm] at hq)
  simpa [World.cell?, hb] using hq
section
variable {P : Program} {k e t : TypeId} {w w' : World} {b n : Nat} {cnt : Value → Option Int}
variable {ops : Array Oper} {rest : List Oper} {o : Oper} {a : Act} {Q : Exit → Act → World → Prop}
theorem wpList_lookV (hg : o.guard = none) (m x : Operand) (t : TypeId) (hop : o.op = Op.lookup t m x false) (k e : TypeId) (K : Keyed P k) (ht : P.underlying t = some (.map k e)) (hz : (zeroValue e).run P w = .ok (.int .i64 0) w) (b n : Nat) (cnt : Value → Option Int)
    (hm : a.eval m = .map (some b)) (hown : HasMap P k w b n cnt) (key : Value) (kl : Lit) (hx : a.eval x = key) (hkey : keyOf P k key = some kl) (r : Int) (hr : (cnt key).getD 0 = r) (hK : wpList P ops Q rest (a.put o.dst (.int .i64 r)) w) :
    wpList P ops Q (o :: rest) a w := by subst hr; exact wpList_look hg m x t hop k e K ht hz b n cnt hm hown key kl hx hkey hK
end
end Go.Proofs.YtpbkdeelkpjccaaDoor.G
