/- Merged by merge.py out of: HrightB. -/
import Derived.Test.YtpbkdeelkpjccaaDoorM12
namespace Go.Proofs.YtpbkdeelkpjccaaDoor.G
open Go.RowKit Go.Proofs.YtpbkdeelkpjccaaDoorW.PrintWords
set_option linter.unusedVariables false
set_option linter.unusedSimpArgs false
set_option maxHeartbeats 2000000 in
theorem right_k2as (g : List S34) (A : Option Addr) (c : Nat) (x : S34) (A3 : Option Addr) (c3 : Nat) (w : World) (R : RightAt g A c x A3 c3 w) (h : (x.f3.all fun i => hasB g.length i) = true) (hk : (x.f0 == 0) = false) (hk1 : (x.f0 == 1) = false) (hk2 : (x.f0 == 2) = true) (hm : ((x.f3.length : Int) % 2 != 0) = false) (ht : tagB x.f1 = true) (hco : coreL x.f1.toList = false) (hst : ((evens x.f3).any fun i => (rd_T34 g i).f0 != 0) = true) :
    Calls Tryd.prog 29 #[.slice A g.length c, .agg #[.int .i64 x.f0, .string x.f1, .string x.f2, .slice A3 x.f3.length c3]] w fun e w' => e = .returned (.bool false) ∧ Below w.heap.size w w' := by
  have hb0 := boxes_below g A c x A3 c3 w
  have hcB := boxes_cell g A c x A3 c3 w
  have R0 := R.below hb0
  have hfar := R0.far g A c x A3 c3 _ w.heap.size hcB
  rw [h] at hfar
  simp only [Bool.not_true] at hfar
  have HB0 := Aside0.mk hb0
  clear hb0
  have HR := Aside0.mk R0
  have hfit := R.fit
  obtain ⟨hs1, hs2, hs3⟩ := hfit
  have HS1 := Aside0.mk hs1
  have HS2 := Aside0.mk hs2
  clear hs1 hs2
  have HALL := Aside0.mk h
  clear R R0 hcB
  clear h
  have cT := fun W => tag_Right.calls x.f1 _ W (tagRight_f _)
  rw [ht] at cT
  clear ht
  have cC := fun W => tag_Core.calls x.f1 _ W (core_f _)
  rw [hco] at cC
  clear hco
  have hSTR := fun W hR hB A' c' hr => RightAt.strange g A c x A3 c3 W hR HALL.out w.heap.size hB A' c' hr
  rw [hst] at hSTR
  clear hst
  go_enter Tryd.func29, Tryd.ntmps29
  go_wp2_with fail
  refine hfar.mono ?_
  rintro e w1 ⟨rfl, hb1⟩
  clear hfar
  obtain ⟨hc1, hf1⟩ := bcell hb1
  have R1 := Aside0.mk (HR.out.below hb1)
  have hz1 : w.heap.size + 1 < w1.heap.size := by have := hb1.size; simp at this; omega
  have hz0 : w.heap.size < w1.heap.size := by omega
  have HK3 : ∀ W, Below w1.heap.size w1 W → Kd.C (Kd.int .i64) W A3 x.f3.length x.f3 := fun W hb => Kd.C_below R1.out.h3 hb
  go_wp2_with (first | (go_at_call 49; refine (cT _).mono ?_; rintro e w2 ⟨rfl, hb2⟩; obtain ⟨hc2, hf2⟩ := bcell hb2; have hz2 : w.heap.size + 1 < w2.heap.size := (by have := hb2.size; omega); have hz3 : w.heap.size < w2.heap.size := (by omega)) | (go_at_call 57; refine (cC _).mono ?_; rintro e w3 ⟨rfl, ⟨q3, rfl⟩⟩) | (go_at_call 59; refine (keys_any x.f0 x.f1 x.f2 A3 c3 x.f3 hs3 _ ?hr ?hcc).mono ?_; (case hr => exact HK3 _ (by repeat (first | exact hb2 | apply pw_below_drewN))); (case hcc => exact HR.out.h3c); rintro e w4 ⟨A4, c4, rfl, hl4, hC4, hb4⟩; have hc4 : ∀ b o, b < w2.heap.size → w4.cell? ⟨b, o, none⟩ = w2.cell? ⟨b, o, none⟩ := (fun b o h => by first | exact hb4.cell (p := ⟨b, o, none⟩) h | exact (hb4.cell (p := ⟨b, o, none⟩) (by simpa using h)).trans (by rw [World.cell?_drewN])); have hz4 : w.heap.size + 1 < w4.heap.size := (by have := hb4.size; first | omega | (simp at this; omega)); have hz5 : w.heap.size < w4.heap.size := (by omega); have H4 := Aside0.mk hC4; clear hC4; have hB4 : w4.cell? ⟨w.heap.size, 0, none⟩ = some (.slice A g.length c) := (by rw [hc4 _ _ (by simpa using hz3)]; rw [hc2 _ _ (by simpa using hz0), hc1 _ _ (by simp; omega)]; exact boxes_cell g A c x A3 c3 w)) | (go_at_call 34; refine (hSTR _ ?hR ?hBc A4 c4 H4.out).mono ?_; (case hR => exact R1.out.below (by first | exact below_then hb2 hb2.size hb4 | exact below_then (pw_below_drewN hb2 _) (pw_below_drewN hb2 _).size hb4)); (case hBc => exact hB4); rintro e w5 ⟨rfl, hb5⟩; obtain ⟨hc5, hf5⟩ := bcell hb5; have hz6 : w.heap.size + 1 < w5.heap.size := (by have := hb5.size; omega)))
  go_ret
  exact ⟨by first | rfl | simp, below_then (below_then (pw_below_drewN (below_then (below_then HB0.out HB0.out.size hb1) (below_then HB0.out HB0.out.size hb1).size hb2) _) (pw_below_drewN (below_then (below_then HB0.out HB0.out.size hb1) (below_then HB0.out HB0.out.size hb1).size hb2) _).size hb4) (below_then (pw_below_drewN (below_then (below_then HB0.out HB0.out.size hb1) (below_then HB0.out HB0.out.size hb1).size hb2) _) (pw_below_drewN (below_then (below_then HB0.out HB0.out.size hb1) (below_then HB0.out HB0.out.size hb1).size hb2) _).size hb4).size hb5⟩
set_option maxHeartbeats 2000000 in
theorem right_k2a (g : List S34) (A : Option Addr) (c : Nat) (x : S34) (A3 : Option Addr) (c3 : Nat) (w : World) (R : RightAt g A c x A3 c3 w) (h : (x.f3.all fun i => hasB g.length i) = true) (hk : (x.f0 == 0) = false) (hk1 : (x.f0 == 1) = false) (hk2 : (x.f0 == 2) = true) (hm : ((x.f3.length : Int) % 2 != 0) = false) (ht : tagB x.f1 = true) (hco : coreL x.f1.toList = false) (hst : ((evens x.f3).any fun i => (rd_T34 g i).f0 != 0) = false) :
    Calls Tryd.prog 29 #[.slice A g.length c, .agg #[.int .i64 x.f0, .string x.f1, .string x.f2, .slice A3 x.f3.length c3]] w fun e w' => e = .returned (.bool x.f2.toList.isEmpty) ∧ Below w.heap.size w w' := by
  have hb0 := boxes_below g A c x A3 c3 w
  have hcB := boxes_cell g A c x A3 c3 w
  have R0 := R.below hb0
  have hfar := R0.far g A c x A3 c3 _ w.heap.size hcB
  rw [h] at hfar
  simp only [Bool.not_true] at hfar
  have HB0 := Aside0.mk hb0
  clear hb0
  have HR := Aside0.mk R0
  have hfit := R.fit
  obtain ⟨hs1, hs2, hs3⟩ := hfit
  have HS1 := Aside0.mk hs1
  have HS2 := Aside0.mk hs2
  clear hs1 hs2
  have HALL := Aside0.mk h
  clear R R0 hcB
  clear h
  have cT := fun W => tag_Right.calls x.f1 _ W (tagRight_f _)
  rw [ht] at cT
  clear ht
  have cC := fun W => tag_Core.calls x.f1 _ W (core_f _)
  rw [hco] at cC
  clear hco
  have hSTR := fun W hR hB A' c' hr => RightAt.strange g A c x A3 c3 W hR HALL.out w.heap.size hB A' c' hr
  rw [hst] at hSTR
  clear hst
  go_enter Tryd.func29, Tryd.ntmps29
  go_wp2_with fail
  refine hfar.mono ?_
  rintro e w1 ⟨rfl, hb1⟩
  clear hfar
  obtain ⟨hc1, hf1⟩ := bcell hb1
  have R1 := Aside0.mk (HR.out.below hb1)
  have hz1 : w.heap.size + 1 < w1.heap.size := by have := hb1.size; simp at this; omega
  have hz0 : w.heap.size < w1.heap.size := by omega
  have HK3 : ∀ W, Below w1.heap.size w1 W → Kd.C (Kd.int .i64) W A3 x.f3.length x.f3 := fun W hb => Kd.C_below R1.out.h3 hb
  go_wp2_with (first | (go_at_call 49; refine (cT _).mono ?_; rintro e w2 ⟨rfl, hb2⟩; obtain ⟨hc2, hf2⟩ := bcell hb2; have hz2 : w.heap.size + 1 < w2.heap.size := (by have := hb2.size; omega); have hz3 : w.heap.size < w2.heap.size := (by omega)) | (go_at_call 57; refine (cC _).mono ?_; rintro e w3 ⟨rfl, ⟨q3, rfl⟩⟩) | (go_at_call 59; refine (keys_any x.f0 x.f1 x.f2 A3 c3 x.f3 hs3 _ ?hr ?hcc).mono ?_; (case hr => exact HK3 _ (by repeat (first | exact hb2 | apply pw_below_drewN))); (case hcc => exact HR.out.h3c); rintro e w4 ⟨A4, c4, rfl, hl4, hC4, hb4⟩; have hc4 : ∀ b o, b < w2.heap.size → w4.cell? ⟨b, o, none⟩ = w2.cell? ⟨b, o, none⟩ := (fun b o h => by first | exact hb4.cell (p := ⟨b, o, none⟩) h | exact (hb4.cell (p := ⟨b, o, none⟩) (by simpa using h)).trans (by rw [World.cell?_drewN])); have hz4 : w.heap.size + 1 < w4.heap.size := (by have := hb4.size; first | omega | (simp at this; omega)); have hz5 : w.heap.size < w4.heap.size := (by omega); have H4 := Aside0.mk hC4; clear hC4; have hB4 : w4.cell? ⟨w.heap.size, 0, none⟩ = some (.slice A g.length c) := (by rw [hc4 _ _ (by simpa using hz3)]; rw [hc2 _ _ (by simpa using hz0), hc1 _ _ (by simp; omega)]; exact boxes_cell g A c x A3 c3 w)) | (go_at_call 34; refine (hSTR _ ?hR ?hBc A4 c4 H4.out).mono ?_; (case hR => exact R1.out.below (by first | exact below_then hb2 hb2.size hb4 | exact below_then (pw_below_drewN hb2 _) (pw_below_drewN hb2 _).size hb4)); (case hBc => exact hB4); rintro e w5 ⟨rfl, hb5⟩; obtain ⟨hc5, hf5⟩ := bcell hb5; have hz6 : w.heap.size + 1 < w5.heap.size := (by have := hb5.size; omega)))
  go_ret
  exact ⟨by first | rfl | simp, below_then (below_then (pw_below_drewN (below_then (below_then HB0.out HB0.out.size hb1) (below_then HB0.out HB0.out.size hb1).size hb2) _) (pw_below_drewN (below_then (below_then HB0.out HB0.out.size hb1) (below_then HB0.out HB0.out.size hb1).size hb2) _).size hb4) (below_then (pw_below_drewN (below_then (below_then HB0.out HB0.out.size hb1) (below_then HB0.out HB0.out.size hb1).size hb2) _) (pw_below_drewN (below_then (below_then HB0.out HB0.out.size hb1) (below_then HB0.out HB0.out.size hb1).size hb2) _).size hb4).size hb5⟩
set_option maxHeartbeats 2000000 in
theorem right_k2bs (g : List S34) (A : Option Addr) (c : Nat) (x : S34) (A3 : Option Addr) (c3 : Nat) (w : World) (R : RightAt g A c x A3 c3 w) (h : (x.f3.all fun i => hasB g.length i) = true) (hk : (x.f0 == 0) = false) (hk1 : (x.f0 == 1) = false) (hk2 : (x.f0 == 2) = true) (hm : ((x.f3.length : Int) % 2 != 0) = false) (ht : tagB x.f1 = true) (hco : coreL x.f1.toList = true) (hst : ((evens x.f3).any fun i => (rd_T34 g i).f0 != 0) = true) :
    Calls Tryd.prog 29 #[.slice A g.length c, .agg #[.int .i64 x.f0, .string x.f1, .string x.f2, .slice A3 x.f3.length c3]] w fun e w' => e = .returned (.bool false) ∧ Below w.heap.size w w' := by
  have hb0 := boxes_below g A c x A3 c3 w
  have hcB := boxes_cell g A c x A3 c3 w
  have R0 := R.below hb0
  have hfar := R0.far g A c x A3 c3 _ w.heap.size hcB
  rw [h] at hfar
  simp only [Bool.not_true] at hfar
  have HB0 := Aside0.mk hb0
  clear hb0
  have HR := Aside0.mk R0
  have hfit := R.fit
  obtain ⟨hs1, hs2, hs3⟩ := hfit
  have HS1 := Aside0.mk hs1
  have HS2 := Aside0.mk hs2
  clear hs1 hs2
  have HALL := Aside0.mk h
  clear R R0 hcB
  clear h
  have cT := fun W => tag_Right.calls x.f1 _ W (tagRight_f _)
  rw [ht] at cT
  clear ht
  have cC := fun W => tag_Core.calls x.f1 _ W (core_f _)
  rw [hco] at cC
  clear hco
  have hSTR := fun W hR hB A' c' hr => RightAt.strange g A c x A3 c3 W hR HALL.out w.heap.size hB A' c' hr
  rw [hst] at hSTR
  clear hst
  go_enter Tryd.func29, Tryd.ntmps29
  go_wp2_with fail
  refine hfar.mono ?_
  rintro e w1 ⟨rfl, hb1⟩
  clear hfar
  obtain ⟨hc1, hf1⟩ := bcell hb1
  have R1 := Aside0.mk (HR.out.below hb1)
  have hz1 : w.heap.size + 1 < w1.heap.size := by have := hb1.size; simp at this; omega
  have hz0 : w.heap.size < w1.heap.size := by omega
  have HK3 : ∀ W, Below w1.heap.size w1 W → Kd.C (Kd.int .i64) W A3 x.f3.length x.f3 := fun W hb => Kd.C_below R1.out.h3 hb
  go_wp2_with (first | (go_at_call 49; refine (cT _).mono ?_; rintro e w2 ⟨rfl, hb2⟩; obtain ⟨hc2, hf2⟩ := bcell hb2; have hz2 : w.heap.size + 1 < w2.heap.size := (by have := hb2.size; omega); have hz3 : w.heap.size < w2.heap.size := (by omega)) | (go_at_call 57; refine (cC _).mono ?_; rintro e w3 ⟨rfl, ⟨q3, rfl⟩⟩) | (go_at_call 59; refine (keys_any x.f0 x.f1 x.f2 A3 c3 x.f3 hs3 _ ?hr ?hcc).mono ?_; (case hr => exact HK3 _ (by repeat (first | exact hb2 | apply pw_below_drewN))); (case hcc => exact HR.out.h3c); rintro e w4 ⟨A4, c4, rfl, hl4, hC4, hb4⟩; have hc4 : ∀ b o, b < w2.heap.size → w4.cell? ⟨b, o, none⟩ = w2.cell? ⟨b, o, none⟩ := (fun b o h => by first | exact hb4.cell (p := ⟨b, o, none⟩) h | exact (hb4.cell (p := ⟨b, o, none⟩) (by simpa using h)).trans (by rw [World.cell?_drewN])); have hz4 : w.heap.size + 1 < w4.heap.size := (by have := hb4.size; first | omega | (simp at this; omega)); have hz5 : w.heap.size < w4.heap.size := (by omega); have H4 := Aside0.mk hC4; clear hC4; have hB4 : w4.cell? ⟨w.heap.size, 0, none⟩ = some (.slice A g.length c) := (by rw [hc4 _ _ (by simpa using hz3)]; rw [hc2 _ _ (by simpa using hz0), hc1 _ _ (by simp; omega)]; exact boxes_cell g A c x A3 c3 w)) | (go_at_call 34; refine (hSTR _ ?hR ?hBc A4 c4 H4.out).mono ?_; (case hR => exact R1.out.below (by first | exact below_then hb2 hb2.size hb4 | exact below_then (pw_below_drewN hb2 _) (pw_below_drewN hb2 _).size hb4)); (case hBc => exact hB4); rintro e w5 ⟨rfl, hb5⟩; obtain ⟨hc5, hf5⟩ := bcell hb5; have hz6 : w.heap.size + 1 < w5.heap.size := (by have := hb5.size; omega)))
  go_ret
  exact ⟨by first | rfl | simp, below_then (below_then (pw_below_drewN (below_then (below_then HB0.out HB0.out.size hb1) (below_then HB0.out HB0.out.size hb1).size hb2) _) (pw_below_drewN (below_then (below_then HB0.out HB0.out.size hb1) (below_then HB0.out HB0.out.size hb1).size hb2) _).size hb4) (below_then (pw_below_drewN (below_then (below_then HB0.out HB0.out.size hb1) (below_then HB0.out HB0.out.size hb1).size hb2) _) (pw_below_drewN (below_then (below_then HB0.out HB0.out.size hb1) (below_then HB0.out HB0.out.size hb1).size hb2) _).size hb4).size hb5⟩
set_option maxHeartbeats 2000000 in
theorem right_k2bt (g : List S34) (A : Option Addr) (c : Nat) (x : S34) (A3 : Option Addr) (c3 : Nat) (w : World) (R : RightAt g A c x A3 c3 w) (h : (x.f3.all fun i => hasB g.length i) = true) (hk : (x.f0 == 0) = false) (hk1 : (x.f0 == 1) = false) (hk2 : (x.f0 == 2) = true) (hm : ((x.f3.length : Int) % 2 != 0) = false) (ht : tagB x.f1 = true) (hco : coreL x.f1.toList = true) (hst : ((evens x.f3).any fun i => (rd_T34 g i).f0 != 0) = false) (hg : (x.f1.toList == [109, 97, 112]) = true) :
    Calls Tryd.prog 29 #[.slice A g.length c, .agg #[.int .i64 x.f0, .string x.f1, .string x.f2, .slice A3 x.f3.length c3]] w fun e w' => e = .returned (.bool x.f2.toList.isEmpty) ∧ Below w.heap.size w w' := by
  have hb0 := boxes_below g A c x A3 c3 w
  have hcB := boxes_cell g A c x A3 c3 w
  have R0 := R.below hb0
  have hfar := R0.far g A c x A3 c3 _ w.heap.size hcB
  rw [h] at hfar
  simp only [Bool.not_true] at hfar
  have HB0 := Aside0.mk hb0
  clear hb0
  have HR := Aside0.mk R0
  have hfit := R.fit
  obtain ⟨hs1, hs2, hs3⟩ := hfit
  have HS1 := Aside0.mk hs1
  have HS2 := Aside0.mk hs2
  clear hs1 hs2
  have HALL := Aside0.mk h
  clear R R0 hcB
  clear h
  have cT := fun W => tag_Right.calls x.f1 _ W (tagRight_f _)
  rw [ht] at cT
  clear ht
  have cC := fun W => tag_Core.calls x.f1 _ W (core_f _)
  rw [hco] at cC
  clear hco
  have hSTR := fun W hR hB A' c' hr => RightAt.strange g A c x A3 c3 W hR HALL.out w.heap.size hB A' c' hr
  rw [hst] at hSTR
  clear hst
  go_enter Tryd.func29, Tryd.ntmps29
  go_wp2_with fail
  refine hfar.mono ?_
  rintro e w1 ⟨rfl, hb1⟩
  clear hfar
  obtain ⟨hc1, hf1⟩ := bcell hb1
  have R1 := Aside0.mk (HR.out.below hb1)
  have hz1 : w.heap.size + 1 < w1.heap.size := by have := hb1.size; simp at this; omega
  have hz0 : w.heap.size < w1.heap.size := by omega
  have HK3 : ∀ W, Below w1.heap.size w1 W → Kd.C (Kd.int .i64) W A3 x.f3.length x.f3 := fun W hb => Kd.C_below R1.out.h3 hb
  go_wp2_with (first | (go_at_call 49; refine (cT _).mono ?_; rintro e w2 ⟨rfl, hb2⟩; obtain ⟨hc2, hf2⟩ := bcell hb2; have hz2 : w.heap.size + 1 < w2.heap.size := (by have := hb2.size; omega); have hz3 : w.heap.size < w2.heap.size := (by omega)) | (go_at_call 57; refine (cC _).mono ?_; rintro e w3 ⟨rfl, ⟨q3, rfl⟩⟩) | (go_at_call 59; refine (keys_any x.f0 x.f1 x.f2 A3 c3 x.f3 hs3 _ ?hr ?hcc).mono ?_; (case hr => exact HK3 _ (by repeat (first | exact hb2 | apply pw_below_drewN))); (case hcc => exact HR.out.h3c); rintro e w4 ⟨A4, c4, rfl, hl4, hC4, hb4⟩; have hc4 : ∀ b o, b < w2.heap.size → w4.cell? ⟨b, o, none⟩ = w2.cell? ⟨b, o, none⟩ := (fun b o h => by first | exact hb4.cell (p := ⟨b, o, none⟩) h | exact (hb4.cell (p := ⟨b, o, none⟩) (by simpa using h)).trans (by rw [World.cell?_drewN])); have hz4 : w.heap.size + 1 < w4.heap.size := (by have := hb4.size; first | omega | (simp at this; omega)); have hz5 : w.heap.size < w4.heap.size := (by omega); have H4 := Aside0.mk hC4; clear hC4; have hB4 : w4.cell? ⟨w.heap.size, 0, none⟩ = some (.slice A g.length c) := (by rw [hc4 _ _ (by simpa using hz3)]; rw [hc2 _ _ (by simpa using hz0), hc1 _ _ (by simp; omega)]; exact boxes_cell g A c x A3 c3 w)) | (go_at_call 34; refine (hSTR _ ?hR ?hBc A4 c4 H4.out).mono ?_; (case hR => exact R1.out.below (by first | exact below_then hb2 hb2.size hb4 | exact below_then (pw_below_drewN hb2 _) (pw_below_drewN hb2 _).size hb4)); (case hBc => exact hB4); rintro e w5 ⟨rfl, hb5⟩; obtain ⟨hc5, hf5⟩ := bcell hb5; have hz6 : w.heap.size + 1 < w5.heap.size := (by have := hb5.size; omega)))
  go_ret
  exact ⟨by first | rfl | simp, below_then (below_then (pw_below_drewN (below_then (below_then HB0.out HB0.out.size hb1) (below_then HB0.out HB0.out.size hb1).size hb2) _) (pw_below_drewN (below_then (below_then HB0.out HB0.out.size hb1) (below_then HB0.out HB0.out.size hb1).size hb2) _).size hb4) (below_then (pw_below_drewN (below_then (below_then HB0.out HB0.out.size hb1) (below_then HB0.out HB0.out.size hb1).size hb2) _) (pw_below_drewN (below_then (below_then HB0.out HB0.out.size hb1) (below_then HB0.out HB0.out.size hb1).size hb2) _).size hb4).size hb5⟩
set_option maxHeartbeats 2000000 in
theorem right_k2bf (g : List S34) (A : Option Addr) (c : Nat) (x : S34) (A3 : Option Addr) (c3 : Nat) (w : World) (R : RightAt g A c x A3 c3 w) (h : (x.f3.all fun i => hasB g.length i) = true) (hk : (x.f0 == 0) = false) (hk1 : (x.f0 == 1) = false) (hk2 : (x.f0 == 2) = true) (hm : ((x.f3.length : Int) % 2 != 0) = false) (ht : tagB x.f1 = true) (hco : coreL x.f1.toList = true) (hst : ((evens x.f3).any fun i => (rd_T34 g i).f0 != 0) = false) (hg : (x.f1.toList == [109, 97, 112]) = false) :
    Calls Tryd.prog 29 #[.slice A g.length c, .agg #[.int .i64 x.f0, .string x.f1, .string x.f2, .slice A3 x.f3.length c3]] w fun e w' => e = .returned (.bool false) ∧ Below w.heap.size w w' := by
  have hb0 := boxes_below g A c x A3 c3 w
  have hcB := boxes_cell g A c x A3 c3 w
  have R0 := R.below hb0
  have hfar := R0.far g A c x A3 c3 _ w.heap.size hcB
  rw [h] at hfar
  simp only [Bool.not_true] at hfar
  have HB0 := Aside0.mk hb0
  clear hb0
  have HR := Aside0.mk R0
  have hfit := R.fit
  obtain ⟨hs1, hs2, hs3⟩ := hfit
  have HS1 := Aside0.mk hs1
  have HS2 := Aside0.mk hs2
  clear hs1 hs2
  have HALL := Aside0.mk h
  clear R R0 hcB
  clear h
  have cT := fun W => tag_Right.calls x.f1 _ W (tagRight_f _)
  rw [ht] at cT
  clear ht
  have cC := fun W => tag_Core.calls x.f1 _ W (core_f _)
  rw [hco] at cC
  clear hco
  have hSTR := fun W hR hB A' c' hr => RightAt.strange g A c x A3 c3 W hR HALL.out w.heap.size hB A' c' hr
  rw [hst] at hSTR
  clear hst
  go_enter Tryd.func29, Tryd.ntmps29
  go_wp2_with fail
  refine hfar.mono ?_
  rintro e w1 ⟨rfl, hb1⟩
  clear hfar
  obtain ⟨hc1, hf1⟩ := bcell hb1
  have R1 := Aside0.mk (HR.out.below hb1)
  have hz1 : w.heap.size + 1 < w1.heap.size := by have := hb1.size; simp at this; omega
  have hz0 : w.heap.size < w1.heap.size := by omega
  have HK3 : ∀ W, Below w1.heap.size w1 W → Kd.C (Kd.int .i64) W A3 x.f3.length x.f3 := fun W hb => Kd.C_below R1.out.h3 hb
  go_wp2_with (first | (go_at_call 49; refine (cT _).mono ?_; rintro e w2 ⟨rfl, hb2⟩; obtain ⟨hc2, hf2⟩ := bcell hb2; have hz2 : w.heap.size + 1 < w2.heap.size := (by have := hb2.size; omega); have hz3 : w.heap.size < w2.heap.size := (by omega)) | (go_at_call 57; refine (cC _).mono ?_; rintro e w3 ⟨rfl, ⟨q3, rfl⟩⟩) | (go_at_call 59; refine (keys_any x.f0 x.f1 x.f2 A3 c3 x.f3 hs3 _ ?hr ?hcc).mono ?_; (case hr => exact HK3 _ (by repeat (first | exact hb2 | apply pw_below_drewN))); (case hcc => exact HR.out.h3c); rintro e w4 ⟨A4, c4, rfl, hl4, hC4, hb4⟩; have hc4 : ∀ b o, b < w2.heap.size → w4.cell? ⟨b, o, none⟩ = w2.cell? ⟨b, o, none⟩ := (fun b o h => by first | exact hb4.cell (p := ⟨b, o, none⟩) h | exact (hb4.cell (p := ⟨b, o, none⟩) (by simpa using h)).trans (by rw [World.cell?_drewN])); have hz4 : w.heap.size + 1 < w4.heap.size := (by have := hb4.size; first | omega | (simp at this; omega)); have hz5 : w.heap.size < w4.heap.size := (by omega); have H4 := Aside0.mk hC4; clear hC4; have hB4 : w4.cell? ⟨w.heap.size, 0, none⟩ = some (.slice A g.length c) := (by rw [hc4 _ _ (by simpa using hz3)]; rw [hc2 _ _ (by simpa using hz0), hc1 _ _ (by simp; omega)]; exact boxes_cell g A c x A3 c3 w)) | (go_at_call 34; refine (hSTR _ ?hR ?hBc A4 c4 H4.out).mono ?_; (case hR => exact R1.out.below (by first | exact below_then hb2 hb2.size hb4 | exact below_then (pw_below_drewN hb2 _) (pw_below_drewN hb2 _).size hb4)); (case hBc => exact hB4); rintro e w5 ⟨rfl, hb5⟩; obtain ⟨hc5, hf5⟩ := bcell hb5; have hz6 : w.heap.size + 1 < w5.heap.size := (by have := hb5.size; omega)))
  go_ret
  exact ⟨by first | rfl | simp, below_then (below_then (pw_below_drewN (below_then (below_then HB0.out HB0.out.size hb1) (below_then HB0.out HB0.out.size hb1).size hb2) _) (pw_below_drewN (below_then (below_then HB0.out HB0.out.size hb1) (below_then HB0.out HB0.out.size hb1).size hb2) _).size hb4) (below_then (pw_below_drewN (below_then (below_then HB0.out HB0.out.size hb1) (below_then HB0.out HB0.out.size hb1).size hb2) _) (pw_below_drewN (below_then (below_then HB0.out HB0.out.size hb1) (below_then HB0.out HB0.out.size hb1).size hb2) _).size hb4).size hb5⟩
set_option maxHeartbeats 2000000 in
theorem right_k2cs (g : List S34) (A : Option Addr) (c : Nat) (x : S34) (A3 : Option Addr) (c3 : Nat) (w : World) (R : RightAt g A c x A3 c3 w) (h : (x.f3.all fun i => hasB g.length i) = true) (hk : (x.f0 == 0) = false) (hk1 : (x.f0 == 1) = false) (hk2 : (x.f0 == 2) = true) (hm : ((x.f3.length : Int) % 2 != 0) = false) (ht : tagB x.f1 = false) (hst : ((evens x.f3).any fun i => (rd_T34 g i).f0 != 0) = true) :
    Calls Tryd.prog 29 #[.slice A g.length c, .agg #[.int .i64 x.f0, .string x.f1, .string x.f2, .slice A3 x.f3.length c3]] w fun e w' => e = .returned (.bool false) ∧ Below w.heap.size w w' := by
  have hb0 := boxes_below g A c x A3 c3 w
  have hcB := boxes_cell g A c x A3 c3 w
  have R0 := R.below hb0
  have hfar := R0.far g A c x A3 c3 _ w.heap.size hcB
  rw [h] at hfar
  simp only [Bool.not_true] at hfar
  have HB0 := Aside0.mk hb0
  clear hb0
  have HR := Aside0.mk R0
  have hfit := R.fit
  obtain ⟨hs1, hs2, hs3⟩ := hfit
  have HS1 := Aside0.mk hs1
  have HS2 := Aside0.mk hs2
  clear hs1 hs2
  have HALL := Aside0.mk h
  clear R R0 hcB
  clear h
  have cT := fun W => tag_Right.calls x.f1 _ W (tagRight_f _)
  rw [ht] at cT
  clear ht
  have hSTR := fun W hR hB A' c' hr => RightAt.strange g A c x A3 c3 W hR HALL.out w.heap.size hB A' c' hr
  rw [hst] at hSTR
  clear hst
  go_enter Tryd.func29, Tryd.ntmps29
  go_wp2_with fail
  refine hfar.mono ?_
  rintro e w1 ⟨rfl, hb1⟩
  clear hfar
  obtain ⟨hc1, hf1⟩ := bcell hb1
  have R1 := Aside0.mk (HR.out.below hb1)
  have hz1 : w.heap.size + 1 < w1.heap.size := by have := hb1.size; simp at this; omega
  have hz0 : w.heap.size < w1.heap.size := by omega
  have HK3 : ∀ W, Below w1.heap.size w1 W → Kd.C (Kd.int .i64) W A3 x.f3.length x.f3 := fun W hb => Kd.C_below R1.out.h3 hb
  go_wp2_with (first | (go_at_call 49; refine (cT _).mono ?_; rintro e w2 ⟨rfl, hb2⟩; obtain ⟨hc2, hf2⟩ := bcell hb2; have hz2 : w.heap.size + 1 < w2.heap.size := (by have := hb2.size; omega); have hz3 : w.heap.size < w2.heap.size := (by omega)) | (go_at_call 59; refine (keys_any x.f0 x.f1 x.f2 A3 c3 x.f3 hs3 _ ?hr ?hcc).mono ?_; (case hr => exact HK3 _ (by repeat (first | exact hb2 | apply pw_below_drewN))); (case hcc => exact HR.out.h3c); rintro e w4 ⟨A4, c4, rfl, hl4, hC4, hb4⟩; have hc4 : ∀ b o, b < w2.heap.size → w4.cell? ⟨b, o, none⟩ = w2.cell? ⟨b, o, none⟩ := (fun b o h => by first | exact hb4.cell (p := ⟨b, o, none⟩) h | exact (hb4.cell (p := ⟨b, o, none⟩) (by simpa using h)).trans (by rw [World.cell?_drewN])); have hz4 : w.heap.size + 1 < w4.heap.size := (by have := hb4.size; first | omega | (simp at this; omega)); have hz5 : w.heap.size < w4.heap.size := (by omega); have H4 := Aside0.mk hC4; clear hC4; have hB4 : w4.cell? ⟨w.heap.size, 0, none⟩ = some (.slice A g.length c) := (by rw [hc4 _ _ (by simpa using hz3)]; rw [hc2 _ _ (by simpa using hz0), hc1 _ _ (by simp; omega)]; exact boxes_cell g A c x A3 c3 w)) | (go_at_call 34; refine (hSTR _ ?hR ?hBc A4 c4 H4.out).mono ?_; (case hR => exact R1.out.below (by first | exact below_then hb2 hb2.size hb4 | exact below_then (pw_below_drewN hb2 _) (pw_below_drewN hb2 _).size hb4)); (case hBc => exact hB4); rintro e w5 ⟨rfl, hb5⟩; obtain ⟨hc5, hf5⟩ := bcell hb5; have hz6 : w.heap.size + 1 < w5.heap.size := (by have := hb5.size; omega)))
  go_ret
  exact ⟨by first | rfl | simp, below_then (below_then (below_then (below_then HB0.out HB0.out.size hb1) (below_then HB0.out HB0.out.size hb1).size hb2) (below_then (below_then HB0.out HB0.out.size hb1) (below_then HB0.out HB0.out.size hb1).size hb2).size hb4) (below_then (below_then (below_then HB0.out HB0.out.size hb1) (below_then HB0.out HB0.out.size hb1).size hb2) (below_then (below_then HB0.out HB0.out.size hb1) (below_then HB0.out HB0.out.size hb1).size hb2).size hb4).size hb5⟩
set_option maxHeartbeats 2000000 in
theorem right_k2ct (g : List S34) (A : Option Addr) (c : Nat) (x : S34) (A3 : Option Addr) (c3 : Nat) (w : World) (R : RightAt g A c x A3 c3 w) (h : (x.f3.all fun i => hasB g.length i) = true) (hk : (x.f0 == 0) = false) (hk1 : (x.f0 == 1) = false) (hk2 : (x.f0 == 2) = true) (hm : ((x.f3.length : Int) % 2 != 0) = false) (ht : tagB x.f1 = false) (hst : ((evens x.f3).any fun i => (rd_T34 g i).f0 != 0) = false) (hg : (x.f1.toList == [109, 97, 112]) = true) :
    Calls Tryd.prog 29 #[.slice A g.length c, .agg #[.int .i64 x.f0, .string x.f1, .string x.f2, .slice A3 x.f3.length c3]] w fun e w' => e = .returned (.bool x.f2.toList.isEmpty) ∧ Below w.heap.size w w' := by
  have hb0 := boxes_below g A c x A3 c3 w
  have hcB := boxes_cell g A c x A3 c3 w
  have R0 := R.below hb0
  have hfar := R0.far g A c x A3 c3 _ w.heap.size hcB
  rw [h] at hfar
  simp only [Bool.not_true] at hfar
  have HB0 := Aside0.mk hb0
  clear hb0
  have HR := Aside0.mk R0
  have hfit := R.fit
  obtain ⟨hs1, hs2, hs3⟩ := hfit
  have HS1 := Aside0.mk hs1
  have HS2 := Aside0.mk hs2
  clear hs1 hs2
  have HALL := Aside0.mk h
  clear R R0 hcB
  clear h
  have cT := fun W => tag_Right.calls x.f1 _ W (tagRight_f _)
  rw [ht] at cT
  clear ht
  have hSTR := fun W hR hB A' c' hr => RightAt.strange g A c x A3 c3 W hR HALL.out w.heap.size hB A' c' hr
  rw [hst] at hSTR
  clear hst
  go_enter Tryd.func29, Tryd.ntmps29
  go_wp2_with fail
  refine hfar.mono ?_
  rintro e w1 ⟨rfl, hb1⟩
  clear hfar
  obtain ⟨hc1, hf1⟩ := bcell hb1
  have R1 := Aside0.mk (HR.out.below hb1)
  have hz1 : w.heap.size + 1 < w1.heap.size := by have := hb1.size; simp at this; omega
  have hz0 : w.heap.size < w1.heap.size := by omega
  have HK3 : ∀ W, Below w1.heap.size w1 W → Kd.C (Kd.int .i64) W A3 x.f3.length x.f3 := fun W hb => Kd.C_below R1.out.h3 hb
  go_wp2_with (first | (go_at_call 49; refine (cT _).mono ?_; rintro e w2 ⟨rfl, hb2⟩; obtain ⟨hc2, hf2⟩ := bcell hb2; have hz2 : w.heap.size + 1 < w2.heap.size := (by have := hb2.size; omega); have hz3 : w.heap.size < w2.heap.size := (by omega)) | (go_at_call 59; refine (keys_any x.f0 x.f1 x.f2 A3 c3 x.f3 hs3 _ ?hr ?hcc).mono ?_; (case hr => exact HK3 _ (by repeat (first | exact hb2 | apply pw_below_drewN))); (case hcc => exact HR.out.h3c); rintro e w4 ⟨A4, c4, rfl, hl4, hC4, hb4⟩; have hc4 : ∀ b o, b < w2.heap.size → w4.cell? ⟨b, o, none⟩ = w2.cell? ⟨b, o, none⟩ := (fun b o h => by first | exact hb4.cell (p := ⟨b, o, none⟩) h | exact (hb4.cell (p := ⟨b, o, none⟩) (by simpa using h)).trans (by rw [World.cell?_drewN])); have hz4 : w.heap.size + 1 < w4.heap.size := (by have := hb4.size; first | omega | (simp at this; omega)); have hz5 : w.heap.size < w4.heap.size := (by omega); have H4 := Aside0.mk hC4; clear hC4; have hB4 : w4.cell? ⟨w.heap.size, 0, none⟩ = some (.slice A g.length c) := (by rw [hc4 _ _ (by simpa using hz3)]; rw [hc2 _ _ (by simpa using hz0), hc1 _ _ (by simp; omega)]; exact boxes_cell g A c x A3 c3 w)) | (go_at_call 34; refine (hSTR _ ?hR ?hBc A4 c4 H4.out).mono ?_; (case hR => exact R1.out.below (by first | exact below_then hb2 hb2.size hb4 | exact below_then (pw_below_drewN hb2 _) (pw_below_drewN hb2 _).size hb4)); (case hBc => exact hB4); rintro e w5 ⟨rfl, hb5⟩; obtain ⟨hc5, hf5⟩ := bcell hb5; have hz6 : w.heap.size + 1 < w5.heap.size := (by have := hb5.size; omega)))
  go_ret
  exact ⟨by first | rfl | simp, below_then (below_then (below_then (below_then HB0.out HB0.out.size hb1) (below_then HB0.out HB0.out.size hb1).size hb2) (below_then (below_then HB0.out HB0.out.size hb1) (below_then HB0.out HB0.out.size hb1).size hb2).size hb4) (below_then (below_then (below_then HB0.out HB0.out.size hb1) (below_then HB0.out HB0.out.size hb1).size hb2) (below_then (below_then HB0.out HB0.out.size hb1) (below_then HB0.out HB0.out.size hb1).size hb2).size hb4).size hb5⟩
set_option maxHeartbeats 2000000 in
theorem right_k2cf (g : List S34) (A : Option Addr) (c : Nat) (x : S34) (A3 : Option Addr) (c3 : Nat) (w : World) (R : RightAt g A c x A3 c3 w) (h : (x.f3.all fun i => hasB g.length i) = true) (hk : (x.f0 == 0) = false) (hk1 : (x.f0 == 1) = false) (hk2 : (x.f0 == 2) = true) (hm : ((x.f3.length : Int) % 2 != 0) = false) (ht : tagB x.f1 = false) (hst : ((evens x.f3).any fun i => (rd_T34 g i).f0 != 0) = false) (hg : (x.f1.toList == [109, 97, 112]) = false) :
    Calls Tryd.prog 29 #[.slice A g.length c, .agg #[.int .i64 x.f0, .string x.f1, .string x.f2, .slice A3 x.f3.length c3]] w fun e w' => e = .returned (.bool false) ∧ Below w.heap.size w w' := by
  have hb0 := boxes_below g A c x A3 c3 w
  have hcB := boxes_cell g A c x A3 c3 w
  have R0 := R.below hb0
  have hfar := R0.far g A c x A3 c3 _ w.heap.size hcB
  rw [h] at hfar
  simp only [Bool.not_true] at hfar
  have HB0 := Aside0.mk hb0
  clear hb0
  have HR := Aside0.mk R0
  have hfit := R.fit
  obtain ⟨hs1, hs2, hs3⟩ := hfit
  have HS1 := Aside0.mk hs1
  have HS2 := Aside0.mk hs2
  clear hs1 hs2
  have HALL := Aside0.mk h
  clear R R0 hcB
  clear h
  have cT := fun W => tag_Right.calls x.f1 _ W (tagRight_f _)
  rw [ht] at cT
  clear ht
  have hSTR := fun W hR hB A' c' hr => RightAt.strange g A c x A3 c3 W hR HALL.out w.heap.size hB A' c' hr
  rw [hst] at hSTR
  clear hst
  go_enter Tryd.func29, Tryd.ntmps29
  go_wp2_with fail
  refine hfar.mono ?_
  rintro e w1 ⟨rfl, hb1⟩
  clear hfar
  obtain ⟨hc1, hf1⟩ := bcell hb1
  have R1 := Aside0.mk (HR.out.below hb1)
  have hz1 : w.heap.size + 1 < w1.heap.size := by have := hb1.size; simp at this; omega
  have hz0 : w.heap.size < w1.heap.size := by omega
  have HK3 : ∀ W, Below w1.heap.size w1 W → Kd.C (Kd.int .i64) W A3 x.f3.length x.f3 := fun W hb => Kd.C_below R1.out.h3 hb
  go_wp2_with (first | (go_at_call 49; refine (cT _).mono ?_; rintro e w2 ⟨rfl, hb2⟩; obtain ⟨hc2, hf2⟩ := bcell hb2; have hz2 : w.heap.size + 1 < w2.heap.size := (by have := hb2.size; omega); have hz3 : w.heap.size < w2.heap.size := (by omega)) | (go_at_call 59; refine (keys_any x.f0 x.f1 x.f2 A3 c3 x.f3 hs3 _ ?hr ?hcc).mono ?_; (case hr => exact HK3 _ (by repeat (first | exact hb2 | apply pw_below_drewN))); (case hcc => exact HR.out.h3c); rintro e w4 ⟨A4, c4, rfl, hl4, hC4, hb4⟩; have hc4 : ∀ b o, b < w2.heap.size → w4.cell? ⟨b, o, none⟩ = w2.cell? ⟨b, o, none⟩ := (fun b o h => by first | exact hb4.cell (p := ⟨b, o, none⟩) h | exact (hb4.cell (p := ⟨b, o, none⟩) (by simpa using h)).trans (by rw [World.cell?_drewN])); have hz4 : w.heap.size + 1 < w4.heap.size := (by have := hb4.size; first | omega | (simp at this; omega)); have hz5 : w.heap.size < w4.heap.size := (by omega); have H4 := Aside0.mk hC4; clear hC4; have hB4 : w4.cell? ⟨w.heap.size, 0, none⟩ = some (.slice A g.length c) := (by rw [hc4 _ _ (by simpa using hz3)]; rw [hc2 _ _ (by simpa using hz0), hc1 _ _ (by simp; omega)]; exact boxes_cell g A c x A3 c3 w)) | (go_at_call 34; refine (hSTR _ ?hR ?hBc A4 c4 H4.out).mono ?_; (case hR => exact R1.out.below (by first | exact below_then hb2 hb2.size hb4 | exact below_then (pw_below_drewN hb2 _) (pw_below_drewN hb2 _).size hb4)); (case hBc => exact hB4); rintro e w5 ⟨rfl, hb5⟩; obtain ⟨hc5, hf5⟩ := bcell hb5; have hz6 : w.heap.size + 1 < w5.heap.size := (by have := hb5.size; omega)))
  go_ret
  exact ⟨by first | rfl | simp, below_then (below_then (below_then (below_then HB0.out HB0.out.size hb1) (below_then HB0.out HB0.out.size hb1).size hb2) (below_then (below_then HB0.out HB0.out.size hb1) (below_then HB0.out HB0.out.size hb1).size hb2).size hb4) (below_then (below_then (below_then HB0.out HB0.out.size hb1) (below_then HB0.out HB0.out.size hb1).size hb2) (below_then (below_then HB0.out HB0.out.size hb1) (below_then HB0.out HB0.out.size hb1).size hb2).size hb4).size hb5⟩
theorem right_any (g : List S34) (A : Option Addr) (c : Nat) (x : S34) (A3 : Option Addr) (c3 : Nat) (w : World) (R : RightAt g A c x A3 c3 w) :
    Calls Tryd.prog 29 #[.slice A g.length c, .agg #[.int .i64 x.f0, .string x.f1, .string x.f2, .slice A3 x.f3.length c3]] w fun e w' => e = .returned (.bool (nodeB g x)) ∧ Below w.heap.size w w' := by
  unfold nodeB
  cases h : (x.f3.all fun i => hasB g.length i)
  · rw [if_pos rfl]; exact right_far g A c x A3 c3 w R h
  · rw [if_neg (by simp)]
    by_cases hk : x.f0 = 0
    · rw [if_pos hk]
      have hk' : (x.f0 == 0) = true := by simp [hk]
      by_cases hl : x.f3 = []
      · have hl' : ((x.f3.length : Int) == 0) = true := by simp [hl]
        have he : x.f3.isEmpty = true := by simp [hl]
        rw [he, Bool.true_and]
        cases hv : validB x.f2
        · rw [Bool.false_and]; exact right_k0b g A c x A3 c3 w R h hk' hl' hv
        · rw [Bool.true_and]; exact right_k0c g A c x A3 c3 w R h hk' hl' hv
      · have hl' : ((x.f3.length : Int) == 0) = false := by simp; exact hl
        have he : x.f3.isEmpty = false := by simp [hl]
        rw [he, Bool.false_and]
        exact right_k0a g A c x A3 c3 w R h hk' hl'
    · rw [if_neg hk]
      have hk' : (x.f0 == 0) = false := by simp [hk]
      by_cases hk1 : x.f0 = 1
      · rw [if_pos hk1]
        have hk1' : (x.f0 == 1) = true := by simp [hk1]
        cases ht : tagB x.f1
        · cases hg : (x.f1.toList == [115, 101, 113])
          · exact right_k1cf g A c x A3 c3 w R h hk' hk1' ht hg
          · exact right_k1ct g A c x A3 c3 w R h hk' hk1' ht hg
        · cases hco : coreL x.f1.toList
          · exact right_k1a g A c x A3 c3 w R h hk' hk1' ht hco
          · cases hg : (x.f1.toList == [115, 101, 113])
            · exact right_k1bf g A c x A3 c3 w R h hk' hk1' ht hco hg
            · exact right_k1bt g A c x A3 c3 w R h hk' hk1' ht hco hg
      · rw [if_neg hk1]
        have hk1' : (x.f0 == 1) = false := by simp [hk1]
        by_cases hk2 : x.f0 = 2
        · rw [if_pos hk2]
          have hk2' : (x.f0 == 2) = true := by simp [hk2]
          by_cases hm : x.f3.length % 2 = 0
          · have hm' : ((x.f3.length : Int) % 2 != 0) = false := by simp; omega
            cases hst : ((evens x.f3).any fun i => (rd_T34 g i).f0 != 0)
            · rw [if_pos ⟨hm, rfl⟩]
              cases ht : tagB x.f1
              · cases hg : (x.f1.toList == [109, 97, 112])
                · exact right_k2cf g A c x A3 c3 w R h hk' hk1' hk2' hm' ht hst hg
                · exact right_k2ct g A c x A3 c3 w R h hk' hk1' hk2' hm' ht hst hg
              · cases hco : coreL x.f1.toList
                · exact right_k2a g A c x A3 c3 w R h hk' hk1' hk2' hm' ht hco hst
                · cases hg : (x.f1.toList == [109, 97, 112])
                  · exact right_k2bf g A c x A3 c3 w R h hk' hk1' hk2' hm' ht hco hst hg
                  · exact right_k2bt g A c x A3 c3 w R h hk' hk1' hk2' hm' ht hco hst hg
            · rw [if_neg (by simp)]
              cases ht : tagB x.f1
              · exact right_k2cs g A c x A3 c3 w R h hk' hk1' hk2' hm' ht hst
              · cases hco : coreL x.f1.toList
                · exact right_k2as g A c x A3 c3 w R h hk' hk1' hk2' hm' ht hco hst
                · exact right_k2bs g A c x A3 c3 w R h hk' hk1' hk2' hm' ht hco hst
          · have hm' : ((x.f3.length : Int) % 2 != 0) = true := by simp; omega
            rw [if_neg (fun e => hm e.1)]
            cases ht : tagB x.f1
            · exact right_k2oddc g A c x A3 c3 w R h hk' hk1' hk2' hm' ht
            · cases hco : coreL x.f1.toList
              · exact right_k2odda g A c x A3 c3 w R h hk' hk1' hk2' hm' ht hco
              · exact right_k2oddb g A c x A3 c3 w R h hk' hk1' hk2' hm' ht hco
        · rw [if_neg hk2]
          have hk2' : (x.f0 == 2) = false := by simp [hk2]
          cases ht : tagB x.f1
          · exact right_k3c g A c x A3 c3 w R h hk' hk1' hk2' ht
          · cases hco : coreL x.f1.toList
            · exact right_k3a g A c x A3 c3 w R h hk' hk1' hk2' ht hco
            · exact right_k3b g A c x A3 c3 w R h hk' hk1' hk2' ht hco
end Go.Proofs.YtpbkdeelkpjccaaDoor.G
