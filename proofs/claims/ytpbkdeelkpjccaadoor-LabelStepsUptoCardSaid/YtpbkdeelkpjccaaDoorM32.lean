/- Merged by merge.py out of: Ggrilleref16Steps. -/
import Derived.Test.YtpbkdeelkpjccaaDoorM03
import Derived.Test.YtpbkdeelkpjccaaDoorM05
-- Laid by xprint.py (this work's own driver of the kit's printer).
namespace Go.Proofs.YtpbkdeelkpjccaaDoor.G
open Go.RowKit Go.Proofs.YtpbkdeelkpjccaaDoorW.PrintWords Go.Proofs.YtpbkdeelkpjccaaDoorW.PrintLast Go.Proofs.YtpbkdeelkpjccaaDoorW.PrintMore
attribute [local go_sem] max2_int min2_int max_two min_two max_three min_three max_four min_four   -- for this text's walks alone
set_option linter.unusedVariables false
set_option linter.unusedSimpArgs false
mutual
def grilleref16_Steps.l0 : Nat → List (S24) → List ByteArray → Int → Int → ByteArray → ByteArray → List Int → Option (List ByteArray)
  | 0, _, _, _, _, _, _, _ => none
  | k + 1, x1, x5, x6, x2000, x2001, x2002, x2003 => if x6 < (x2003.length : Int) then (grilleref16_Steps.j1 k x1 x5 x6 (x2000 != 0) x2000 x2001 x2002 x2003) else (grilleref16_Steps.j1 k x1 x5 x6 false x2000 x2001 x2002 x2003)
def grilleref16_Steps.j1 : Nat → List (S24) → List ByteArray → Int → Bool → Int → ByteArray → ByteArray → List Int → Option (List ByteArray)
  | 0, _, _, _, _, _, _, _, _ => none
  | k + 1, x1, x5, x6, x17, x2000, x2001, x2002, x2003 => if x17 = true then (if x2000 = 1 then ((strconv_Itoa.f x6).bind fun t2 => (if x2000 = 2 then (if (Int.tmod x6 2) = 1 then (if 0 ≤ (wrap64 (x6 - 1)) then (if (wrap64 (x6 - 1)) < (x2003.length : Int) then (if (rd x2003 (wrap64 (x6 - 1))) ≥ 0 then (if (rd x2003 (wrap64 (x6 - 1))) < (x1.length : Int) then (if 0 ≤ (rd x2003 (wrap64 (x6 - 1))) then (if x5.length < 8796093022208 then (grilleref16_Steps.l0 k x1 (x5 ++ [(rd_T24 x1 (rd x2003 (wrap64 (x6 - 1)))).f2]) (wrap64 (x6 + 1)) x2000 x2001 x2002 x2003) else (none)) else (none)) else (if x5.length < 8796093022208 then (grilleref16_Steps.l0 k x1 (x5 ++ [t2]) (wrap64 (x6 + 1)) x2000 x2001 x2002 x2003) else (none))) else (if x5.length < 8796093022208 then (grilleref16_Steps.l0 k x1 (x5 ++ [t2]) (wrap64 (x6 + 1)) x2000 x2001 x2002 x2003) else (none))) else (none)) else (none)) else (if x5.length < 8796093022208 then (grilleref16_Steps.l0 k x1 (x5 ++ [t2]) (wrap64 (x6 + 1)) x2000 x2001 x2002 x2003) else (none))) else (if x5.length < 8796093022208 then (grilleref16_Steps.l0 k x1 (x5 ++ [t2]) (wrap64 (x6 + 1)) x2000 x2001 x2002 x2003) else (none)))) else (if x2000 = 2 then (if (Int.tmod x6 2) = 1 then (if 0 ≤ (wrap64 (x6 - 1)) then (if (wrap64 (x6 - 1)) < (x2003.length : Int) then (if (rd x2003 (wrap64 (x6 - 1))) ≥ 0 then (if (rd x2003 (wrap64 (x6 - 1))) < (x1.length : Int) then (if 0 ≤ (rd x2003 (wrap64 (x6 - 1))) then (if x5.length < 8796093022208 then (grilleref16_Steps.l0 k x1 (x5 ++ [(rd_T24 x1 (rd x2003 (wrap64 (x6 - 1)))).f2]) (wrap64 (x6 + 1)) x2000 x2001 x2002 x2003) else (none)) else (none)) else (if x5.length < 8796093022208 then (grilleref16_Steps.l0 k x1 (x5 ++ [(⟨#[]⟩ : ByteArray)]) (wrap64 (x6 + 1)) x2000 x2001 x2002 x2003) else (none))) else (if x5.length < 8796093022208 then (grilleref16_Steps.l0 k x1 (x5 ++ [(⟨#[]⟩ : ByteArray)]) (wrap64 (x6 + 1)) x2000 x2001 x2002 x2003) else (none))) else (none)) else (none)) else (if x5.length < 8796093022208 then (grilleref16_Steps.l0 k x1 (x5 ++ [(⟨#[]⟩ : ByteArray)]) (wrap64 (x6 + 1)) x2000 x2001 x2002 x2003) else (none))) else (if x5.length < 8796093022208 then (grilleref16_Steps.l0 k x1 (x5 ++ [(⟨#[]⟩ : ByteArray)]) (wrap64 (x6 + 1)) x2000 x2001 x2002 x2003) else (none)))) else (some x5)
end
def grilleref16_Steps.f (k : Nat) (a0_0 : Int) (a0_1 : ByteArray) (a0_2 : ByteArray) (l0_3 : List Int) (l1 : List (S24)) : Option (List ByteArray) := grilleref16_Steps.l0 k l1 ([] : List ByteArray) 0 a0_0 a0_1 a0_2 l0_3
theorem grilleref16_Steps.mono_l : ∀ k, (∀ y0 y1 y2 y3 y4 y5 y6, LeO (grilleref16_Steps.l0 k y0 y1 y2 y3 y4 y5 y6) (grilleref16_Steps.l0 (k + 1) y0 y1 y2 y3 y4 y5 y6)) ∧ (∀ y0 y1 y2 y3 y4 y5 y6 y7, LeO (grilleref16_Steps.j1 k y0 y1 y2 y3 y4 y5 y6 y7) (grilleref16_Steps.j1 (k + 1) y0 y1 y2 y3 y4 y5 y6 y7))
  | 0 => ⟨fun _ _ _ _ _ _ _ r h => by simp [grilleref16_Steps.l0] at h, fun _ _ _ _ _ _ _ _ r h => by simp [grilleref16_Steps.j1] at h⟩
  | k + 1 => by
    obtain ⟨ih0, ih1⟩ := grilleref16_Steps.mono_l k
    refine ⟨?_, ?_⟩
    · intro y0 y1 y2 y3 y4 y5 y6
      unfold grilleref16_Steps.l0
      repeat' first
      | (with_reducible exact ih0 _ _ _ _ _ _ _)
      | (with_reducible exact ih1 _ _ _ _ _ _ _ _)
      | (with_reducible exact LeO.refl _)
      | (with_reducible exact LeO.none _)
      | (with_reducible refine LeO.ite ?_ ?_)
      | (with_reducible refine LeO.bind ?_ (fun _ => ?_))
      | exact ih0 _ _ _ _ _ _ _
      | exact ih1 _ _ _ _ _ _ _ _
      | exact LeO.none _
      | refine LeO.ite ?_ ?_
      | refine LeO.bind ?_ (fun _ => ?_)
    · intro y0 y1 y2 y3 y4 y5 y6 y7
      unfold grilleref16_Steps.j1
      repeat' first
      | (with_reducible exact ih0 _ _ _ _ _ _ _)
      | (with_reducible exact ih1 _ _ _ _ _ _ _ _)
      | (with_reducible exact LeO.refl _)
      | (with_reducible exact LeO.none _)
      | (with_reducible refine LeO.ite ?_ ?_)
      | (with_reducible refine LeO.bind ?_ (fun _ => ?_))
      | exact ih0 _ _ _ _ _ _ _
      | exact ih1 _ _ _ _ _ _ _ _
      | exact LeO.none _
      | refine LeO.ite ?_ ?_
      | refine LeO.bind ?_ (fun _ => ?_)
theorem grilleref16_Steps.mono : ∀ a0 a1 a2 a3 a4 k, LeO (grilleref16_Steps.f k a0 a1 a2 a3 a4) (grilleref16_Steps.f (k + 1) a0 a1 a2 a3 a4) := by
  intro a0 a1 a2 a3 a4 k
  obtain ⟨ih0, ih1⟩ := grilleref16_Steps.mono_l k
  unfold grilleref16_Steps.f
  repeat' first
      | (with_reducible exact ih0 _ _ _ _ _ _ _)
      | (with_reducible exact ih1 _ _ _ _ _ _ _ _)
      | (with_reducible exact LeO.refl _)
      | (with_reducible exact LeO.none _)
      | (with_reducible refine LeO.ite ?_ ?_)
      | (with_reducible refine LeO.bind ?_ (fun _ => ?_))
      | exact ih0 _ _ _ _ _ _ _
      | exact ih1 _ _ _ _ _ _ _ _
      | exact LeO.none _
      | refine LeO.ite ?_ ?_
      | refine LeO.bind ?_ (fun _ => ?_)
set_option maxHeartbeats 8000000 in
set_option maxRecDepth 100000 in
theorem grilleref16_Steps.calls (k : Nat) (a0_0 : Int) (a0_1 : ByteArray) (a0_2 : ByteArray) (A0_3 : Option Addr) (c0_3 : Nat) (l0_3 : List Int) (A1 : Option Addr) (c1 : Nat) (l1 : List (S24)) (r : List ByteArray) (w : World) (hT : Tabs w) (hr0_3 : Kd.C (Kd.int .i64) w A0_3 l0_3.length l0_3) (hc0_3 : l0_3.length ≤ c0_3) (hr1 : Kd.C k24 w A1 l1.length l1) (hc1 : l1.length ≤ c1) (h : grilleref16_Steps.f k a0_0 a0_1 a0_2 l0_3 l1 = some r) :
    Calls Tryd.prog 10 #[.agg #[.int .i64 a0_0, .string a0_1, .string a0_2, .slice A0_3 l0_3.length c0_3], .slice A1 l1.length c1] w fun e w' => ∃ v0_ : Value, e = .returned (v0_) ∧ Kd.R Kd.string 9 w' w.heap.size (fun _ => True) v0_ r ∧ Below w.heap.size w w' := by
  have hu24 := Tryd.underlying24
  have HR0_3 := Aside0.mk hr0_3
  have HC0_3 := Aside0.mk hc0_3
  clear hr0_3 hc0_3
  have HR1 := Aside0.mk hr1
  have HC1 := Aside0.mk hc1
  clear hr1 hc1
  have HT := Aside0.mk hT
  clear hT
  have HB := Aside0.mk (Below.refl w.heap.size w)
  have H : (grilleref16_Steps.l0 k l1 ([] : List ByteArray) 0 a0_0 a0_1 a0_2 l0_3) = some r := h
  clear h
  have H' := Aside0.mk H
  clear H
  go_enter Tryd.func10, Tryd.ntmps10
  go_wp2_with (first | ((with_reducible refine gate_dst (N := 2) rfl ?_); (try (refine gate_guard (by rfl) ?_; dsimp only)); refine box_event ?hg (N := 2) ?hd (cs := #[.int .i64 a0_0, .string a0_1, .string a0_2, .slice A0_3 l0_3.length c0_3]) (t := 24) ?hr ?_; (case hd => rfl); (case hg => rfl); (case hr => first | (go_simp; done) | (go_simp; rfl)); intro gb1 hg w3 hbox hb; have n0_ := Aside0.mk (below_step (by repeat (first | (with_reducible first | exact HB.out | apply below_alloc | apply pw_below_drewN | apply below_drew1) | exact HB.out)) hb); have n1_ := Aside0.mk (hbox); have n2_ := Aside0.mk ((by rw [hg]; exact (below_size (by repeat (first | (with_reducible first | exact HB.out | apply below_alloc | apply pw_below_drewN | apply below_drew1) | exact HB.out))) : w.heap.size ≤ gb1)); have n3_ := Aside0.mk ((by rw [hg]; exact (below_size (by repeat (first | (with_reducible first | exact HB.out | apply below_alloc | apply pw_below_drewN | apply below_drew1) | exact HB.out))) : w.heap.size ≤ gb1)); clear HB; have HB := n0_; have BK1 := n1_; have GW1 := n2_; have GE1 := n3_; clear n0_ n1_ n2_ n3_; clear hb hbox hg))
  go_loopg [5, 6] k (fun kq v5 v6 w' => ∃ (x5_1 : List ByteArray) (x6_1 : Int), v6 = .int .i64 x6_1 ∧ Aside0 (grilleref16_Steps.l0 kq l1 x5_1 x6_1 a0_0 a0_1 a0_2 l0_3 = some r) ∧ Aside0 (kq ≤ k) ∧ Aside0 (Kd.R Kd.string 9 w' w.heap.size (fun _ => True) v5 x5_1) ∧ Aside0 (w'.heap[gb1]? = some (.cells #[.int .i64 a0_0, .string a0_1, .string a0_2, (.slice A0_3 l0_3.length c0_3)] 24 (0, 0))) ∧ Aside0 (Below w.heap.size w w'))
  case atStart => exact ⟨(([] : List ByteArray)), (0), (by first | rfl | (simp; done) | (simp [*]; done)), H', ⟨Nat.le_refl _⟩, ⟨by first | exact Kd.R_nil _ _ _ _ _ | exact Kd.N_nil _ _ _ _ _ | exact Kd.V_nil _ _ _ _ _ | exact Kd.Q_nil _ _ _ _ _ | exact Kd.S_nil _ _ _ _ _⟩, ⟨by (with_reducible repeat (first | refine blk_drewN ?_ _ | refine blk_drew ?_ | refine blk_alloc ?_ _)); exact BK1.out⟩, ⟨by repeat (first | (with_reducible first | exact HB.out | apply below_alloc | apply pw_below_drewN | apply below_drew1 | refine below_set ?_ GE1.out) | exact HB.out)⟩⟩
  case round =>
    clear H'
    try clear c1
    try clear p2
    obtain ⟨x5_1, x6_1, rfl, HA, HK1, HO_5, BK1, HB⟩ := hrel
    cases gk with
    | zero => exact absurd HA.out (by simp [grilleref16_Steps.l0])
    | succ k1 =>
      have H := HA.out
      clear HA
      simp only [grilleref16_Steps.l0] at H
      have HC4 := Aside0.mk H
      clear H
      go_upto_region 3 with (fail)
      go_cut [17] (fun v17 wc => ∃ (kq : Nat) (x17_3 : Bool), v17 = .bool x17_3 ∧ Aside0 (grilleref16_Steps.j1 kq l1 x5_1 x6_1 x17_3 a0_0 a0_1 a0_2 l0_3 = some r) ∧ Aside0 (kq ≤ k1) ∧ Aside0 (Kd.R Kd.string 9 wc w.heap.size (fun _ => True) u5 x5_1) ∧ Aside0 (wc.heap[gb1]? = some (.cells #[.int .i64 a0_0, .string a0_1, .string a0_2, (.slice A0_3 l0_3.length c0_3)] 24 (0, 0))) ∧ Aside0 (Below w.heap.size w wc))
      case first =>
        have H := HC4.out
        clear HC4
        by_cases c5 : x6_1 < (l0_3.length : Int)
        · rw [if_pos c5] at H
          have c5b0 : decide (x6_1 < (l0_3.length : Int)) = true := decide_eq_true c5
          clear c5
          (first | rw [c5b0] | (simp only [i64_w, i32_w]; rw [c5b0]) | skip)
          have H' := Aside0.mk H
          clear H
          have hcz6_0 : wr.cell? ⟨gb1, 0, none⟩ = some (.int .i64 a0_0) := (blk_cell BK1.out 0).trans rfl
          have hcz6_1 : wr.cell? ⟨gb1, 1, none⟩ = some (.string a0_1) := (blk_cell BK1.out 1).trans rfl
          have hcz6_2 : wr.cell? ⟨gb1, 2, none⟩ = some (.string a0_2) := (blk_cell BK1.out 2).trans rfl
          have hcz6_3 : wr.cell? ⟨gb1, 3, none⟩ = some (.slice A0_3 l0_3.length c0_3) := (blk_cell BK1.out 3).trans rfl
          have hfz6_0 := blk_frozen BK1.out 0
          have hfz6_1 := blk_frozen BK1.out 1
          have hfz6_2 := blk_frozen BK1.out 2
          have hfz6_3 := blk_frozen BK1.out 3
          go_wp2
          go_meet
          case rel => exact ⟨_, ((a0_0 != 0)), (by first | rfl | (simp; done) | (simp [*]; done)), H', ⟨by have := HK1.out; first | omega | exact Nat.le_refl _⟩, ⟨by (with_reducible repeat (first | apply Kd.R_alloc | apply Kd.R_drewN | apply Kd.R_drew)); exact HO_5.out⟩, ⟨by (with_reducible repeat (first | refine blk_drewN ?_ _ | refine blk_drew ?_ | refine blk_alloc ?_ _)); exact BK1.out⟩, ⟨by repeat (first | (with_reducible first | exact HB.out | apply below_alloc | apply pw_below_drewN | apply below_drew1 | refine below_set ?_ GE1.out) | exact HB.out)⟩⟩
        · rw [if_neg c5] at H
          have c5b0 : decide (x6_1 < (l0_3.length : Int)) = false := decide_eq_false c5
          clear c5
          (first | rw [c5b0] | (simp only [i64_w, i32_w]; rw [c5b0]) | skip)
          have H' := Aside0.mk H
          clear H
          have hcz7_0 : wr.cell? ⟨gb1, 0, none⟩ = some (.int .i64 a0_0) := (blk_cell BK1.out 0).trans rfl
          have hcz7_1 : wr.cell? ⟨gb1, 1, none⟩ = some (.string a0_1) := (blk_cell BK1.out 1).trans rfl
          have hcz7_2 : wr.cell? ⟨gb1, 2, none⟩ = some (.string a0_2) := (blk_cell BK1.out 2).trans rfl
          have hcz7_3 : wr.cell? ⟨gb1, 3, none⟩ = some (.slice A0_3 l0_3.length c0_3) := (blk_cell BK1.out 3).trans rfl
          have hfz7_0 := blk_frozen BK1.out 0
          have hfz7_1 := blk_frozen BK1.out 1
          have hfz7_2 := blk_frozen BK1.out 2
          have hfz7_3 := blk_frozen BK1.out 3
          go_wp2
          go_meet
          case rel => exact ⟨_, (false), (by first | rfl | (simp; done) | (simp [*]; done)), H', ⟨by have := HK1.out; first | omega | exact Nat.le_refl _⟩, ⟨by (with_reducible repeat (first | apply Kd.R_alloc | apply Kd.R_drewN | apply Kd.R_drew)); exact HO_5.out⟩, ⟨by (with_reducible repeat (first | refine blk_drewN ?_ _ | refine blk_drew ?_ | refine blk_alloc ?_ _)); exact BK1.out⟩, ⟨by repeat (first | (with_reducible first | exact HB.out | apply below_alloc | apply pw_below_drewN | apply below_drew1 | refine below_set ?_ GE1.out) | exact HB.out)⟩⟩
      case rest =>
        clear HC4
        try clear c1
        try clear p2
        try clear c5
        try clear c5b0
        try clear hcz6_0
        try clear hcz6_1
        try clear hcz6_2
        try clear hcz6_3
        try clear hcz7_0
        try clear hcz7_1
        try clear hcz7_2
        try clear hcz7_3
        try clear hfz6_0
        try clear hfz6_1
        try clear hfz6_2
        try clear hfz6_3
        try clear hfz7_0
        try clear hfz7_1
        try clear hfz7_2
        try clear hfz7_3
        try clear p2
        obtain ⟨kq, x17_3, rfl, HA, HJ3, HO_5, BK1, HB⟩ := hcut
        cases kq with
        | zero => exact absurd HA.out (by simp [grilleref16_Steps.j1])
        | succ kj3 =>
          have H := HA.out
          clear HA
          simp only [grilleref16_Steps.j1] at H
          by_cases c8 : x17_3 = true
          · subst c8
            have H1 : (if a0_0 = 1 then ((strconv_Itoa.f x6_1).bind fun t2 => (if a0_0 = 2 then (if (Int.tmod x6_1 2) = 1 then (if 0 ≤ (wrap64 (x6_1 - 1)) then (if (wrap64 (x6_1 - 1)) < (l0_3.length : Int) then (if (rd l0_3 (wrap64 (x6_1 - 1))) ≥ 0 then (if (rd l0_3 (wrap64 (x6_1 - 1))) < (l1.length : Int) then (if 0 ≤ (rd l0_3 (wrap64 (x6_1 - 1))) then (if x5_1.length < 8796093022208 then (grilleref16_Steps.l0 kj3 l1 (x5_1 ++ [(rd_T24 l1 (rd l0_3 (wrap64 (x6_1 - 1)))).f2]) (wrap64 (x6_1 + 1)) a0_0 a0_1 a0_2 l0_3) else (none)) else (none)) else (if x5_1.length < 8796093022208 then (grilleref16_Steps.l0 kj3 l1 (x5_1 ++ [t2]) (wrap64 (x6_1 + 1)) a0_0 a0_1 a0_2 l0_3) else (none))) else (if x5_1.length < 8796093022208 then (grilleref16_Steps.l0 kj3 l1 (x5_1 ++ [t2]) (wrap64 (x6_1 + 1)) a0_0 a0_1 a0_2 l0_3) else (none))) else (none)) else (none)) else (if x5_1.length < 8796093022208 then (grilleref16_Steps.l0 kj3 l1 (x5_1 ++ [t2]) (wrap64 (x6_1 + 1)) a0_0 a0_1 a0_2 l0_3) else (none))) else (if x5_1.length < 8796093022208 then (grilleref16_Steps.l0 kj3 l1 (x5_1 ++ [t2]) (wrap64 (x6_1 + 1)) a0_0 a0_1 a0_2 l0_3) else (none)))) else (if a0_0 = 2 then (if (Int.tmod x6_1 2) = 1 then (if 0 ≤ (wrap64 (x6_1 - 1)) then (if (wrap64 (x6_1 - 1)) < (l0_3.length : Int) then (if (rd l0_3 (wrap64 (x6_1 - 1))) ≥ 0 then (if (rd l0_3 (wrap64 (x6_1 - 1))) < (l1.length : Int) then (if 0 ≤ (rd l0_3 (wrap64 (x6_1 - 1))) then (if x5_1.length < 8796093022208 then (grilleref16_Steps.l0 kj3 l1 (x5_1 ++ [(rd_T24 l1 (rd l0_3 (wrap64 (x6_1 - 1)))).f2]) (wrap64 (x6_1 + 1)) a0_0 a0_1 a0_2 l0_3) else (none)) else (none)) else (if x5_1.length < 8796093022208 then (grilleref16_Steps.l0 kj3 l1 (x5_1 ++ [(⟨#[]⟩ : ByteArray)]) (wrap64 (x6_1 + 1)) a0_0 a0_1 a0_2 l0_3) else (none))) else (if x5_1.length < 8796093022208 then (grilleref16_Steps.l0 kj3 l1 (x5_1 ++ [(⟨#[]⟩ : ByteArray)]) (wrap64 (x6_1 + 1)) a0_0 a0_1 a0_2 l0_3) else (none))) else (none)) else (none)) else (if x5_1.length < 8796093022208 then (grilleref16_Steps.l0 kj3 l1 (x5_1 ++ [(⟨#[]⟩ : ByteArray)]) (wrap64 (x6_1 + 1)) a0_0 a0_1 a0_2 l0_3) else (none))) else (if x5_1.length < 8796093022208 then (grilleref16_Steps.l0 kj3 l1 (x5_1 ++ [(⟨#[]⟩ : ByteArray)]) (wrap64 (x6_1 + 1)) a0_0 a0_1 a0_2 l0_3) else (none)))) = some r := by rw [if_pos rfl] at H; exact H
            clear H
            have H := H1
            clear H1
            by_cases c9 : a0_0 = 1
            · rw [if_pos c9] at H
              have c9b0 : (a0_0 == 1) = true := beq_iff_eq.mpr c9
              have c9b1 : (a0_0 != 1) = false := bne_eq_false_iff_eq.mpr c9
              clear c9
              replace H := Option.bind_eq_some_iff.mp H
              obtain ⟨t2, A100, H⟩ := H
              replace H : (if a0_0 = 2 then (if (Int.tmod x6_1 2) = 1 then (if 0 ≤ (wrap64 (x6_1 - 1)) then (if (wrap64 (x6_1 - 1)) < (l0_3.length : Int) then (if (rd l0_3 (wrap64 (x6_1 - 1))) ≥ 0 then (if (rd l0_3 (wrap64 (x6_1 - 1))) < (l1.length : Int) then (if 0 ≤ (rd l0_3 (wrap64 (x6_1 - 1))) then (if x5_1.length < 8796093022208 then (grilleref16_Steps.l0 kj3 l1 (x5_1 ++ [(rd_T24 l1 (rd l0_3 (wrap64 (x6_1 - 1)))).f2]) (wrap64 (x6_1 + 1)) a0_0 a0_1 a0_2 l0_3) else (none)) else (none)) else (if x5_1.length < 8796093022208 then (grilleref16_Steps.l0 kj3 l1 (x5_1 ++ [t2]) (wrap64 (x6_1 + 1)) a0_0 a0_1 a0_2 l0_3) else (none))) else (if x5_1.length < 8796093022208 then (grilleref16_Steps.l0 kj3 l1 (x5_1 ++ [t2]) (wrap64 (x6_1 + 1)) a0_0 a0_1 a0_2 l0_3) else (none))) else (none)) else (none)) else (if x5_1.length < 8796093022208 then (grilleref16_Steps.l0 kj3 l1 (x5_1 ++ [t2]) (wrap64 (x6_1 + 1)) a0_0 a0_1 a0_2 l0_3) else (none))) else (if x5_1.length < 8796093022208 then (grilleref16_Steps.l0 kj3 l1 (x5_1 ++ [t2]) (wrap64 (x6_1 + 1)) a0_0 a0_1 a0_2 l0_3) else (none))) = some r := H
              have A10 := Aside0.mk A100
              clear A100
              by_cases c11 : a0_0 = 2
              · rw [if_pos c11] at H
                have c11b0 : (a0_0 == 2) = true := beq_iff_eq.mpr c11
                have c11b1 : (a0_0 != 2) = false := bne_eq_false_iff_eq.mpr c11
                clear c11
                by_cases c12 : (Int.tmod x6_1 2) = 1
                · rw [if_pos c12] at H
                  have c12b0 : ((Int.tmod x6_1 2) == 1) = true := beq_iff_eq.mpr c12
                  have c12b1 : ((Int.tmod x6_1 2) != 1) = false := bne_eq_false_iff_eq.mpr c12
                  clear c12
                  obtain ⟨ji13, hji13⟩ : ∃ j_ : Int, (wrap64 (x6_1 - 1)) = j_ := ⟨_, rfl⟩
                  replace H : (if 0 ≤ (ji13) then (if (ji13) < (l0_3.length : Int) then (if (rd l0_3 (ji13)) ≥ 0 then (if (rd l0_3 (ji13)) < (l1.length : Int) then (if 0 ≤ (rd l0_3 (ji13)) then (if x5_1.length < 8796093022208 then (grilleref16_Steps.l0 kj3 l1 (x5_1 ++ [(rd_T24 l1 (rd l0_3 (ji13))).f2]) (wrap64 (x6_1 + 1)) a0_0 a0_1 a0_2 l0_3) else (none)) else (none)) else (if x5_1.length < 8796093022208 then (grilleref16_Steps.l0 kj3 l1 (x5_1 ++ [t2]) (wrap64 (x6_1 + 1)) a0_0 a0_1 a0_2 l0_3) else (none))) else (if x5_1.length < 8796093022208 then (grilleref16_Steps.l0 kj3 l1 (x5_1 ++ [t2]) (wrap64 (x6_1 + 1)) a0_0 a0_1 a0_2 l0_3) else (none))) else (none)) else (none)) = some r := by first | (rw [hji13] at H; exact H) | (simp only [hji13] at H ⊢; exact H)
                  (try rw [hji13] at A10)
                  have hji13w : (IntKind.i64.wrap (x6_1 - 1)) = ji13 := (i64_w _).trans hji13
                  by_cases c14 : 0 ≤ (ji13)
                  · rw [if_pos c14] at H
                    have c14b0 : decide (0 ≤ (ji13)) = true := decide_eq_true c14
                    clear c14
                    by_cases c15 : (ji13) < (l0_3.length : Int)
                    · rw [if_pos c15] at H
                      have c15b0 : decide ((ji13) < (l0_3.length : Int)) = true := decide_eq_true c15
                      clear c15
                      by_cases c16 : (rd l0_3 (ji13)) ≥ 0
                      · rw [if_pos c16] at H
                        have c16b0 : decide (0 ≤ (rd l0_3 (ji13))) = true := decide_eq_true c16
                        clear c16
                        by_cases c17 : (rd l0_3 (ji13)) < (l1.length : Int)
                        · rw [if_pos c17] at H
                          have c17b0 : decide ((rd l0_3 (ji13)) < (l1.length : Int)) = true := decide_eq_true c17
                          clear c17
                          by_cases c18 : 0 ≤ (rd l0_3 (ji13))
                          · rw [if_pos c18] at H
                            have c18b0 : decide (0 ≤ (rd l0_3 (ji13))) = true := decide_eq_true c18
                            clear c18
                            by_cases c19 : x5_1.length < 8796093022208
                            · rw [if_pos c19] at H
                              have LMc19 := Aside0.mk c19
                              clear c19
                              obtain ⟨y7, hy7⟩ : ∃ y_ : List ByteArray, y_ = (x5_1 ++ [(rd_T24 l1 (rd l0_3 (ji13))).f2]) := ⟨_, rfl⟩
                              replace H : (grilleref16_Steps.l0 kj3 l1 y7 (wrap64 (x6_1 + 1)) a0_0 a0_1 a0_2 l0_3) = some r := by first | (rw [hy7]; with_reducible exact H) | (have H2_ := (Option.bind_some _ _).symm.trans H; rw [hy7]; with_reducible exact H2_) | (have H2_ := (Option.bind_some _ _).symm.trans H; with_reducible exact H2_) | with_reducible exact H | (rw [hy7]; exact H) | exact H
                              have Ny7 := Aside0.mk hy7
                              clear hy7
                              have H' := Aside0.mk H
                              clear H
                              have hcz20_0 : wc.cell? ⟨gb1, 0, none⟩ = some (.int .i64 a0_0) := (blk_cell BK1.out 0).trans rfl
                              have hcz20_1 : wc.cell? ⟨gb1, 1, none⟩ = some (.string a0_1) := (blk_cell BK1.out 1).trans rfl
                              have hcz20_2 : wc.cell? ⟨gb1, 2, none⟩ = some (.string a0_2) := (blk_cell BK1.out 2).trans rfl
                              have hcz20_3 : wc.cell? ⟨gb1, 3, none⟩ = some (.slice A0_3 l0_3.length c0_3) := (blk_cell BK1.out 3).trans rfl
                              have hfz20_0 := blk_frozen BK1.out 0
                              have hfz20_1 := blk_frozen BK1.out 1
                              have hfz20_2 := blk_frozen BK1.out 2
                              have hfz20_3 := blk_frozen BK1.out 3
                              go_wp2_with (first | ((with_reducible refine gate_callee (f := 20) rfl ?_); refine goesL_ (some 24) rfl rfl Tryd.func20 (by kernel_rfl) rfl #[.int .i64 x6_1] rfl (by (try simp only [List.map_toArray, List.map_cons, List.map_nil]); first | done | rfl | (simp only [List.length_drop, List.length_take]; rfl)) ?_; (with_reducible refine (strconv_Itoa.calls x6_1 t2 _ ?side1 A10.out).mono ?_); (case side1 => exact Tabs.below HT.out (by repeat (first | (with_reducible first | exact HB.out | apply below_alloc | apply pw_below_drewN | apply below_drew1 | refine below_set ?_ GE1.out) | exact HB.out))); rintro e w21 ⟨rfl, hb⟩; refine ⟨_, rfl, ?_⟩; have n0_ := Aside0.mk (Kd.R_below (by (with_reducible repeat (first | apply Kd.R_alloc | apply Kd.R_drewN | apply Kd.R_drew)); exact HO_5.out) hb); have n1_ := Aside0.mk (blk_below (g := gb1) (o := .cells #[.int .i64 a0_0, .string a0_1, .string a0_2, .slice A0_3 l0_3.length c0_3] 24 (0, 0)) (by (with_reducible repeat (first | refine blk_drewN ?_ _ | refine blk_drew ?_ | refine blk_alloc ?_ _)); exact BK1.out) hb); have n2_ := Aside0.mk (below_step (by repeat (first | (with_reducible first | exact HB.out | apply below_alloc | apply pw_below_drewN | apply below_drew1 | refine below_set ?_ GE1.out) | exact HB.out)) hb); clear HO_5; clear BK1; clear HB; have HO_5 := n0_; have BK1 := n1_; have HB := n2_; clear n0_ n1_ n2_; (try clear hb); (try clear hb2); (try clear hk); (try clear hi); have hcz22_0 : w21.cell? ⟨gb1, 0, none⟩ = some (.int .i64 a0_0) := (blk_cell BK1.out 0).trans rfl; have hcz22_1 : w21.cell? ⟨gb1, 1, none⟩ = some (.string a0_1) := (blk_cell BK1.out 1).trans rfl; have hcz22_2 : w21.cell? ⟨gb1, 2, none⟩ = some (.string a0_2) := (blk_cell BK1.out 2).trans rfl; have hcz22_3 : w21.cell? ⟨gb1, 3, none⟩ = some (.slice A0_3 l0_3.length c0_3) := (blk_cell BK1.out 3).trans rfl; have hfz22_0 := blk_frozen BK1.out 0; have hfz22_1 := blk_frozen BK1.out 1; have hfz22_2 := blk_frozen BK1.out 2; have hfz22_3 := blk_frozen BK1.out 3; have p3 : 0 ≤ ((ji13) : Int) := of_decide_eq_true (by first | (with_reducible assumption) | assumption); have q3 : (ji13) < (l0_3.length : Int) := of_decide_eq_true (by first | (with_reducible assumption) | assumption); obtain ⟨ad3, e3, hx3_0⟩ := Kd.at_int HR0_3.out (ji13) p3 q3; cases e3; replace hx3_0 := (HB.out.cell (World.block_lt_of_cell? w _ hx3_0)).trans hx3_0; replace p3 := eq_true p3; replace q3 := eq_true q3; have p4 : 0 ≤ ((ji13) : Int) := of_decide_eq_true (by first | (with_reducible assumption) | assumption); have q4 : (ji13) < (l0_3.length : Int) := of_decide_eq_true (by first | (with_reducible assumption) | assumption); obtain ⟨ad4, e4, hx4_0⟩ := Kd.at_int HR0_3.out (ji13) p4 q4; obtain rfl : ad3 = ad4 := (by injection e4); replace hx4_0 := (HB.out.cell (World.block_lt_of_cell? w _ hx4_0)).trans hx4_0; replace p4 := eq_true p4; replace q4 := eq_true q4; have p5 : 0 ≤ ((ji13) : Int) := of_decide_eq_true (by first | (with_reducible assumption) | assumption); have q5 : (ji13) < (l0_3.length : Int) := of_decide_eq_true (by first | (with_reducible assumption) | assumption); obtain ⟨ad5, e5, hx5_0⟩ := Kd.at_int HR0_3.out (ji13) p5 q5; obtain rfl : ad3 = ad5 := (by injection e5); replace hx5_0 := (HB.out.cell (World.block_lt_of_cell? w _ hx5_0)).trans hx5_0; replace p5 := eq_true p5; replace q5 := eq_true q5; have p6 : 0 ≤ ((rd l0_3 (ji13)) : Int) := of_decide_eq_true (by first | (with_reducible assumption) | assumption); have q6 : (rd l0_3 (ji13)) < (l1.length : Int) := of_decide_eq_true (by first | (with_reducible assumption) | assumption); obtain ⟨ad6, A6_3, c6_3, e6, hx6_0, hx6_1, hx6_2, hx6_3, hl6_3, hi6_3⟩ := at_T24 HR1.out (rd l0_3 (ji13)) p6 q6; cases e6; replace hx6_0 := (HB.out.cell (World.block_lt_of_cell? w _ hx6_0)).trans hx6_0; replace hx6_1 := (HB.out.cell (World.block_lt_of_cell? w _ hx6_1)).trans hx6_1; replace hx6_2 := (HB.out.cell (World.block_lt_of_cell? w _ hx6_2)).trans hx6_2; replace hx6_3 := (HB.out.cell (World.block_lt_of_cell? w _ hx6_3)).trans hx6_3; have HR6_3 := Aside0.mk hi6_3; have HC6_3 := Aside0.mk hl6_3; clear hi6_3 hl6_3; replace p6 := eq_true p6; replace q6 := eq_true q6) | ((with_reducible refine gate_builtin (b := .append) (xs := #[.tmp 63, .tmp 65]) rfl ?_); (try (refine gate_guard (by rfl) ?_; dsimp only)); at_builtin; refine Kd.R_append Kd.string (w0 := w) w.heap.size rfl (.tmp 63) (.tmp 65) 32 9 (.string ⟨#[]⟩) 16 rfl Tryd.underlying32 info9 rfl (by decide) (by omega) u5 x5_1 ((rd_T24 l1 (rd l0_3 (ji13))).f2) [.string ((rd_T24 l1 (rd l0_3 (ji13))).f2)] (fun _ => True) (fun _ => False) rfl rfl ?aP (fun _ hk => hk.elim) ?aF ?aO ?aB ?aS ?aL ?_; (case aP => exact rfl); (case aB => exact (by repeat (first | (with_reducible first | exact HB.out | apply below_alloc | apply pw_below_drewN | apply below_drew1 | refine below_set ?_ GE1.out) | exact HB.out))); (case aF => exact (fun _ _ => trivial)); (case aO => exact (by (with_reducible repeat (first | apply Kd.R_alloc | apply Kd.R_drewN | apply Kd.R_drew)); exact HO_5.out)); (case aS => exact (below_size (by repeat (first | (with_reducible first | exact HB.out | apply below_alloc | apply pw_below_drewN | apply below_drew1 | refine below_set ?_ GE1.out) | exact HB.out)))); (case aL => have := LMc19.out; omega); intro v8 w23 ho hb hg hat; rw [← Ny7.out] at ho; have n0_ := Aside0.mk (blk_grown (g := gb1) (o := .cells #[.int .i64 a0_0, .string a0_1, .string a0_2, .slice (some ad3) l0_3.length c0_3] 24 (0, 0)) (by (with_reducible repeat (first | refine blk_drewN ?_ _ | refine blk_drew ?_ | refine blk_alloc ?_ _)); exact BK1.out) hg (Kd.R_ne HO_5.out BK1.out (by decide))); have n1_ := Aside0.mk (hb); have n2_ := Aside0.mk (ho); clear BK1; clear HB; clear HO_5; have BK1 := n0_; have HB := n1_; have HO9 := n2_; clear n0_ n1_ n2_; clear ho hb hg hat))
                              go_roundg kj3
                              case measure => have := HK1.out; have := HJ3.out; omega
                              case rel => exact ⟨(y7), (wrap64 (x6_1 + 1)), (by first | rfl | (simp; done) | (simp [*]; done)), H', ⟨by have := HK1.out; have := HJ3.out; omega⟩, ⟨by (with_reducible repeat (first | apply Kd.R_alloc | apply Kd.R_drewN | apply Kd.R_drew)); exact HO9.out⟩, ⟨by (with_reducible repeat (first | refine blk_drewN ?_ _ | refine blk_drew ?_ | refine blk_alloc ?_ _)); exact BK1.out⟩, ⟨by repeat (first | (with_reducible first | exact HB.out | apply below_alloc | apply pw_below_drewN | apply below_drew1 | refine below_set ?_ GE1.out) | exact HB.out)⟩⟩
                            · rw [if_neg c19] at H
                              exact absurd H (by simp)
                          · rw [if_neg c18] at H
                            exact absurd H (by simp)
                        · rw [if_neg c17] at H
                          have c17b0 : decide ((rd l0_3 (ji13)) < (l1.length : Int)) = false := decide_eq_false c17
                          clear c17
                          by_cases c24 : x5_1.length < 8796093022208
                          · rw [if_pos c24] at H
                            have LMc24 := Aside0.mk c24
                            clear c24
                            obtain ⟨y10, hy10⟩ : ∃ y_ : List ByteArray, y_ = (x5_1 ++ [t2]) := ⟨_, rfl⟩
                            replace H : (grilleref16_Steps.l0 kj3 l1 y10 (wrap64 (x6_1 + 1)) a0_0 a0_1 a0_2 l0_3) = some r := by first | (rw [hy10]; with_reducible exact H) | (have H2_ := (Option.bind_some _ _).symm.trans H; rw [hy10]; with_reducible exact H2_) | (have H2_ := (Option.bind_some _ _).symm.trans H; with_reducible exact H2_) | with_reducible exact H | (rw [hy10]; exact H) | exact H
                            have Ny10 := Aside0.mk hy10
                            clear hy10
                            have H' := Aside0.mk H
                            clear H
                            have hcz25_0 : wc.cell? ⟨gb1, 0, none⟩ = some (.int .i64 a0_0) := (blk_cell BK1.out 0).trans rfl
                            have hcz25_1 : wc.cell? ⟨gb1, 1, none⟩ = some (.string a0_1) := (blk_cell BK1.out 1).trans rfl
                            have hcz25_2 : wc.cell? ⟨gb1, 2, none⟩ = some (.string a0_2) := (blk_cell BK1.out 2).trans rfl
                            have hcz25_3 : wc.cell? ⟨gb1, 3, none⟩ = some (.slice A0_3 l0_3.length c0_3) := (blk_cell BK1.out 3).trans rfl
                            have hfz25_0 := blk_frozen BK1.out 0
                            have hfz25_1 := blk_frozen BK1.out 1
                            have hfz25_2 := blk_frozen BK1.out 2
                            have hfz25_3 := blk_frozen BK1.out 3
                            go_wp2_with (first | ((with_reducible refine gate_callee (f := 20) rfl ?_); refine goesL_ (some 24) rfl rfl Tryd.func20 (by kernel_rfl) rfl #[.int .i64 x6_1] rfl (by (try simp only [List.map_toArray, List.map_cons, List.map_nil]); first | done | rfl | (simp only [List.length_drop, List.length_take]; rfl)) ?_; (with_reducible refine (strconv_Itoa.calls x6_1 t2 _ ?side1 A10.out).mono ?_); (case side1 => exact Tabs.below HT.out (by repeat (first | (with_reducible first | exact HB.out | apply below_alloc | apply pw_below_drewN | apply below_drew1 | refine below_set ?_ GE1.out) | exact HB.out))); rintro e w26 ⟨rfl, hb⟩; refine ⟨_, rfl, ?_⟩; have n0_ := Aside0.mk (Kd.R_below (by (with_reducible repeat (first | apply Kd.R_alloc | apply Kd.R_drewN | apply Kd.R_drew)); exact HO_5.out) hb); have n1_ := Aside0.mk (blk_below (g := gb1) (o := .cells #[.int .i64 a0_0, .string a0_1, .string a0_2, .slice A0_3 l0_3.length c0_3] 24 (0, 0)) (by (with_reducible repeat (first | refine blk_drewN ?_ _ | refine blk_drew ?_ | refine blk_alloc ?_ _)); exact BK1.out) hb); have n2_ := Aside0.mk (below_step (by repeat (first | (with_reducible first | exact HB.out | apply below_alloc | apply pw_below_drewN | apply below_drew1 | refine below_set ?_ GE1.out) | exact HB.out)) hb); clear HO_5; clear BK1; clear HB; have HO_5 := n0_; have BK1 := n1_; have HB := n2_; clear n0_ n1_ n2_; (try clear hb); (try clear hb2); (try clear hk); (try clear hi); have hcz27_0 : w26.cell? ⟨gb1, 0, none⟩ = some (.int .i64 a0_0) := (blk_cell BK1.out 0).trans rfl; have hcz27_1 : w26.cell? ⟨gb1, 1, none⟩ = some (.string a0_1) := (blk_cell BK1.out 1).trans rfl; have hcz27_2 : w26.cell? ⟨gb1, 2, none⟩ = some (.string a0_2) := (blk_cell BK1.out 2).trans rfl; have hcz27_3 : w26.cell? ⟨gb1, 3, none⟩ = some (.slice A0_3 l0_3.length c0_3) := (blk_cell BK1.out 3).trans rfl; have hfz27_0 := blk_frozen BK1.out 0; have hfz27_1 := blk_frozen BK1.out 1; have hfz27_2 := blk_frozen BK1.out 2; have hfz27_3 := blk_frozen BK1.out 3; have p3 : 0 ≤ ((ji13) : Int) := of_decide_eq_true (by first | (with_reducible assumption) | assumption); have q3 : (ji13) < (l0_3.length : Int) := of_decide_eq_true (by first | (with_reducible assumption) | assumption); obtain ⟨ad3, e3, hx3_0⟩ := Kd.at_int HR0_3.out (ji13) p3 q3; cases e3; replace hx3_0 := (HB.out.cell (World.block_lt_of_cell? w _ hx3_0)).trans hx3_0; replace p3 := eq_true p3; replace q3 := eq_true q3; have p4 : 0 ≤ ((ji13) : Int) := of_decide_eq_true (by first | (with_reducible assumption) | assumption); have q4 : (ji13) < (l0_3.length : Int) := of_decide_eq_true (by first | (with_reducible assumption) | assumption); obtain ⟨ad4, e4, hx4_0⟩ := Kd.at_int HR0_3.out (ji13) p4 q4; obtain rfl : ad3 = ad4 := (by injection e4); replace hx4_0 := (HB.out.cell (World.block_lt_of_cell? w _ hx4_0)).trans hx4_0; replace p4 := eq_true p4; replace q4 := eq_true q4) | ((with_reducible refine gate_builtin (b := .append) (xs := #[.tmp 63, .tmp 65]) rfl ?_); (try (refine gate_guard (by rfl) ?_; dsimp only)); at_builtin; refine Kd.R_append Kd.string (w0 := w) w.heap.size rfl (.tmp 63) (.tmp 65) 32 9 (.string ⟨#[]⟩) 16 rfl Tryd.underlying32 info9 rfl (by decide) (by omega) u5 x5_1 t2 [.string t2] (fun _ => True) (fun _ => False) rfl rfl ?aP (fun _ hk => hk.elim) ?aF ?aO ?aB ?aS ?aL ?_; (case aP => exact rfl); (case aB => exact (by repeat (first | (with_reducible first | exact HB.out | apply below_alloc | apply pw_below_drewN | apply below_drew1 | refine below_set ?_ GE1.out) | exact HB.out))); (case aF => exact (fun _ _ => trivial)); (case aO => exact (by (with_reducible repeat (first | apply Kd.R_alloc | apply Kd.R_drewN | apply Kd.R_drew)); exact HO_5.out)); (case aS => exact (below_size (by repeat (first | (with_reducible first | exact HB.out | apply below_alloc | apply pw_below_drewN | apply below_drew1 | refine below_set ?_ GE1.out) | exact HB.out)))); (case aL => have := LMc24.out; omega); intro v11 w28 ho hb hg hat; rw [← Ny10.out] at ho; have n0_ := Aside0.mk (blk_grown (g := gb1) (o := .cells #[.int .i64 a0_0, .string a0_1, .string a0_2, .slice (some ad3) l0_3.length c0_3] 24 (0, 0)) (by (with_reducible repeat (first | refine blk_drewN ?_ _ | refine blk_drew ?_ | refine blk_alloc ?_ _)); exact BK1.out) hg (Kd.R_ne HO_5.out BK1.out (by decide))); have n1_ := Aside0.mk (hb); have n2_ := Aside0.mk (ho); clear BK1; clear HB; clear HO_5; have BK1 := n0_; have HB := n1_; have HO12 := n2_; clear n0_ n1_ n2_; clear ho hb hg hat))
                            go_roundg kj3
                            case measure => have := HK1.out; have := HJ3.out; omega
                            case rel => exact ⟨(y10), (wrap64 (x6_1 + 1)), (by first | rfl | (simp; done) | (simp [*]; done)), H', ⟨by have := HK1.out; have := HJ3.out; omega⟩, ⟨by (with_reducible repeat (first | apply Kd.R_alloc | apply Kd.R_drewN | apply Kd.R_drew)); exact HO12.out⟩, ⟨by (with_reducible repeat (first | refine blk_drewN ?_ _ | refine blk_drew ?_ | refine blk_alloc ?_ _)); exact BK1.out⟩, ⟨by repeat (first | (with_reducible first | exact HB.out | apply below_alloc | apply pw_below_drewN | apply below_drew1 | refine below_set ?_ GE1.out) | exact HB.out)⟩⟩
                          · rw [if_neg c24] at H
                            exact absurd H (by simp)
                      · rw [if_neg c16] at H
                        have c16b0 : decide (0 ≤ (rd l0_3 (ji13))) = false := decide_eq_false c16
                        clear c16
                        by_cases c29 : x5_1.length < 8796093022208
                        · rw [if_pos c29] at H
                          have LMc29 := Aside0.mk c29
                          clear c29
                          obtain ⟨y13, hy13⟩ : ∃ y_ : List ByteArray, y_ = (x5_1 ++ [t2]) := ⟨_, rfl⟩
                          replace H : (grilleref16_Steps.l0 kj3 l1 y13 (wrap64 (x6_1 + 1)) a0_0 a0_1 a0_2 l0_3) = some r := by first | (rw [hy13]; with_reducible exact H) | (have H2_ := (Option.bind_some _ _).symm.trans H; rw [hy13]; with_reducible exact H2_) | (have H2_ := (Option.bind_some _ _).symm.trans H; with_reducible exact H2_) | with_reducible exact H | (rw [hy13]; exact H) | exact H
                          have Ny13 := Aside0.mk hy13
                          clear hy13
                          have H' := Aside0.mk H
                          clear H
                          have hcz30_0 : wc.cell? ⟨gb1, 0, none⟩ = some (.int .i64 a0_0) := (blk_cell BK1.out 0).trans rfl
                          have hcz30_1 : wc.cell? ⟨gb1, 1, none⟩ = some (.string a0_1) := (blk_cell BK1.out 1).trans rfl
                          have hcz30_2 : wc.cell? ⟨gb1, 2, none⟩ = some (.string a0_2) := (blk_cell BK1.out 2).trans rfl
                          have hcz30_3 : wc.cell? ⟨gb1, 3, none⟩ = some (.slice A0_3 l0_3.length c0_3) := (blk_cell BK1.out 3).trans rfl
                          have hfz30_0 := blk_frozen BK1.out 0
                          have hfz30_1 := blk_frozen BK1.out 1
                          have hfz30_2 := blk_frozen BK1.out 2
                          have hfz30_3 := blk_frozen BK1.out 3
                          go_wp2_with (first | ((with_reducible refine gate_callee (f := 20) rfl ?_); refine goesL_ (some 24) rfl rfl Tryd.func20 (by kernel_rfl) rfl #[.int .i64 x6_1] rfl (by (try simp only [List.map_toArray, List.map_cons, List.map_nil]); first | done | rfl | (simp only [List.length_drop, List.length_take]; rfl)) ?_; (with_reducible refine (strconv_Itoa.calls x6_1 t2 _ ?side1 A10.out).mono ?_); (case side1 => exact Tabs.below HT.out (by repeat (first | (with_reducible first | exact HB.out | apply below_alloc | apply pw_below_drewN | apply below_drew1 | refine below_set ?_ GE1.out) | exact HB.out))); rintro e w31 ⟨rfl, hb⟩; refine ⟨_, rfl, ?_⟩; have n0_ := Aside0.mk (Kd.R_below (by (with_reducible repeat (first | apply Kd.R_alloc | apply Kd.R_drewN | apply Kd.R_drew)); exact HO_5.out) hb); have n1_ := Aside0.mk (blk_below (g := gb1) (o := .cells #[.int .i64 a0_0, .string a0_1, .string a0_2, .slice A0_3 l0_3.length c0_3] 24 (0, 0)) (by (with_reducible repeat (first | refine blk_drewN ?_ _ | refine blk_drew ?_ | refine blk_alloc ?_ _)); exact BK1.out) hb); have n2_ := Aside0.mk (below_step (by repeat (first | (with_reducible first | exact HB.out | apply below_alloc | apply pw_below_drewN | apply below_drew1 | refine below_set ?_ GE1.out) | exact HB.out)) hb); clear HO_5; clear BK1; clear HB; have HO_5 := n0_; have BK1 := n1_; have HB := n2_; clear n0_ n1_ n2_; (try clear hb); (try clear hb2); (try clear hk); (try clear hi); have hcz32_0 : w31.cell? ⟨gb1, 0, none⟩ = some (.int .i64 a0_0) := (blk_cell BK1.out 0).trans rfl; have hcz32_1 : w31.cell? ⟨gb1, 1, none⟩ = some (.string a0_1) := (blk_cell BK1.out 1).trans rfl; have hcz32_2 : w31.cell? ⟨gb1, 2, none⟩ = some (.string a0_2) := (blk_cell BK1.out 2).trans rfl; have hcz32_3 : w31.cell? ⟨gb1, 3, none⟩ = some (.slice A0_3 l0_3.length c0_3) := (blk_cell BK1.out 3).trans rfl; have hfz32_0 := blk_frozen BK1.out 0; have hfz32_1 := blk_frozen BK1.out 1; have hfz32_2 := blk_frozen BK1.out 2; have hfz32_3 := blk_frozen BK1.out 3; have p3 : 0 ≤ ((ji13) : Int) := of_decide_eq_true (by first | (with_reducible assumption) | assumption); have q3 : (ji13) < (l0_3.length : Int) := of_decide_eq_true (by first | (with_reducible assumption) | assumption); obtain ⟨ad3, e3, hx3_0⟩ := Kd.at_int HR0_3.out (ji13) p3 q3; cases e3; replace hx3_0 := (HB.out.cell (World.block_lt_of_cell? w _ hx3_0)).trans hx3_0; replace p3 := eq_true p3; replace q3 := eq_true q3) | ((with_reducible refine gate_builtin (b := .append) (xs := #[.tmp 63, .tmp 65]) rfl ?_); (try (refine gate_guard (by rfl) ?_; dsimp only)); at_builtin; refine Kd.R_append Kd.string (w0 := w) w.heap.size rfl (.tmp 63) (.tmp 65) 32 9 (.string ⟨#[]⟩) 16 rfl Tryd.underlying32 info9 rfl (by decide) (by omega) u5 x5_1 t2 [.string t2] (fun _ => True) (fun _ => False) rfl rfl ?aP (fun _ hk => hk.elim) ?aF ?aO ?aB ?aS ?aL ?_; (case aP => exact rfl); (case aB => exact (by repeat (first | (with_reducible first | exact HB.out | apply below_alloc | apply pw_below_drewN | apply below_drew1 | refine below_set ?_ GE1.out) | exact HB.out))); (case aF => exact (fun _ _ => trivial)); (case aO => exact (by (with_reducible repeat (first | apply Kd.R_alloc | apply Kd.R_drewN | apply Kd.R_drew)); exact HO_5.out)); (case aS => exact (below_size (by repeat (first | (with_reducible first | exact HB.out | apply below_alloc | apply pw_below_drewN | apply below_drew1 | refine below_set ?_ GE1.out) | exact HB.out)))); (case aL => have := LMc29.out; omega); intro v14 w33 ho hb hg hat; rw [← Ny13.out] at ho; have n0_ := Aside0.mk (blk_grown (g := gb1) (o := .cells #[.int .i64 a0_0, .string a0_1, .string a0_2, .slice (some ad3) l0_3.length c0_3] 24 (0, 0)) (by (with_reducible repeat (first | refine blk_drewN ?_ _ | refine blk_drew ?_ | refine blk_alloc ?_ _)); exact BK1.out) hg (Kd.R_ne HO_5.out BK1.out (by decide))); have n1_ := Aside0.mk (hb); have n2_ := Aside0.mk (ho); clear BK1; clear HB; clear HO_5; have BK1 := n0_; have HB := n1_; have HO15 := n2_; clear n0_ n1_ n2_; clear ho hb hg hat))
                          go_roundg kj3
                          case measure => have := HK1.out; have := HJ3.out; omega
                          case rel => exact ⟨(y13), (wrap64 (x6_1 + 1)), (by first | rfl | (simp; done) | (simp [*]; done)), H', ⟨by have := HK1.out; have := HJ3.out; omega⟩, ⟨by (with_reducible repeat (first | apply Kd.R_alloc | apply Kd.R_drewN | apply Kd.R_drew)); exact HO15.out⟩, ⟨by (with_reducible repeat (first | refine blk_drewN ?_ _ | refine blk_drew ?_ | refine blk_alloc ?_ _)); exact BK1.out⟩, ⟨by repeat (first | (with_reducible first | exact HB.out | apply below_alloc | apply pw_below_drewN | apply below_drew1 | refine below_set ?_ GE1.out) | exact HB.out)⟩⟩
                        · rw [if_neg c29] at H
                          exact absurd H (by simp)
                    · rw [if_neg c15] at H
                      exact absurd H (by simp)
                  · rw [if_neg c14] at H
                    exact absurd H (by simp)
                · rw [if_neg c12] at H
                  have c12b0 : ((Int.tmod x6_1 2) == 1) = false := beq_eq_false_iff_ne.mpr c12
                  have c12b1 : ((Int.tmod x6_1 2) != 1) = true := bne_iff_ne.mpr c12
                  by_cases c34 : x5_1.length < 8796093022208
                  · rw [if_pos c34] at H
                    have LMc34 := Aside0.mk c34
                    clear c34
                    obtain ⟨y16, hy16⟩ : ∃ y_ : List ByteArray, y_ = (x5_1 ++ [t2]) := ⟨_, rfl⟩
                    replace H : (grilleref16_Steps.l0 kj3 l1 y16 (wrap64 (x6_1 + 1)) a0_0 a0_1 a0_2 l0_3) = some r := by first | (rw [hy16]; with_reducible exact H) | (have H2_ := (Option.bind_some _ _).symm.trans H; rw [hy16]; with_reducible exact H2_) | (have H2_ := (Option.bind_some _ _).symm.trans H; with_reducible exact H2_) | with_reducible exact H | (rw [hy16]; exact H) | exact H
                    have Ny16 := Aside0.mk hy16
                    clear hy16
                    have H' := Aside0.mk H
                    clear H
                    have hcz35_0 : wc.cell? ⟨gb1, 0, none⟩ = some (.int .i64 a0_0) := (blk_cell BK1.out 0).trans rfl
                    have hcz35_1 : wc.cell? ⟨gb1, 1, none⟩ = some (.string a0_1) := (blk_cell BK1.out 1).trans rfl
                    have hcz35_2 : wc.cell? ⟨gb1, 2, none⟩ = some (.string a0_2) := (blk_cell BK1.out 2).trans rfl
                    have hcz35_3 : wc.cell? ⟨gb1, 3, none⟩ = some (.slice A0_3 l0_3.length c0_3) := (blk_cell BK1.out 3).trans rfl
                    have hfz35_0 := blk_frozen BK1.out 0
                    have hfz35_1 := blk_frozen BK1.out 1
                    have hfz35_2 := blk_frozen BK1.out 2
                    have hfz35_3 := blk_frozen BK1.out 3
                    go_wp2_with (first | ((with_reducible refine gate_callee (f := 20) rfl ?_); refine goesL_ (some 24) rfl rfl Tryd.func20 (by kernel_rfl) rfl #[.int .i64 x6_1] rfl (by (try simp only [List.map_toArray, List.map_cons, List.map_nil]); first | done | rfl | (simp only [List.length_drop, List.length_take]; rfl)) ?_; (with_reducible refine (strconv_Itoa.calls x6_1 t2 _ ?side1 A10.out).mono ?_); (case side1 => exact Tabs.below HT.out (by repeat (first | (with_reducible first | exact HB.out | apply below_alloc | apply pw_below_drewN | apply below_drew1 | refine below_set ?_ GE1.out) | exact HB.out))); rintro e w36 ⟨rfl, hb⟩; refine ⟨_, rfl, ?_⟩; have n0_ := Aside0.mk (Kd.R_below (by (with_reducible repeat (first | apply Kd.R_alloc | apply Kd.R_drewN | apply Kd.R_drew)); exact HO_5.out) hb); have n1_ := Aside0.mk (blk_below (g := gb1) (o := .cells #[.int .i64 a0_0, .string a0_1, .string a0_2, .slice A0_3 l0_3.length c0_3] 24 (0, 0)) (by (with_reducible repeat (first | refine blk_drewN ?_ _ | refine blk_drew ?_ | refine blk_alloc ?_ _)); exact BK1.out) hb); have n2_ := Aside0.mk (below_step (by repeat (first | (with_reducible first | exact HB.out | apply below_alloc | apply pw_below_drewN | apply below_drew1 | refine below_set ?_ GE1.out) | exact HB.out)) hb); clear HO_5; clear BK1; clear HB; have HO_5 := n0_; have BK1 := n1_; have HB := n2_; clear n0_ n1_ n2_; (try clear hb); (try clear hb2); (try clear hk); (try clear hi); have hcz37_0 : w36.cell? ⟨gb1, 0, none⟩ = some (.int .i64 a0_0) := (blk_cell BK1.out 0).trans rfl; have hcz37_1 : w36.cell? ⟨gb1, 1, none⟩ = some (.string a0_1) := (blk_cell BK1.out 1).trans rfl; have hcz37_2 : w36.cell? ⟨gb1, 2, none⟩ = some (.string a0_2) := (blk_cell BK1.out 2).trans rfl; have hcz37_3 : w36.cell? ⟨gb1, 3, none⟩ = some (.slice A0_3 l0_3.length c0_3) := (blk_cell BK1.out 3).trans rfl; have hfz37_0 := blk_frozen BK1.out 0; have hfz37_1 := blk_frozen BK1.out 1; have hfz37_2 := blk_frozen BK1.out 2; have hfz37_3 := blk_frozen BK1.out 3) | ((with_reducible refine gate_builtin (b := .append) (xs := #[.tmp 63, .tmp 65]) rfl ?_); (try (refine gate_guard (by rfl) ?_; dsimp only)); at_builtin; refine Kd.R_append Kd.string (w0 := w) w.heap.size rfl (.tmp 63) (.tmp 65) 32 9 (.string ⟨#[]⟩) 16 rfl Tryd.underlying32 info9 rfl (by decide) (by omega) u5 x5_1 t2 [.string t2] (fun _ => True) (fun _ => False) rfl rfl ?aP (fun _ hk => hk.elim) ?aF ?aO ?aB ?aS ?aL ?_; (case aP => exact rfl); (case aB => exact (by repeat (first | (with_reducible first | exact HB.out | apply below_alloc | apply pw_below_drewN | apply below_drew1 | refine below_set ?_ GE1.out) | exact HB.out))); (case aF => exact (fun _ _ => trivial)); (case aO => exact (by (with_reducible repeat (first | apply Kd.R_alloc | apply Kd.R_drewN | apply Kd.R_drew)); exact HO_5.out)); (case aS => exact (below_size (by repeat (first | (with_reducible first | exact HB.out | apply below_alloc | apply pw_below_drewN | apply below_drew1 | refine below_set ?_ GE1.out) | exact HB.out)))); (case aL => have := LMc34.out; omega); intro v17 w38 ho hb hg hat; rw [← Ny16.out] at ho; have n0_ := Aside0.mk (blk_grown (g := gb1) (o := .cells #[.int .i64 a0_0, .string a0_1, .string a0_2, .slice A0_3 l0_3.length c0_3] 24 (0, 0)) (by (with_reducible repeat (first | refine blk_drewN ?_ _ | refine blk_drew ?_ | refine blk_alloc ?_ _)); exact BK1.out) hg (Kd.R_ne HO_5.out BK1.out (by decide))); have n1_ := Aside0.mk (hb); have n2_ := Aside0.mk (ho); clear BK1; clear HB; clear HO_5; have BK1 := n0_; have HB := n1_; have HO18 := n2_; clear n0_ n1_ n2_; clear ho hb hg hat))
                    go_roundg kj3
                    case measure => have := HK1.out; have := HJ3.out; omega
                    case rel => exact ⟨(y16), (wrap64 (x6_1 + 1)), (by first | rfl | (simp; done) | (simp [*]; done)), H', ⟨by have := HK1.out; have := HJ3.out; omega⟩, ⟨by (with_reducible repeat (first | apply Kd.R_alloc | apply Kd.R_drewN | apply Kd.R_drew)); exact HO18.out⟩, ⟨by (with_reducible repeat (first | refine blk_drewN ?_ _ | refine blk_drew ?_ | refine blk_alloc ?_ _)); exact BK1.out⟩, ⟨by repeat (first | (with_reducible first | exact HB.out | apply below_alloc | apply pw_below_drewN | apply below_drew1 | refine below_set ?_ GE1.out) | exact HB.out)⟩⟩
                  · rw [if_neg c34] at H
                    exact absurd H (by simp)
              · rw [if_neg c11] at H
                have c11b0 : (a0_0 == 2) = false := beq_eq_false_iff_ne.mpr c11
                have c11b1 : (a0_0 != 2) = true := bne_iff_ne.mpr c11
                by_cases c39 : x5_1.length < 8796093022208
                · rw [if_pos c39] at H
                  have LMc39 := Aside0.mk c39
                  clear c39
                  obtain ⟨y19, hy19⟩ : ∃ y_ : List ByteArray, y_ = (x5_1 ++ [t2]) := ⟨_, rfl⟩
                  replace H : (grilleref16_Steps.l0 kj3 l1 y19 (wrap64 (x6_1 + 1)) a0_0 a0_1 a0_2 l0_3) = some r := by first | (rw [hy19]; with_reducible exact H) | (have H2_ := (Option.bind_some _ _).symm.trans H; rw [hy19]; with_reducible exact H2_) | (have H2_ := (Option.bind_some _ _).symm.trans H; with_reducible exact H2_) | with_reducible exact H | (rw [hy19]; exact H) | exact H
                  have Ny19 := Aside0.mk hy19
                  clear hy19
                  have H' := Aside0.mk H
                  clear H
                  have hcz40_0 : wc.cell? ⟨gb1, 0, none⟩ = some (.int .i64 a0_0) := (blk_cell BK1.out 0).trans rfl
                  have hcz40_1 : wc.cell? ⟨gb1, 1, none⟩ = some (.string a0_1) := (blk_cell BK1.out 1).trans rfl
                  have hcz40_2 : wc.cell? ⟨gb1, 2, none⟩ = some (.string a0_2) := (blk_cell BK1.out 2).trans rfl
                  have hcz40_3 : wc.cell? ⟨gb1, 3, none⟩ = some (.slice A0_3 l0_3.length c0_3) := (blk_cell BK1.out 3).trans rfl
                  have hfz40_0 := blk_frozen BK1.out 0
                  have hfz40_1 := blk_frozen BK1.out 1
                  have hfz40_2 := blk_frozen BK1.out 2
                  have hfz40_3 := blk_frozen BK1.out 3
                  go_wp2_with (first | ((with_reducible refine gate_callee (f := 20) rfl ?_); refine goesL_ (some 24) rfl rfl Tryd.func20 (by kernel_rfl) rfl #[.int .i64 x6_1] rfl (by (try simp only [List.map_toArray, List.map_cons, List.map_nil]); first | done | rfl | (simp only [List.length_drop, List.length_take]; rfl)) ?_; (with_reducible refine (strconv_Itoa.calls x6_1 t2 _ ?side1 A10.out).mono ?_); (case side1 => exact Tabs.below HT.out (by repeat (first | (with_reducible first | exact HB.out | apply below_alloc | apply pw_below_drewN | apply below_drew1 | refine below_set ?_ GE1.out) | exact HB.out))); rintro e w41 ⟨rfl, hb⟩; refine ⟨_, rfl, ?_⟩; have n0_ := Aside0.mk (Kd.R_below (by (with_reducible repeat (first | apply Kd.R_alloc | apply Kd.R_drewN | apply Kd.R_drew)); exact HO_5.out) hb); have n1_ := Aside0.mk (blk_below (g := gb1) (o := .cells #[.int .i64 a0_0, .string a0_1, .string a0_2, .slice A0_3 l0_3.length c0_3] 24 (0, 0)) (by (with_reducible repeat (first | refine blk_drewN ?_ _ | refine blk_drew ?_ | refine blk_alloc ?_ _)); exact BK1.out) hb); have n2_ := Aside0.mk (below_step (by repeat (first | (with_reducible first | exact HB.out | apply below_alloc | apply pw_below_drewN | apply below_drew1 | refine below_set ?_ GE1.out) | exact HB.out)) hb); clear HO_5; clear BK1; clear HB; have HO_5 := n0_; have BK1 := n1_; have HB := n2_; clear n0_ n1_ n2_; (try clear hb); (try clear hb2); (try clear hk); (try clear hi); have hcz42_0 : w41.cell? ⟨gb1, 0, none⟩ = some (.int .i64 a0_0) := (blk_cell BK1.out 0).trans rfl; have hcz42_1 : w41.cell? ⟨gb1, 1, none⟩ = some (.string a0_1) := (blk_cell BK1.out 1).trans rfl; have hcz42_2 : w41.cell? ⟨gb1, 2, none⟩ = some (.string a0_2) := (blk_cell BK1.out 2).trans rfl; have hcz42_3 : w41.cell? ⟨gb1, 3, none⟩ = some (.slice A0_3 l0_3.length c0_3) := (blk_cell BK1.out 3).trans rfl; have hfz42_0 := blk_frozen BK1.out 0; have hfz42_1 := blk_frozen BK1.out 1; have hfz42_2 := blk_frozen BK1.out 2; have hfz42_3 := blk_frozen BK1.out 3) | ((with_reducible refine gate_builtin (b := .append) (xs := #[.tmp 63, .tmp 65]) rfl ?_); (try (refine gate_guard (by rfl) ?_; dsimp only)); at_builtin; refine Kd.R_append Kd.string (w0 := w) w.heap.size rfl (.tmp 63) (.tmp 65) 32 9 (.string ⟨#[]⟩) 16 rfl Tryd.underlying32 info9 rfl (by decide) (by omega) u5 x5_1 t2 [.string t2] (fun _ => True) (fun _ => False) rfl rfl ?aP (fun _ hk => hk.elim) ?aF ?aO ?aB ?aS ?aL ?_; (case aP => exact rfl); (case aB => exact (by repeat (first | (with_reducible first | exact HB.out | apply below_alloc | apply pw_below_drewN | apply below_drew1 | refine below_set ?_ GE1.out) | exact HB.out))); (case aF => exact (fun _ _ => trivial)); (case aO => exact (by (with_reducible repeat (first | apply Kd.R_alloc | apply Kd.R_drewN | apply Kd.R_drew)); exact HO_5.out)); (case aS => exact (below_size (by repeat (first | (with_reducible first | exact HB.out | apply below_alloc | apply pw_below_drewN | apply below_drew1 | refine below_set ?_ GE1.out) | exact HB.out)))); (case aL => have := LMc39.out; omega); intro v20 w43 ho hb hg hat; rw [← Ny19.out] at ho; have n0_ := Aside0.mk (blk_grown (g := gb1) (o := .cells #[.int .i64 a0_0, .string a0_1, .string a0_2, .slice A0_3 l0_3.length c0_3] 24 (0, 0)) (by (with_reducible repeat (first | refine blk_drewN ?_ _ | refine blk_drew ?_ | refine blk_alloc ?_ _)); exact BK1.out) hg (Kd.R_ne HO_5.out BK1.out (by decide))); have n1_ := Aside0.mk (hb); have n2_ := Aside0.mk (ho); clear BK1; clear HB; clear HO_5; have BK1 := n0_; have HB := n1_; have HO21 := n2_; clear n0_ n1_ n2_; clear ho hb hg hat))
                  go_roundg kj3
                  case measure => have := HK1.out; have := HJ3.out; omega
                  case rel => exact ⟨(y19), (wrap64 (x6_1 + 1)), (by first | rfl | (simp; done) | (simp [*]; done)), H', ⟨by have := HK1.out; have := HJ3.out; omega⟩, ⟨by (with_reducible repeat (first | apply Kd.R_alloc | apply Kd.R_drewN | apply Kd.R_drew)); exact HO21.out⟩, ⟨by (with_reducible repeat (first | refine blk_drewN ?_ _ | refine blk_drew ?_ | refine blk_alloc ?_ _)); exact BK1.out⟩, ⟨by repeat (first | (with_reducible first | exact HB.out | apply below_alloc | apply pw_below_drewN | apply below_drew1 | refine below_set ?_ GE1.out) | exact HB.out)⟩⟩
                · rw [if_neg c39] at H
                  exact absurd H (by simp)
            · rw [if_neg c9] at H
              have c9b0 : (a0_0 == 1) = false := beq_eq_false_iff_ne.mpr c9
              have c9b1 : (a0_0 != 1) = true := bne_iff_ne.mpr c9
              by_cases c44 : a0_0 = 2
              · rw [if_pos c44] at H
                have c44b0 : (a0_0 == 2) = true := beq_iff_eq.mpr c44
                have c44b1 : (a0_0 != 2) = false := bne_eq_false_iff_eq.mpr c44
                clear c44
                by_cases c45 : (Int.tmod x6_1 2) = 1
                · rw [if_pos c45] at H
                  have c45b0 : ((Int.tmod x6_1 2) == 1) = true := beq_iff_eq.mpr c45
                  have c45b1 : ((Int.tmod x6_1 2) != 1) = false := bne_eq_false_iff_eq.mpr c45
                  clear c45
                  obtain ⟨ji46, hji46⟩ : ∃ j_ : Int, (wrap64 (x6_1 - 1)) = j_ := ⟨_, rfl⟩
                  replace H : (if 0 ≤ (ji46) then (if (ji46) < (l0_3.length : Int) then (if (rd l0_3 (ji46)) ≥ 0 then (if (rd l0_3 (ji46)) < (l1.length : Int) then (if 0 ≤ (rd l0_3 (ji46)) then (if x5_1.length < 8796093022208 then (grilleref16_Steps.l0 kj3 l1 (x5_1 ++ [(rd_T24 l1 (rd l0_3 (ji46))).f2]) (wrap64 (x6_1 + 1)) a0_0 a0_1 a0_2 l0_3) else (none)) else (none)) else (if x5_1.length < 8796093022208 then (grilleref16_Steps.l0 kj3 l1 (x5_1 ++ [(⟨#[]⟩ : ByteArray)]) (wrap64 (x6_1 + 1)) a0_0 a0_1 a0_2 l0_3) else (none))) else (if x5_1.length < 8796093022208 then (grilleref16_Steps.l0 kj3 l1 (x5_1 ++ [(⟨#[]⟩ : ByteArray)]) (wrap64 (x6_1 + 1)) a0_0 a0_1 a0_2 l0_3) else (none))) else (none)) else (none)) = some r := by first | (rw [hji46] at H; exact H) | (simp only [hji46] at H ⊢; exact H)
                  have hji46w : (IntKind.i64.wrap (x6_1 - 1)) = ji46 := (i64_w _).trans hji46
                  by_cases c47 : 0 ≤ (ji46)
                  · rw [if_pos c47] at H
                    have c47b0 : decide (0 ≤ (ji46)) = true := decide_eq_true c47
                    clear c47
                    by_cases c48 : (ji46) < (l0_3.length : Int)
                    · rw [if_pos c48] at H
                      have c48b0 : decide ((ji46) < (l0_3.length : Int)) = true := decide_eq_true c48
                      clear c48
                      by_cases c49 : (rd l0_3 (ji46)) ≥ 0
                      · rw [if_pos c49] at H
                        have c49b0 : decide (0 ≤ (rd l0_3 (ji46))) = true := decide_eq_true c49
                        clear c49
                        by_cases c50 : (rd l0_3 (ji46)) < (l1.length : Int)
                        · rw [if_pos c50] at H
                          have c50b0 : decide ((rd l0_3 (ji46)) < (l1.length : Int)) = true := decide_eq_true c50
                          clear c50
                          by_cases c51 : 0 ≤ (rd l0_3 (ji46))
                          · rw [if_pos c51] at H
                            have c51b0 : decide (0 ≤ (rd l0_3 (ji46))) = true := decide_eq_true c51
                            clear c51
                            by_cases c52 : x5_1.length < 8796093022208
                            · rw [if_pos c52] at H
                              have LMc52 := Aside0.mk c52
                              clear c52
                              obtain ⟨y26, hy26⟩ : ∃ y_ : List ByteArray, y_ = (x5_1 ++ [(rd_T24 l1 (rd l0_3 (ji46))).f2]) := ⟨_, rfl⟩
                              replace H : (grilleref16_Steps.l0 kj3 l1 y26 (wrap64 (x6_1 + 1)) a0_0 a0_1 a0_2 l0_3) = some r := by first | (rw [hy26]; with_reducible exact H) | (have H2_ := (Option.bind_some _ _).symm.trans H; rw [hy26]; with_reducible exact H2_) | (have H2_ := (Option.bind_some _ _).symm.trans H; with_reducible exact H2_) | with_reducible exact H | (rw [hy26]; exact H) | exact H
                              have Ny26 := Aside0.mk hy26
                              clear hy26
                              have H' := Aside0.mk H
                              clear H
                              have hcz53_0 : wc.cell? ⟨gb1, 0, none⟩ = some (.int .i64 a0_0) := (blk_cell BK1.out 0).trans rfl
                              have hcz53_1 : wc.cell? ⟨gb1, 1, none⟩ = some (.string a0_1) := (blk_cell BK1.out 1).trans rfl
                              have hcz53_2 : wc.cell? ⟨gb1, 2, none⟩ = some (.string a0_2) := (blk_cell BK1.out 2).trans rfl
                              have hcz53_3 : wc.cell? ⟨gb1, 3, none⟩ = some (.slice A0_3 l0_3.length c0_3) := (blk_cell BK1.out 3).trans rfl
                              have hfz53_0 := blk_frozen BK1.out 0
                              have hfz53_1 := blk_frozen BK1.out 1
                              have hfz53_2 := blk_frozen BK1.out 2
                              have hfz53_3 := blk_frozen BK1.out 3
                              have p22 : 0 ≤ ((ji46) : Int) := of_decide_eq_true (by first | (with_reducible assumption) | assumption)
                              have q22 : (ji46) < (l0_3.length : Int) := of_decide_eq_true (by first | (with_reducible assumption) | assumption)
                              obtain ⟨ad22, e22, hx22_0⟩ := Kd.at_int HR0_3.out (ji46) p22 q22
                              cases e22
                              replace hx22_0 := (HB.out.cell (World.block_lt_of_cell? w _ hx22_0)).trans hx22_0
                              replace p22 := eq_true p22
                              replace q22 := eq_true q22
                              have p23 : 0 ≤ ((ji46) : Int) := of_decide_eq_true (by first | (with_reducible assumption) | assumption)
                              have q23 : (ji46) < (l0_3.length : Int) := of_decide_eq_true (by first | (with_reducible assumption) | assumption)
                              obtain ⟨ad23, e23, hx23_0⟩ := Kd.at_int HR0_3.out (ji46) p23 q23
                              obtain rfl : ad22 = ad23 := (by injection e23)
                              replace hx23_0 := (HB.out.cell (World.block_lt_of_cell? w _ hx23_0)).trans hx23_0
                              replace p23 := eq_true p23
                              replace q23 := eq_true q23
                              have p24 : 0 ≤ ((ji46) : Int) := of_decide_eq_true (by first | (with_reducible assumption) | assumption)
                              have q24 : (ji46) < (l0_3.length : Int) := of_decide_eq_true (by first | (with_reducible assumption) | assumption)
                              obtain ⟨ad24, e24, hx24_0⟩ := Kd.at_int HR0_3.out (ji46) p24 q24
                              obtain rfl : ad22 = ad24 := (by injection e24)
                              replace hx24_0 := (HB.out.cell (World.block_lt_of_cell? w _ hx24_0)).trans hx24_0
                              replace p24 := eq_true p24
                              replace q24 := eq_true q24
                              have p25 : 0 ≤ ((rd l0_3 (ji46)) : Int) := of_decide_eq_true (by first | (with_reducible assumption) | assumption)
                              have q25 : (rd l0_3 (ji46)) < (l1.length : Int) := of_decide_eq_true (by first | (with_reducible assumption) | assumption)
                              obtain ⟨ad25, A25_3, c25_3, e25, hx25_0, hx25_1, hx25_2, hx25_3, hl25_3, hi25_3⟩ := at_T24 HR1.out (rd l0_3 (ji46)) p25 q25
                              cases e25
                              replace hx25_0 := (HB.out.cell (World.block_lt_of_cell? w _ hx25_0)).trans hx25_0
                              replace hx25_1 := (HB.out.cell (World.block_lt_of_cell? w _ hx25_1)).trans hx25_1
                              replace hx25_2 := (HB.out.cell (World.block_lt_of_cell? w _ hx25_2)).trans hx25_2
                              replace hx25_3 := (HB.out.cell (World.block_lt_of_cell? w _ hx25_3)).trans hx25_3
                              have HR25_3 := Aside0.mk hi25_3
                              have HC25_3 := Aside0.mk hl25_3
                              clear hi25_3 hl25_3
                              replace p25 := eq_true p25
                              replace q25 := eq_true q25
                              go_wp2_with (first | ((with_reducible refine gate_builtin (b := .append) (xs := #[.tmp 63, .tmp 65]) rfl ?_); (try (refine gate_guard (by rfl) ?_; dsimp only)); at_builtin; refine Kd.R_append Kd.string (w0 := w) w.heap.size rfl (.tmp 63) (.tmp 65) 32 9 (.string ⟨#[]⟩) 16 rfl Tryd.underlying32 info9 rfl (by decide) (by omega) u5 x5_1 ((rd_T24 l1 (rd l0_3 (ji46))).f2) [.string ((rd_T24 l1 (rd l0_3 (ji46))).f2)] (fun _ => True) (fun _ => False) rfl rfl ?aP (fun _ hk => hk.elim) ?aF ?aO ?aB ?aS ?aL ?_; (case aP => exact rfl); (case aB => exact (by repeat (first | (with_reducible first | exact HB.out | apply below_alloc | apply pw_below_drewN | apply below_drew1 | refine below_set ?_ GE1.out) | exact HB.out))); (case aF => exact (fun _ _ => trivial)); (case aO => exact (by (with_reducible repeat (first | apply Kd.R_alloc | apply Kd.R_drewN | apply Kd.R_drew)); exact HO_5.out)); (case aS => exact (below_size (by repeat (first | (with_reducible first | exact HB.out | apply below_alloc | apply pw_below_drewN | apply below_drew1 | refine below_set ?_ GE1.out) | exact HB.out)))); (case aL => have := LMc52.out; omega); intro v27 w54 ho hb hg hat; rw [← Ny26.out] at ho; have n0_ := Aside0.mk (blk_grown (g := gb1) (o := .cells #[.int .i64 a0_0, .string a0_1, .string a0_2, .slice (some ad22) l0_3.length c0_3] 24 (0, 0)) (by (with_reducible repeat (first | refine blk_drewN ?_ _ | refine blk_drew ?_ | refine blk_alloc ?_ _)); exact BK1.out) hg (Kd.R_ne HO_5.out BK1.out (by decide))); have n1_ := Aside0.mk (hb); have n2_ := Aside0.mk (ho); clear BK1; clear HB; clear HO_5; have BK1 := n0_; have HB := n1_; have HO28 := n2_; clear n0_ n1_ n2_; clear ho hb hg hat))
                              go_roundg kj3
                              case measure => have := HK1.out; have := HJ3.out; omega
                              case rel => exact ⟨(y26), (wrap64 (x6_1 + 1)), (by first | rfl | (simp; done) | (simp [*]; done)), H', ⟨by have := HK1.out; have := HJ3.out; omega⟩, ⟨by (with_reducible repeat (first | apply Kd.R_alloc | apply Kd.R_drewN | apply Kd.R_drew)); exact HO28.out⟩, ⟨by (with_reducible repeat (first | refine blk_drewN ?_ _ | refine blk_drew ?_ | refine blk_alloc ?_ _)); exact BK1.out⟩, ⟨by repeat (first | (with_reducible first | exact HB.out | apply below_alloc | apply pw_below_drewN | apply below_drew1 | refine below_set ?_ GE1.out) | exact HB.out)⟩⟩
                            · rw [if_neg c52] at H
                              exact absurd H (by simp)
                          · rw [if_neg c51] at H
                            exact absurd H (by simp)
                        · rw [if_neg c50] at H
                          have c50b0 : decide ((rd l0_3 (ji46)) < (l1.length : Int)) = false := decide_eq_false c50
                          clear c50
                          by_cases c55 : x5_1.length < 8796093022208
                          · rw [if_pos c55] at H
                            have LMc55 := Aside0.mk c55
                            clear c55
                            obtain ⟨y29, hy29⟩ : ∃ y_ : List ByteArray, y_ = (x5_1 ++ [(⟨#[]⟩ : ByteArray)]) := ⟨_, rfl⟩
                            replace H : (grilleref16_Steps.l0 kj3 l1 y29 (wrap64 (x6_1 + 1)) a0_0 a0_1 a0_2 l0_3) = some r := by first | (rw [hy29]; with_reducible exact H) | (have H2_ := (Option.bind_some _ _).symm.trans H; rw [hy29]; with_reducible exact H2_) | (have H2_ := (Option.bind_some _ _).symm.trans H; with_reducible exact H2_) | with_reducible exact H | (rw [hy29]; exact H) | exact H
                            have Ny29 := Aside0.mk hy29
                            clear hy29
                            have H' := Aside0.mk H
                            clear H
                            have hcz56_0 : wc.cell? ⟨gb1, 0, none⟩ = some (.int .i64 a0_0) := (blk_cell BK1.out 0).trans rfl
                            have hcz56_1 : wc.cell? ⟨gb1, 1, none⟩ = some (.string a0_1) := (blk_cell BK1.out 1).trans rfl
                            have hcz56_2 : wc.cell? ⟨gb1, 2, none⟩ = some (.string a0_2) := (blk_cell BK1.out 2).trans rfl
                            have hcz56_3 : wc.cell? ⟨gb1, 3, none⟩ = some (.slice A0_3 l0_3.length c0_3) := (blk_cell BK1.out 3).trans rfl
                            have hfz56_0 := blk_frozen BK1.out 0
                            have hfz56_1 := blk_frozen BK1.out 1
                            have hfz56_2 := blk_frozen BK1.out 2
                            have hfz56_3 := blk_frozen BK1.out 3
                            have p22 : 0 ≤ ((ji46) : Int) := of_decide_eq_true (by first | (with_reducible assumption) | assumption)
                            have q22 : (ji46) < (l0_3.length : Int) := of_decide_eq_true (by first | (with_reducible assumption) | assumption)
                            obtain ⟨ad22, e22, hx22_0⟩ := Kd.at_int HR0_3.out (ji46) p22 q22
                            cases e22
                            replace hx22_0 := (HB.out.cell (World.block_lt_of_cell? w _ hx22_0)).trans hx22_0
                            replace p22 := eq_true p22
                            replace q22 := eq_true q22
                            have p23 : 0 ≤ ((ji46) : Int) := of_decide_eq_true (by first | (with_reducible assumption) | assumption)
                            have q23 : (ji46) < (l0_3.length : Int) := of_decide_eq_true (by first | (with_reducible assumption) | assumption)
                            obtain ⟨ad23, e23, hx23_0⟩ := Kd.at_int HR0_3.out (ji46) p23 q23
                            obtain rfl : ad22 = ad23 := (by injection e23)
                            replace hx23_0 := (HB.out.cell (World.block_lt_of_cell? w _ hx23_0)).trans hx23_0
                            replace p23 := eq_true p23
                            replace q23 := eq_true q23
                            go_wp2_with (first | ((with_reducible refine gate_builtin (b := .append) (xs := #[.tmp 63, .tmp 65]) rfl ?_); (try (refine gate_guard (by rfl) ?_; dsimp only)); at_builtin; refine Kd.R_append Kd.string (w0 := w) w.heap.size rfl (.tmp 63) (.tmp 65) 32 9 (.string ⟨#[]⟩) 16 rfl Tryd.underlying32 info9 rfl (by decide) (by omega) u5 x5_1 (⟨#[]⟩ : ByteArray) [.string (⟨#[]⟩ : ByteArray)] (fun _ => True) (fun _ => False) rfl rfl ?aP (fun _ hk => hk.elim) ?aF ?aO ?aB ?aS ?aL ?_; (case aP => exact rfl); (case aB => exact (by repeat (first | (with_reducible first | exact HB.out | apply below_alloc | apply pw_below_drewN | apply below_drew1 | refine below_set ?_ GE1.out) | exact HB.out))); (case aF => exact (fun _ _ => trivial)); (case aO => exact (by (with_reducible repeat (first | apply Kd.R_alloc | apply Kd.R_drewN | apply Kd.R_drew)); exact HO_5.out)); (case aS => exact (below_size (by repeat (first | (with_reducible first | exact HB.out | apply below_alloc | apply pw_below_drewN | apply below_drew1 | refine below_set ?_ GE1.out) | exact HB.out)))); (case aL => have := LMc55.out; omega); intro v30 w57 ho hb hg hat; rw [← Ny29.out] at ho; have n0_ := Aside0.mk (blk_grown (g := gb1) (o := .cells #[.int .i64 a0_0, .string a0_1, .string a0_2, .slice (some ad22) l0_3.length c0_3] 24 (0, 0)) (by (with_reducible repeat (first | refine blk_drewN ?_ _ | refine blk_drew ?_ | refine blk_alloc ?_ _)); exact BK1.out) hg (Kd.R_ne HO_5.out BK1.out (by decide))); have n1_ := Aside0.mk (hb); have n2_ := Aside0.mk (ho); clear BK1; clear HB; clear HO_5; have BK1 := n0_; have HB := n1_; have HO31 := n2_; clear n0_ n1_ n2_; clear ho hb hg hat))
                            go_roundg kj3
                            case measure => have := HK1.out; have := HJ3.out; omega
                            case rel => exact ⟨(y29), (wrap64 (x6_1 + 1)), (by first | rfl | (simp; done) | (simp [*]; done)), H', ⟨by have := HK1.out; have := HJ3.out; omega⟩, ⟨by (with_reducible repeat (first | apply Kd.R_alloc | apply Kd.R_drewN | apply Kd.R_drew)); exact HO31.out⟩, ⟨by (with_reducible repeat (first | refine blk_drewN ?_ _ | refine blk_drew ?_ | refine blk_alloc ?_ _)); exact BK1.out⟩, ⟨by repeat (first | (with_reducible first | exact HB.out | apply below_alloc | apply pw_below_drewN | apply below_drew1 | refine below_set ?_ GE1.out) | exact HB.out)⟩⟩
                          · rw [if_neg c55] at H
                            exact absurd H (by simp)
                      · rw [if_neg c49] at H
                        have c49b0 : decide (0 ≤ (rd l0_3 (ji46))) = false := decide_eq_false c49
                        clear c49
                        by_cases c58 : x5_1.length < 8796093022208
                        · rw [if_pos c58] at H
                          have LMc58 := Aside0.mk c58
                          clear c58
                          obtain ⟨y32, hy32⟩ : ∃ y_ : List ByteArray, y_ = (x5_1 ++ [(⟨#[]⟩ : ByteArray)]) := ⟨_, rfl⟩
                          replace H : (grilleref16_Steps.l0 kj3 l1 y32 (wrap64 (x6_1 + 1)) a0_0 a0_1 a0_2 l0_3) = some r := by first | (rw [hy32]; with_reducible exact H) | (have H2_ := (Option.bind_some _ _).symm.trans H; rw [hy32]; with_reducible exact H2_) | (have H2_ := (Option.bind_some _ _).symm.trans H; with_reducible exact H2_) | with_reducible exact H | (rw [hy32]; exact H) | exact H
                          have Ny32 := Aside0.mk hy32
                          clear hy32
                          have H' := Aside0.mk H
                          clear H
                          have hcz59_0 : wc.cell? ⟨gb1, 0, none⟩ = some (.int .i64 a0_0) := (blk_cell BK1.out 0).trans rfl
                          have hcz59_1 : wc.cell? ⟨gb1, 1, none⟩ = some (.string a0_1) := (blk_cell BK1.out 1).trans rfl
                          have hcz59_2 : wc.cell? ⟨gb1, 2, none⟩ = some (.string a0_2) := (blk_cell BK1.out 2).trans rfl
                          have hcz59_3 : wc.cell? ⟨gb1, 3, none⟩ = some (.slice A0_3 l0_3.length c0_3) := (blk_cell BK1.out 3).trans rfl
                          have hfz59_0 := blk_frozen BK1.out 0
                          have hfz59_1 := blk_frozen BK1.out 1
                          have hfz59_2 := blk_frozen BK1.out 2
                          have hfz59_3 := blk_frozen BK1.out 3
                          have p22 : 0 ≤ ((ji46) : Int) := of_decide_eq_true (by first | (with_reducible assumption) | assumption)
                          have q22 : (ji46) < (l0_3.length : Int) := of_decide_eq_true (by first | (with_reducible assumption) | assumption)
                          obtain ⟨ad22, e22, hx22_0⟩ := Kd.at_int HR0_3.out (ji46) p22 q22
                          cases e22
                          replace hx22_0 := (HB.out.cell (World.block_lt_of_cell? w _ hx22_0)).trans hx22_0
                          replace p22 := eq_true p22
                          replace q22 := eq_true q22
                          go_wp2_with (first | ((with_reducible refine gate_builtin (b := .append) (xs := #[.tmp 63, .tmp 65]) rfl ?_); (try (refine gate_guard (by rfl) ?_; dsimp only)); at_builtin; refine Kd.R_append Kd.string (w0 := w) w.heap.size rfl (.tmp 63) (.tmp 65) 32 9 (.string ⟨#[]⟩) 16 rfl Tryd.underlying32 info9 rfl (by decide) (by omega) u5 x5_1 (⟨#[]⟩ : ByteArray) [.string (⟨#[]⟩ : ByteArray)] (fun _ => True) (fun _ => False) rfl rfl ?aP (fun _ hk => hk.elim) ?aF ?aO ?aB ?aS ?aL ?_; (case aP => exact rfl); (case aB => exact (by repeat (first | (with_reducible first | exact HB.out | apply below_alloc | apply pw_below_drewN | apply below_drew1 | refine below_set ?_ GE1.out) | exact HB.out))); (case aF => exact (fun _ _ => trivial)); (case aO => exact (by (with_reducible repeat (first | apply Kd.R_alloc | apply Kd.R_drewN | apply Kd.R_drew)); exact HO_5.out)); (case aS => exact (below_size (by repeat (first | (with_reducible first | exact HB.out | apply below_alloc | apply pw_below_drewN | apply below_drew1 | refine below_set ?_ GE1.out) | exact HB.out)))); (case aL => have := LMc58.out; omega); intro v33 w60 ho hb hg hat; rw [← Ny32.out] at ho; have n0_ := Aside0.mk (blk_grown (g := gb1) (o := .cells #[.int .i64 a0_0, .string a0_1, .string a0_2, .slice (some ad22) l0_3.length c0_3] 24 (0, 0)) (by (with_reducible repeat (first | refine blk_drewN ?_ _ | refine blk_drew ?_ | refine blk_alloc ?_ _)); exact BK1.out) hg (Kd.R_ne HO_5.out BK1.out (by decide))); have n1_ := Aside0.mk (hb); have n2_ := Aside0.mk (ho); clear BK1; clear HB; clear HO_5; have BK1 := n0_; have HB := n1_; have HO34 := n2_; clear n0_ n1_ n2_; clear ho hb hg hat))
                          go_roundg kj3
                          case measure => have := HK1.out; have := HJ3.out; omega
                          case rel => exact ⟨(y32), (wrap64 (x6_1 + 1)), (by first | rfl | (simp; done) | (simp [*]; done)), H', ⟨by have := HK1.out; have := HJ3.out; omega⟩, ⟨by (with_reducible repeat (first | apply Kd.R_alloc | apply Kd.R_drewN | apply Kd.R_drew)); exact HO34.out⟩, ⟨by (with_reducible repeat (first | refine blk_drewN ?_ _ | refine blk_drew ?_ | refine blk_alloc ?_ _)); exact BK1.out⟩, ⟨by repeat (first | (with_reducible first | exact HB.out | apply below_alloc | apply pw_below_drewN | apply below_drew1 | refine below_set ?_ GE1.out) | exact HB.out)⟩⟩
                        · rw [if_neg c58] at H
                          exact absurd H (by simp)
                    · rw [if_neg c48] at H
                      exact absurd H (by simp)
                  · rw [if_neg c47] at H
                    exact absurd H (by simp)
                · rw [if_neg c45] at H
                  have c45b0 : ((Int.tmod x6_1 2) == 1) = false := beq_eq_false_iff_ne.mpr c45
                  have c45b1 : ((Int.tmod x6_1 2) != 1) = true := bne_iff_ne.mpr c45
                  by_cases c61 : x5_1.length < 8796093022208
                  · rw [if_pos c61] at H
                    have LMc61 := Aside0.mk c61
                    clear c61
                    obtain ⟨y35, hy35⟩ : ∃ y_ : List ByteArray, y_ = (x5_1 ++ [(⟨#[]⟩ : ByteArray)]) := ⟨_, rfl⟩
                    replace H : (grilleref16_Steps.l0 kj3 l1 y35 (wrap64 (x6_1 + 1)) a0_0 a0_1 a0_2 l0_3) = some r := by first | (rw [hy35]; with_reducible exact H) | (have H2_ := (Option.bind_some _ _).symm.trans H; rw [hy35]; with_reducible exact H2_) | (have H2_ := (Option.bind_some _ _).symm.trans H; with_reducible exact H2_) | with_reducible exact H | (rw [hy35]; exact H) | exact H
                    have Ny35 := Aside0.mk hy35
                    clear hy35
                    have H' := Aside0.mk H
                    clear H
                    have hcz62_0 : wc.cell? ⟨gb1, 0, none⟩ = some (.int .i64 a0_0) := (blk_cell BK1.out 0).trans rfl
                    have hcz62_1 : wc.cell? ⟨gb1, 1, none⟩ = some (.string a0_1) := (blk_cell BK1.out 1).trans rfl
                    have hcz62_2 : wc.cell? ⟨gb1, 2, none⟩ = some (.string a0_2) := (blk_cell BK1.out 2).trans rfl
                    have hcz62_3 : wc.cell? ⟨gb1, 3, none⟩ = some (.slice A0_3 l0_3.length c0_3) := (blk_cell BK1.out 3).trans rfl
                    have hfz62_0 := blk_frozen BK1.out 0
                    have hfz62_1 := blk_frozen BK1.out 1
                    have hfz62_2 := blk_frozen BK1.out 2
                    have hfz62_3 := blk_frozen BK1.out 3
                    go_wp2_with (first | ((with_reducible refine gate_builtin (b := .append) (xs := #[.tmp 63, .tmp 65]) rfl ?_); (try (refine gate_guard (by rfl) ?_; dsimp only)); at_builtin; refine Kd.R_append Kd.string (w0 := w) w.heap.size rfl (.tmp 63) (.tmp 65) 32 9 (.string ⟨#[]⟩) 16 rfl Tryd.underlying32 info9 rfl (by decide) (by omega) u5 x5_1 (⟨#[]⟩ : ByteArray) [.string (⟨#[]⟩ : ByteArray)] (fun _ => True) (fun _ => False) rfl rfl ?aP (fun _ hk => hk.elim) ?aF ?aO ?aB ?aS ?aL ?_; (case aP => exact rfl); (case aB => exact (by repeat (first | (with_reducible first | exact HB.out | apply below_alloc | apply pw_below_drewN | apply below_drew1 | refine below_set ?_ GE1.out) | exact HB.out))); (case aF => exact (fun _ _ => trivial)); (case aO => exact (by (with_reducible repeat (first | apply Kd.R_alloc | apply Kd.R_drewN | apply Kd.R_drew)); exact HO_5.out)); (case aS => exact (below_size (by repeat (first | (with_reducible first | exact HB.out | apply below_alloc | apply pw_below_drewN | apply below_drew1 | refine below_set ?_ GE1.out) | exact HB.out)))); (case aL => have := LMc61.out; omega); intro v36 w63 ho hb hg hat; rw [← Ny35.out] at ho; have n0_ := Aside0.mk (blk_grown (g := gb1) (o := .cells #[.int .i64 a0_0, .string a0_1, .string a0_2, .slice A0_3 l0_3.length c0_3] 24 (0, 0)) (by (with_reducible repeat (first | refine blk_drewN ?_ _ | refine blk_drew ?_ | refine blk_alloc ?_ _)); exact BK1.out) hg (Kd.R_ne HO_5.out BK1.out (by decide))); have n1_ := Aside0.mk (hb); have n2_ := Aside0.mk (ho); clear BK1; clear HB; clear HO_5; have BK1 := n0_; have HB := n1_; have HO37 := n2_; clear n0_ n1_ n2_; clear ho hb hg hat))
                    go_roundg kj3
                    case measure => have := HK1.out; have := HJ3.out; omega
                    case rel => exact ⟨(y35), (wrap64 (x6_1 + 1)), (by first | rfl | (simp; done) | (simp [*]; done)), H', ⟨by have := HK1.out; have := HJ3.out; omega⟩, ⟨by (with_reducible repeat (first | apply Kd.R_alloc | apply Kd.R_drewN | apply Kd.R_drew)); exact HO37.out⟩, ⟨by (with_reducible repeat (first | refine blk_drewN ?_ _ | refine blk_drew ?_ | refine blk_alloc ?_ _)); exact BK1.out⟩, ⟨by repeat (first | (with_reducible first | exact HB.out | apply below_alloc | apply pw_below_drewN | apply below_drew1 | refine below_set ?_ GE1.out) | exact HB.out)⟩⟩
                  · rw [if_neg c61] at H
                    exact absurd H (by simp)
              · rw [if_neg c44] at H
                have c44b0 : (a0_0 == 2) = false := beq_eq_false_iff_ne.mpr c44
                have c44b1 : (a0_0 != 2) = true := bne_iff_ne.mpr c44
                by_cases c64 : x5_1.length < 8796093022208
                · rw [if_pos c64] at H
                  have LMc64 := Aside0.mk c64
                  clear c64
                  obtain ⟨y38, hy38⟩ : ∃ y_ : List ByteArray, y_ = (x5_1 ++ [(⟨#[]⟩ : ByteArray)]) := ⟨_, rfl⟩
                  replace H : (grilleref16_Steps.l0 kj3 l1 y38 (wrap64 (x6_1 + 1)) a0_0 a0_1 a0_2 l0_3) = some r := by first | (rw [hy38]; with_reducible exact H) | (have H2_ := (Option.bind_some _ _).symm.trans H; rw [hy38]; with_reducible exact H2_) | (have H2_ := (Option.bind_some _ _).symm.trans H; with_reducible exact H2_) | with_reducible exact H | (rw [hy38]; exact H) | exact H
                  have Ny38 := Aside0.mk hy38
                  clear hy38
                  have H' := Aside0.mk H
                  clear H
                  have hcz65_0 : wc.cell? ⟨gb1, 0, none⟩ = some (.int .i64 a0_0) := (blk_cell BK1.out 0).trans rfl
                  have hcz65_1 : wc.cell? ⟨gb1, 1, none⟩ = some (.string a0_1) := (blk_cell BK1.out 1).trans rfl
                  have hcz65_2 : wc.cell? ⟨gb1, 2, none⟩ = some (.string a0_2) := (blk_cell BK1.out 2).trans rfl
                  have hcz65_3 : wc.cell? ⟨gb1, 3, none⟩ = some (.slice A0_3 l0_3.length c0_3) := (blk_cell BK1.out 3).trans rfl
                  have hfz65_0 := blk_frozen BK1.out 0
                  have hfz65_1 := blk_frozen BK1.out 1
                  have hfz65_2 := blk_frozen BK1.out 2
                  have hfz65_3 := blk_frozen BK1.out 3
                  go_wp2_with (first | ((with_reducible refine gate_builtin (b := .append) (xs := #[.tmp 63, .tmp 65]) rfl ?_); (try (refine gate_guard (by rfl) ?_; dsimp only)); at_builtin; refine Kd.R_append Kd.string (w0 := w) w.heap.size rfl (.tmp 63) (.tmp 65) 32 9 (.string ⟨#[]⟩) 16 rfl Tryd.underlying32 info9 rfl (by decide) (by omega) u5 x5_1 (⟨#[]⟩ : ByteArray) [.string (⟨#[]⟩ : ByteArray)] (fun _ => True) (fun _ => False) rfl rfl ?aP (fun _ hk => hk.elim) ?aF ?aO ?aB ?aS ?aL ?_; (case aP => exact rfl); (case aB => exact (by repeat (first | (with_reducible first | exact HB.out | apply below_alloc | apply pw_below_drewN | apply below_drew1 | refine below_set ?_ GE1.out) | exact HB.out))); (case aF => exact (fun _ _ => trivial)); (case aO => exact (by (with_reducible repeat (first | apply Kd.R_alloc | apply Kd.R_drewN | apply Kd.R_drew)); exact HO_5.out)); (case aS => exact (below_size (by repeat (first | (with_reducible first | exact HB.out | apply below_alloc | apply pw_below_drewN | apply below_drew1 | refine below_set ?_ GE1.out) | exact HB.out)))); (case aL => have := LMc64.out; omega); intro v39 w66 ho hb hg hat; rw [← Ny38.out] at ho; have n0_ := Aside0.mk (blk_grown (g := gb1) (o := .cells #[.int .i64 a0_0, .string a0_1, .string a0_2, .slice A0_3 l0_3.length c0_3] 24 (0, 0)) (by (with_reducible repeat (first | refine blk_drewN ?_ _ | refine blk_drew ?_ | refine blk_alloc ?_ _)); exact BK1.out) hg (Kd.R_ne HO_5.out BK1.out (by decide))); have n1_ := Aside0.mk (hb); have n2_ := Aside0.mk (ho); clear BK1; clear HB; clear HO_5; have BK1 := n0_; have HB := n1_; have HO40 := n2_; clear n0_ n1_ n2_; clear ho hb hg hat))
                  go_roundg kj3
                  case measure => have := HK1.out; have := HJ3.out; omega
                  case rel => exact ⟨(y38), (wrap64 (x6_1 + 1)), (by first | rfl | (simp; done) | (simp [*]; done)), H', ⟨by have := HK1.out; have := HJ3.out; omega⟩, ⟨by (with_reducible repeat (first | apply Kd.R_alloc | apply Kd.R_drewN | apply Kd.R_drew)); exact HO40.out⟩, ⟨by (with_reducible repeat (first | refine blk_drewN ?_ _ | refine blk_drew ?_ | refine blk_alloc ?_ _)); exact BK1.out⟩, ⟨by repeat (first | (with_reducible first | exact HB.out | apply below_alloc | apply pw_below_drewN | apply below_drew1 | refine below_set ?_ GE1.out) | exact HB.out)⟩⟩
                · rw [if_neg c64] at H
                  exact absurd H (by simp)
          · replace c8 := Bool.eq_false_iff.mpr c8
            subst c8
            have H1 : (some x5_1) = some r := by rw [if_neg (show ¬ (false = true) by decide)] at H; exact H
            clear H
            have H := H1
            clear H1
            obtain rfl := Option.some.inj H
            go_wp2
            go_ret
            exact ⟨_, by first | rfl | (simp [errW_none, errW_some] <;> rfl) | (simp [*, errW_none, errW_some] <;> rfl), by (with_reducible repeat (first | apply Kd.R_alloc | apply Kd.R_drewN | apply Kd.R_drew)); exact HO_5.out, by repeat (first | (with_reducible first | exact HB.out | apply below_alloc | apply pw_below_drewN | apply below_drew1 | refine below_set ?_ GE1.out) | exact HB.out)⟩
end Go.Proofs.YtpbkdeelkpjccaaDoor.G
