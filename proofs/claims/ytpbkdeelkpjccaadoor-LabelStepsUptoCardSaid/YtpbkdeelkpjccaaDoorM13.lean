/- Merged by merge.py out of: Htwice. -/
import Derived.Test.YtpbkdeelkpjccaaDoorM12
import Derived.RegionTactic
import Derived.ChangeAlike
namespace Go.Proofs.YtpbkdeelkpjccaaDoor.G
open Go.RowKit Go.Proofs.YtpbkdeelkpjccaaDoorW.PrintWords Go.Maps
set_option linter.unusedVariables false
set_option linter.unusedSimpArgs false
theorem dup_skip {g : List S34} {k : Int} {r sI : List Int} {sL : List (List UInt8 × List UInt8)} (h : hasB g.length k = false) : dupN g (k :: r) sI sL = dupN g r sI sL := by
  simp [dupN, h]
theorem dup_seen {g : List S34} {k : Int} {r sI : List Int} {sL : List (List UInt8 × List UInt8)} (h : hasB g.length k = true) (h1 : k ∈ sI) : dupN g (k :: r) sI sL = true := by
  simp [dupN, h, h1]
theorem dup_other {g : List S34} {k : Int} {r sI : List Int} {sL : List (List UInt8 × List UInt8)} (h : hasB g.length k = true) (h1 : k ∉ sI) (h2 : ((rd_T34 g k).f0 == 0) = false) : dupN g (k :: r) sI sL = dupN g r (k :: sI) sL := by
  have h2 : ¬ (rd_T34 g k).f0 = 0 := by simpa using h2
  simp only [dupN, h]
  simp [h1, h2]
theorem dup_leaf {g : List S34} {k : Int} {r sI : List Int} {sL : List (List UInt8 × List UInt8)} (h : hasB g.length k = true) (h1 : k ∉ sI) (h2 : ((rd_T34 g k).f0 == 0) = true) (h3 : ((rd_T34 g k).f1.data.toList, (rd_T34 g k).f2.data.toList) ∈ sL) : dupN g (k :: r) sI sL = true := by
  have h2 : (rd_T34 g k).f0 = 0 := by simpa using h2
  simp only [dupN, h]
  simp [h1, h2, h3]
theorem dup_new {g : List S34} {k : Int} {r sI : List Int} {sL : List (List UInt8 × List UInt8)} (h : hasB g.length k = true) (h1 : k ∉ sI) (h2 : ((rd_T34 g k).f0 == 0) = true) (h3 : ((rd_T34 g k).f1.data.toList, (rd_T34 g k).f2.data.toList) ∉ sL) :
    dupN g (k :: r) sI sL = dupN g r (k :: sI) (((rd_T34 g k).f1.data.toList, (rd_T34 g k).f2.data.toList) :: sL) := by
  have h2 : (rd_T34 g k).f0 = 0 := by simpa using h2
  simp only [dupN, h]
  simp [h1, h2, h3]
def twP (g : List S34) (j : Nat) : Bool := (g.getD j z34).f0 == 2 && dupN g (evens (g.getD j z34).f3) [] []
theorem twice_range (g : List S34) : twiceB g = (List.range g.length).any (twP g) := by
  have := any_range (fun n : S34 => n.f0 == 2 && dupN g (evens n.f3) [] []) g (fun j => g.getD j z34) (fun j hj => getD_lt _ _ hj)
  exact this.symm
set_option maxHeartbeats 8000000 in
set_option maxRecDepth 100000 in
theorem twice_any (g : List S34) (A : Option Addr) (c : Nat) (w : World) (hr : Kd.C k34 w A g.length g) (hc : g.length ≤ c) (hfit : fitG g) :
    Calls Tryd.prog 31 #[.slice A g.length c] w fun e w' => e = .returned (.bool (twiceB g)) ∧ Below w.heap.size w w' := by
  rw [twice_range]
  have HX := Aside0.mk hr
  have HC := Aside0.mk hc
  have HF := Aside0.mk hfit
  have hbig : g.length ≤ 9223372036854775807 := hr.2.1
  clear hr hc hfit
  have hmm := @run_makeMap Tryd.prog
  go_enter Tryd.func31, Tryd.ntmps31
  go_wp2
  go_loopg [12] g.length (fun gg s12 wr => ∃ kk : Nat, kk ≤ g.length ∧ g.length - kk ≤ gg ∧ s12 = .int .i64 kk ∧ Aside0 (Below w.heap.size w wr) ∧ Aside0 (∀ j, j < kk → twP g j = false))
  case atStart => exact ⟨0, Nat.zero_le _, by omega, rfl, ⟨Below.refl _ w⟩, ⟨fun j hj => absurd hj (Nat.not_lt_zero _)⟩⟩
  case round =>
    obtain ⟨kk, hkk, hg, rfl, BW, HA⟩ := hrel
    by_cases hlt : kk < g.length
    · have hltz : (kk : Int) < (g.length : Int) := by omega
      have HTW := Aside0.mk (show twP g kk = ((g.getD kk z34).f0 == 2 && dupN g (evens (g.getD kk z34).f3) [] []) from rfl)
      have HFN := Aside0.mk (HF.out (g.getD kk z34) (by rw [getD_lt _ _ hlt]; exact List.getElem_mem hlt))
      obtain ⟨ad, A3, c3, e, q0, q1, q2, q3, l3, g3⟩ := at_T34 HX.out (kk : Int) (by omega) (by omega)
      cases e
      rw [show rd_T34 g (kk : Int) = g.getD kk z34 from rfl] at q0 q1 q2 q3 l3 g3
      generalize g.getD kk z34 = x at HTW HFN q0 q1 q2 q3 l3 g3
      replace q0 := (BW.out.cell (World.block_lt_of_cell? w _ q0)).trans q0
      replace q1 := (BW.out.cell (World.block_lt_of_cell? w _ q1)).trans q1
      replace q2 := (BW.out.cell (World.block_lt_of_cell? w _ q2)).trans q2
      replace q3 := (BW.out.cell (World.block_lt_of_cell? w _ q3)).trans q3
      rw [Int.toNat_natCast] at q0 q1 q2 q3
      have HG3 := Aside0.mk g3
      have HL3 := Aside0.mk l3
      clear g3 l3
      cases hq : x.f0 == 2 with
      | false =>
        have hq2 : (x.f0 != 2) = true := by simpa using hq
        have HQ := Aside0.mk hq
        clear hq
        go_wp2
        go_roundg (g.length - (kk + 1))
        case measure => omega
        case rel =>
          refine ⟨kk + 1, by omega, by omega, by go_num, ⟨by repeat (first | exact BW.out | apply below_alloc | apply pw_below_drewN)⟩, ⟨fun j hj => ?_⟩⟩
          by_cases e : j = kk
          · subst e; rw [HTW.out, HQ.out]; rfl
          · exact HA.out j (by omega)
      | true =>
        have hq2 : (x.f0 != 2) = false := by simpa using hq
        have HQ := Aside0.mk hq
        clear hq
        have hks := fun W hr2 => keys_any x.f0 x.f1 x.f2 A3 c3 x.f3 HFN.out.2.2 W hr2 HL3.out
        go_wp2_with (go_at_call 59; refine (hks _ ?hr).mono ?_; (case hr => exact Kd.C_below HG3.out (by repeat (first | exact BW.out | apply below_alloc | apply pw_below_drewN))); rintro e w4 ⟨A4, c4, rfl, hl4, hC4, hb4⟩; have H4 := Aside0.mk hC4; have HB4 := Aside0.mk hb4; clear hC4; have hbig4 : (evens x.f3).length ≤ 9223372036854775807 := H4.out.2.1; clear hks q0 q1 q2 q3 hmm)
        have HBW := Aside0.mk BW.out.size
        have hz4 : wr.heap.size + 3 ≤ w4.heap.size := by have := hb4.size; simp at this; omega
        have HM1 : Aside0 (HasMap Tryd.prog 3 w4 (wr.heap.size + 1) 0 (cntOf [])) := ⟨by
          have h0 := ((HasMap.made (wr.alloc (.cells #[.int .i64 x.f0, .string x.f1, .string x.f2, .slice A3 x.f3.length c3] 34)) Tryd.prog 3).alloc (.map #[] 0)).below HB4.out
          rw [cntOf_nil]; simpa using h0⟩
        have HM2 : Aside0 (HasMap Tryd.prog 116 w4 (wr.heap.size + 1 + 1) 0 (cntOf [])) := ⟨by
          have h0 := (HasMap.made ((wr.alloc (.cells #[.int .i64 x.f0, .string x.f1, .string x.f2, .slice A3 x.f3.length c3] 34)).alloc (.map #[] 0)) Tryd.prog 116).below HB4.out
          rw [cntOf_nil]; simpa using h0⟩
        have BW4 : Aside0 (Below w.heap.size w w4) := ⟨below_then (below_alloc (below_alloc (below_alloc BW.out _) _) _) (by have := HBW.out; simp; omega) HB4.out⟩
        have HZ4 := Aside0.mk hz4
        clear hb4 hz4 HB4
        generalize wr.heap.size = B at *
        go_loopg [24] (evens x.f3).length (fun ig s24 wi => ∃ (j : Nat) (sI : List Int) (sL : List (List UInt8 × List UInt8)) (n1 n2 : Nat), j ≤ (evens x.f3).length ∧ (evens x.f3).length - j ≤ ig ∧ s24 = .int .i64 j ∧ Aside0 (dupN g ((evens x.f3).drop j) sI sL = dupN g (evens x.f3) [] []) ∧
          Aside0 (HasMap Tryd.prog 3 wi (B + 1) n1 (cntOf (sI.map (Value.int .i64)))) ∧ Aside0 (HasMap Tryd.prog 116 wi (B + 1 + 1) n2 (cntOf (sL.map leafOf))) ∧ Aside0 (Below w.heap.size w wi) ∧ Aside0 (Kept w4 wi (fun b => b = B + 1 ∨ b = B + 1 + 1)))
        case atStart => exact ⟨0, [], [], 0, 0, Nat.zero_le _, by omega, rfl, ⟨rfl⟩, ⟨HM1.out⟩, ⟨HM2.out⟩, ⟨BW4.out⟩, ⟨Kept.refl _ _⟩⟩
        case round =>
          obtain ⟨j, sI, sL, n1, n2, hj, hjg, rfl, HD, M1, M2, BI, KI⟩ := hrel
          by_cases hjl : j < (evens x.f3).length
          · have hjz : (j : Int) < ((evens x.f3).length : Int) := by omega
            have hC5 := C_int_off H4.out (W := wr) (fun i hi hn => KI.out.2 i hi (by
              rintro (rfl | rfl)
              · obtain ⟨es, cl, hm⟩ := HM1.out; exact hn es cl hm.blk
              · obtain ⟨es, cl, hm⟩ := HM2.out; exact hn es cl hm.blk))
            have HHas := fun W hr2 => arena_Graph_has.calls (some ad) c g (rd (evens x.f3) (j : Int)) _ W hr2 HC.out (has_f g _)
            obtain ⟨ad4, e4, p4⟩ := Kd.at_int hC5 (j : Int) (by omega) hjz
            cases e4
            have HDr := Aside0.mk (show (evens x.f3).drop j = rd (evens x.f3) (j : Int) :: (evens x.f3).drop (j + 1) by rw [List.drop_eq_getElem_cons hjl, rd_get _ j hjl])
            have HGB : ∀ W, Below w.heap.size w W → Kd.C k34 W (some ad) g.length g := fun W hb => Kd.C_below HX.out hb
            clear hC5
            rw [Int.toNat_natCast] at p4
            generalize rd (evens x.f3) (j : Int) = k at HHas p4 HDr
            cases hhas : hasB g.length k with
            | false =>
              rw [hhas] at HHas
              have HH := Aside0.mk hhas
              clear hhas
              go_wp2_with (go_at_call 55; refine (HHas _ ?hr).mono ?_; (case hr => exact HGB _ (by repeat (first | exact BI.out | apply below_alloc | apply pw_below_drewN))); rintro e w5 ⟨rfl, ⟨q5, rfl⟩⟩)
              go_roundg ((evens x.f3).length - (j + 1))
              case measure => omega
              case rel => exact ⟨j + 1, sI, sL, n1, n2, by omega, by omega, by go_num, ⟨by rw [← HD.out, HDr.out, dup_skip HH.out]⟩, ⟨M1.out.drewN _⟩, ⟨M2.out.drewN _⟩, ⟨pw_below_drewN BI.out _⟩, ⟨KI.out.drewN _⟩⟩
            | true =>
              rw [hhas] at HHas
              have HH := Aside0.mk hhas
              have hk0 : 0 ≤ k := by simp [hasB] at hhas; exact hhas.1
              have hk1 : k < (g.length : Int) := by simp [hasB] at hhas; exact hhas.2
              clear hhas
              have KK := Aside0.mk (keyInt k hk0 (by omega))
              by_cases hs : k ∈ sI
              · have HS := Aside0.mk hs
                clear hs
                have hc1 := Aside0.mk (cntOf_in ((mem_ints sI k).2 HS.out))
                go_wp2_with (first
                  | (go_at_call 55; refine (HHas _ ?hr).mono ?_; (case hr => exact HGB _ (by repeat (first | exact BI.out | apply below_alloc | apply pw_below_drewN))); rintro e w5 ⟨rfl, ⟨q5, rfl⟩⟩)
                  | (at_lookup; refine wpList_lookV rfl _ _ 113 rfl 3 3 keyedInt Tryd.underlying113 (zeroInt _) (B + 1) n1 _ rfl ?o1 (.int .i64 k) _ rfl KK.out 1 hc1.out ?_; (case o1 => exact M1.out.drewN _))
                  | (at_mapUpdate; refine wpList_upd rfl _ _ _ 113 rfl 3 3 keyedInt Tryd.underlying113 (B + 1) n1 (cntOf (sI.map (Value.int .i64))) rfl ?o1 (.int .i64 k) 2 _ rfl rfl KK.out ?_; (case o1 => exact M1.out.drewN _); intro w6 hm6 hg6; have M6 := Aside0.mk hm6; have G6 := Aside0.mk hg6; clear hm6 hg6)
                  | (at_lookup; refine wpList_lookV rfl _ _ 113 rfl 3 3 keyedInt Tryd.underlying113 (zeroInt _) (B + 1) (n1 + 1) (upd (cntOf (sI.map (Value.int .i64))) (.int .i64 k) 2) rfl ?o1 (.int .i64 k) _ rfl KK.out 2 (by rw [upd_same]; rfl) ?_; (case o1 => exact M6.out)))
                go_ret
                refine ⟨?_, pw_below_grown (pw_below_drewN BI.out _) (some (B + 1)) (by have := BI.out.size; simpa using this) G6.out (by rintro b ⟨⟩; have := HBW.out; omega)⟩
                have hd := HD.out
                rw [HDr.out, dup_seen HH.out HS.out] at hd
                rw [show (List.range g.length).any (twP g) = true from List.any_eq_true.2 ⟨kk, List.mem_range.2 hlt, by rw [HTW.out, ← hd, HQ.out]; rfl⟩]
                rfl
              · have HS := Aside0.mk hs
                clear hs
                have hc1 := Aside0.mk (cntOf_no (fun h => HS.out ((mem_ints sI k).1 h)))
                obtain ⟨ad9, A9, c9, e9, q0, q1, q2, q3, l9, g9⟩ := at_T34 HX.out k hk0 (by omega)
                cases e9
                have HFY := Aside0.mk (HF.out (rd_T34 g k) (by unfold rd_T34; rw [getD_lt _ _ (by omega)]; exact List.getElem_mem _))
                have R0 : ∀ W, Below w.heap.size w W → _ := fun W hb => (hb.cell (World.block_lt_of_cell? w _ q0)).trans q0
                have R1 : ∀ W, Below w.heap.size w W → _ := fun W hb => (hb.cell (World.block_lt_of_cell? w _ q1)).trans q1
                have R2 : ∀ W, Below w.heap.size w W → _ := fun W hb => (hb.cell (World.block_lt_of_cell? w _ q2)).trans q2
                have R3 : ∀ W, Below w.heap.size w W → _ := fun W hb => (hb.cell (World.block_lt_of_cell? w _ q3)).trans q3
                have HR0 := Aside0.mk R0
                have HR1 := Aside0.mk R1
                have HR2 := Aside0.mk R2
                have HR3 := Aside0.mk R3
                clear R0 R1 R2 R3 q0 q1 q2 q3 l9 g9
                have HDO := fun h2 => dup_other (r := (evens x.f3).drop (j + 1)) (sL := sL) HH.out HS.out h2
                have HDL := fun h2 h3 => dup_leaf (r := (evens x.f3).drop (j + 1)) (sL := sL) HH.out HS.out h2 h3
                have HDN := fun h2 h3 => dup_new (r := (evens x.f3).drop (j + 1)) (sL := sL) HH.out HS.out h2 h3
                have hbig3 : (rd_T34 g k).f3.length ≤ 9223372036854775807 := by have := HFY.out.2.2; omega
                generalize rd_T34 g k = y at HDO HDL HDN HFY HR0 HR1 HR2 HR3 hbig3
                have HDO := Aside0.mk HDO
                have HDL := Aside0.mk HDL
                have HDN := Aside0.mk HDN
                cases hy : y.f0 == 0 with
                | false =>
                  have HY := Aside0.mk hy
                  go_wp2_with (first
                    | (go_at_call 55; refine (HHas _ ?hr).mono ?_; (case hr => exact HGB _ (by repeat (first | exact BI.out | apply below_alloc | apply pw_below_drewN))); rintro e w5 ⟨rfl, ⟨q5, rfl⟩⟩)
                    | (at_lookup; refine wpList_lookV rfl _ _ 113 rfl 3 3 keyedInt Tryd.underlying113 (zeroInt _) (B + 1) n1 _ rfl ?o1 (.int .i64 k) _ rfl KK.out 0 hc1.out ?_; (case o1 => exact M1.out.drewN _))
                    | (at_mapUpdate; refine wpList_upd rfl _ _ _ 113 rfl 3 3 keyedInt Tryd.underlying113 (B + 1) n1 (cntOf (sI.map (Value.int .i64))) rfl ?o1 (.int .i64 k) 1 _ rfl rfl KK.out ?_; (case o1 => exact M1.out.drewN _); intro w6 hm6 hg6; have M6 := Aside0.mk hm6; have G6 := Aside0.mk hg6; have K6 := Aside0.mk (Kept.of_grown hg6 (KI.out.drewN q5) (by rintro b ⟨⟩; exact .inl (.inl rfl))); have M26 := Aside0.mk ((M2.out.drewN q5).kept hg6 (by intro e; injection e with e; omega)); have BI6 := Aside0.mk (pw_below_grown (pw_below_drewN BI.out q5) (some (B + 1)) (by have := BI.out.size; simpa using this) hg6 (by rintro b ⟨⟩; have := HBW.out; omega)); clear hm6 hg6; have q0 := HR0.out _ BI6.out; have q1 := HR1.out _ BI6.out; have q2 := HR2.out _ BI6.out; have q3 := HR3.out _ BI6.out)
                    | (at_lookup; refine wpList_lookV rfl _ _ 113 rfl 3 3 keyedInt Tryd.underlying113 (zeroInt _) (B + 1) (n1 + 1) (upd (cntOf (sI.map (Value.int .i64))) (.int .i64 k) 1) rfl ?o1 (.int .i64 k) _ rfl KK.out 1 (by rw [upd_same]; rfl) ?_; (case o1 => exact M6.out)))
                  go_roundg ((evens x.f3).length - (j + 1))
                  case measure => omega
                  case rel => exact ⟨j + 1, k :: sI, sL, n1 + 1, n2, by omega, by omega, by go_num, ⟨by rw [← HD.out, HDr.out, HDO.out HY.out]⟩, ⟨by rw [List.map_cons, ← cntOf_upd]; exact M6.out.alloc _⟩, ⟨M26.out.alloc _⟩, ⟨below_alloc BI6.out _⟩, ⟨K6.out.alloc _⟩⟩
                | true =>
                  have HY := Aside0.mk hy
                  go_wp2_with (first
                    | (go_at_call 55; refine (HHas _ ?hr).mono ?_; (case hr => exact HGB _ (by repeat (first | exact BI.out | apply below_alloc | apply pw_below_drewN))); rintro e w5 ⟨rfl, ⟨q5, rfl⟩⟩)
                    | (at_lookup; refine wpList_lookV rfl _ _ 113 rfl 3 3 keyedInt Tryd.underlying113 (zeroInt _) (B + 1) n1 _ rfl ?o1 (.int .i64 k) _ rfl KK.out 0 hc1.out ?_; (case o1 => exact M1.out.drewN _))
                    | (at_mapUpdate; refine wpList_upd rfl _ _ _ 113 rfl 3 3 keyedInt Tryd.underlying113 (B + 1) n1 (cntOf (sI.map (Value.int .i64))) rfl ?o1 (.int .i64 k) 1 _ rfl rfl KK.out ?_; (case o1 => exact M1.out.drewN _); intro w6 hm6 hg6; have M6 := Aside0.mk hm6; have G6 := Aside0.mk hg6; have K6 := Aside0.mk (Kept.of_grown hg6 (KI.out.drewN q5) (by rintro b ⟨⟩; exact .inl (.inl rfl))); have M26 := Aside0.mk ((M2.out.drewN q5).kept hg6 (by intro e; injection e with e; omega)); have BI6 := Aside0.mk (pw_below_grown (pw_below_drewN BI.out q5) (some (B + 1)) (by have := BI.out.size; simpa using this) hg6 (by rintro b ⟨⟩; have := HBW.out; omega)); clear hm6 hg6; have q0 := HR0.out _ BI6.out; have q1 := HR1.out _ BI6.out; have q2 := HR2.out _ BI6.out; have q3 := HR3.out _ BI6.out)
                    | (at_lookup; refine wpList_lookV rfl _ _ 113 rfl 3 3 keyedInt Tryd.underlying113 (zeroInt _) (B + 1) (n1 + 1) (upd (cntOf (sI.map (Value.int .i64))) (.int .i64 k) 1) rfl ?o1 (.int .i64 k) _ rfl KK.out 1 (by rw [upd_same]; rfl) ?_; (case o1 => exact M6.out)))
                  have hM7 := M26.out.alloc (.cells #[.int .i64 y.f0, .string y.f1, .string y.f2, .slice A9 y.f3.length c9] 34)
                  have M17 := Aside0.mk (M6.out.alloc (.cells #[.int .i64 y.f0, .string y.f1, .string y.f2, .slice A9 y.f3.length c9] 34))
                  have BI7 := Aside0.mk (below_alloc BI6.out (.cells #[.int .i64 y.f0, .string y.f1, .string y.f2, .slice A9 y.f3.length c9] 34))
                  have K7 := Aside0.mk (K6.out.alloc (.cells #[.int .i64 y.f0, .string y.f1, .string y.f2, .slice A9 y.f3.length c9] 34))
                  have hc1 : (w6.alloc (.cells #[.int .i64 y.f0, .string y.f1, .string y.f2, .slice A9 y.f3.length c9] 34)).cell? ⟨w6.heap.size, 1, none⟩ = some (.string y.f1) := by simp [World.cell?_alloc_at]
                  have hc2 : (w6.alloc (.cells #[.int .i64 y.f0, .string y.f1, .string y.f2, .slice A9 y.f3.length c9] 34)).cell? ⟨w6.heap.size, 2, none⟩ = some (.string y.f2) := by simp [World.cell?_alloc_at]
                  have hz6 : B + 1 + 1 < w6.heap.size := M26.out.lt
                  generalize (w6.alloc (.cells #[.int .i64 y.f0, .string y.f1, .string y.f2, .slice A9 y.f3.length c9] 34)) = W7 at *
                  obtain ⟨kl, hkey⟩ := keyLeaf y.f1 y.f2 (by have := HFY.out.1; unfold maxLen; omega) (by have := HFY.out.2.1; unfold maxLen; omega)
                  have KL := Aside0.mk hkey
                  have hlk := hM7.drew.look keyedLeaf Tryd.underlying114 (zeroInt _) hkey
                  obtain ⟨st, w8, hrun, hgr, hlk1, hst⟩ := hM7.drew.entry keyedLeaf Tryd.underlying114 zeroInt hkey
                  clear hkey
                  have hd1 : w8.cell? ⟨w6.heap.size, 1, none⟩ = some (.string y.f1) := hgr.cell (show W7.drew.cell? _ = _ from hc1) (by intro e; injection e with e; replace e : w6.heap.size = _ := e; omega)
                  have hd2 : w8.cell? ⟨w6.heap.size, 2, none⟩ = some (.string y.f2) := hgr.cell (show W7.drew.cell? _ = _ from hc2) (by intro e; injection e with e; replace e : w6.heap.size = _ := e; omega)
                  have G8 := Aside0.mk hgr
                  clear hgr
                  by_cases hl : (y.f1.data.toList, y.f2.data.toList) ∈ sL
                  · have hcl := Aside0.mk (cntOf_in ((mem_leaves sL y.f1 y.f2).2 hl))
                    have HL := Aside0.mk hl
                    clear hl
                    rw [hcl.out] at hlk hrun hlk1
                    obtain ⟨w9, hrun2, hm9, hg9⟩ := hst 2
                    have HM9 := Aside0.mk hm9
                    have HG9 := Aside0.mk hg9
                    have hd3 : w9.cell? ⟨w6.heap.size, 1, none⟩ = some (.string y.f1) := hg9.cell (show W7.drew.cell? _ = _ from hc1) (by intro e; injection e with e; replace e : w6.heap.size = _ := e; omega)
                    have hd4 : w9.cell? ⟨w6.heap.size, 2, none⟩ = some (.string y.f2) := hg9.cell (show W7.drew.cell? _ = _ from hc2) (by intro e; injection e with e; replace e : w6.heap.size = _ := e; omega)
                    clear hst hm9 hg9 hM7
                    unfold leafV at hlk hrun hlk1
                    unfold goInt at hrun hrun2
                    go_region
                    clear hlk hrun hlk1 hrun2 hd1 hd2 hc1 hc2
                    have BI9 := Aside0.mk (pw_below_grown (pw_below_drewN BI7.out 1) (some (B + 1 + 1)) (by have := BI7.out.size; simpa using this) HG9.out (by rintro b ⟨⟩; have := HBW.out; omega))
                    go_wp2_with (at_lookup; refine wpList_lookV rfl _ _ 114 rfl 116 3 keyedLeaf Tryd.underlying114 (zeroInt _) (B + 1 + 1) (n2 + 1) (upd (cntOf (sL.map leafOf)) (leafV y.f1 y.f2) 2) rfl ?o1 (leafV y.f1 y.f2) kl rfl KL.out 2 (by rw [upd_same]; rfl) ?_; (case o1 => exact HM9.out))
                    go_ret
                    refine ⟨?_, BI9.out⟩
                    have hd := HD.out
                    rw [HDr.out, HDL.out HY.out HL.out] at hd
                    rw [show (List.range g.length).any (twP g) = true from List.any_eq_true.2 ⟨kk, List.mem_range.2 hlt, by rw [HTW.out, ← hd, HQ.out]; rfl⟩]
                    rfl
                  · have hcl := Aside0.mk (cntOf_no (fun h => hl ((mem_leaves sL y.f1 y.f2).1 h)))
                    have HL := Aside0.mk hl
                    clear hl
                    rw [hcl.out] at hlk hrun hlk1
                    obtain ⟨w9, hrun2, hm9, hg9⟩ := hst 1
                    have HM9 := Aside0.mk hm9
                    have HG9 := Aside0.mk hg9
                    have hd3 : w9.cell? ⟨w6.heap.size, 1, none⟩ = some (.string y.f1) := hg9.cell (show W7.drew.cell? _ = _ from hc1) (by intro e; injection e with e; replace e : w6.heap.size = _ := e; omega)
                    have hd4 : w9.cell? ⟨w6.heap.size, 2, none⟩ = some (.string y.f2) := hg9.cell (show W7.drew.cell? _ = _ from hc2) (by intro e; injection e with e; replace e : w6.heap.size = _ := e; omega)
                    clear hst hm9 hg9 hM7
                    unfold leafV at hlk hrun hlk1
                    unfold goInt at hrun hrun2
                    go_region
                    clear hlk hrun hlk1 hrun2 hd1 hd2 hc1 hc2
                    have BI9 := Aside0.mk (pw_below_grown (pw_below_drewN BI7.out 1) (some (B + 1 + 1)) (by have := BI7.out.size; simpa using this) HG9.out (by rintro b ⟨⟩; have := HBW.out; omega))
                    have K9 := Aside0.mk (Kept.of_grown HG9.out (K7.out.drew) (by rintro b ⟨⟩; exact .inl (.inr rfl)))
                    have M19 := Aside0.mk (M17.out.drew.kept HG9.out (by intro e; injection e with e; omega))
                    go_wp2_with (at_lookup; refine wpList_lookV rfl _ _ 114 rfl 116 3 keyedLeaf Tryd.underlying114 (zeroInt _) (B + 1 + 1) (n2 + 1) (upd (cntOf (sL.map leafOf)) (leafV y.f1 y.f2) 1) rfl ?o1 (leafV y.f1 y.f2) kl rfl KL.out 1 (by rw [upd_same]; rfl) ?_; (case o1 => exact HM9.out))
                    go_roundg ((evens x.f3).length - (j + 1))
                    case measure => omega
                    case rel => exact ⟨j + 1, k :: sI, _ :: sL, n1 + 1, n2 + 1, by omega, by omega, by go_num, ⟨by rw [← HD.out, HDr.out, HDN.out HY.out HL.out]⟩, ⟨by rw [List.map_cons, ← cntOf_upd]; exact M19.out⟩, ⟨by rw [List.map_cons, show leafOf (y.f1.data.toList, y.f2.data.toList) = leafV y.f1 y.f2 from rfl, ← cntOf_upd]; exact HM9.out⟩, ⟨BI9.out⟩, ⟨K9.out⟩⟩
          · have hjz : ¬ (j : Int) < ((evens x.f3).length : Int) := by omega
            have HJ := Aside0.mk (show j = (evens x.f3).length by omega)
            go_wp2
            go_roundg (g.length - (kk + 1))
            case measure => omega
            case rel =>
              refine ⟨kk + 1, by omega, by omega, by go_num, ⟨BI.out⟩, ⟨fun i hi => ?_⟩⟩
              by_cases e : i = kk
              · subst e
                have hd := HD.out
                rw [HJ.out, List.drop_length] at hd
                rw [HTW.out, ← hd]; simp [dupN]
              · exact HA.out i (by omega)
    · have hltz : decide ((kk : Int) < (g.length : Int)) = false := decide_eq_false (by omega)
      have HK := Aside0.mk (show kk = g.length by omega)
      go_wp2
      go_ret
      refine ⟨?_, BW.out⟩
      have : (List.range g.length).any (twP g) = false := by
        rw [List.any_eq_false]
        intro j hj
        rw [HA.out j (by have := List.mem_range.1 hj; have := HK.out; omega)]
        decide
      rw [this]; rfl
end Go.Proofs.YtpbkdeelkpjccaaDoor.G
