/- Merged by merge.py out of: Hhits, Plabels. -/
import Derived.Test.YtpbkdeelkpjccaaDoorM25
import Derived.Test.YtpbkdeelkpjccaaDoorM26
import Derived.Test.YtpbkdeelkpjccaaDoorM11
import Derived.Laws.BitsAllLaws
namespace Go.Proofs.YtpbkdeelkpjccaaDoor.G
open Go.RowKit Go.Proofs.YtpbkdeelkpjccaaDoorW.PrintWords
set_option linter.unusedVariables false
set_option linter.unusedSimpArgs false
def hitP (p : PolV) (g : List S34) (a : Int) (i : Nat) : Bool :=
  ((nfaAccept (polPs p) (polBs p) ((statesL p g).getD a.toNat [])).any fun k => rd (polOf p) k == (i : Int)) || (!(rd_T50 p.rules (i : Int)).f1.data.toList.isEmpty && (rd_T50 p.rules (i : Int)).f1.data.toList == (rd_T34 g a).f1.data.toList)
def hitsTo (p : PolV) (g : List S34) (a : Int) (k : Nat) : List Int := ((List.range k).filter (hitP p g a)).map fun (i : Nat) => (i : Int)
theorem hitsTo_yes {p : PolV} {g : List S34} {a : Int} {k : Nat} (h : hitP p g a k = true) : hitsTo p g a (k + 1) = hitsTo p g a k ++ [(k : Int)] := by
  unfold hitsTo; rw [List.range_succ, List.filter_append, List.map_append]; simp [h]
theorem hitsTo_no {p : PolV} {g : List S34} {a : Int} {k : Nat} (h : hitP p g a k = false) : hitsTo p g a (k + 1) = hitsTo p g a k := by
  unfold hitsTo; rw [List.range_succ, List.filter_append, List.map_append]; simp [h]
def hitsStep (p : PolV) (g : List S34) (out : List (List Int)) (a : Int) : List (List Int) := out.set a.toNat (out.getD a.toNat [] ++ hitsTo p g a p.rules.length)
theorem hits_len (p : PolV) (g : List S34) : ∀ (l : List Int) (out : List (List Int)), (l.foldl (hitsStep p g) out).length = out.length
  | [], _ => rfl
  | a :: l, out => by rw [List.foldl_cons, hits_len p g l]; simp [hitsStep]
theorem hitsTo_len (p : PolV) (g : List S34) (a : Int) (k : Nat) : (hitsTo p g a k).length ≤ k := by
  unfold hitsTo; rw [List.length_map]; exact Nat.le_trans (List.length_filter_le _ _) (by simp)
theorem hits_row (p : PolV) (g : List S34) (hp : p.rules.length ≤ 100) : ∀ (l : List Int) (out : List (List Int)) (B : Nat), (∀ i, (out.getD i []).length ≤ B) → ∀ i, ((l.foldl (hitsStep p g) out).getD i []).length ≤ B + l.length * 100
  | [], _, B, h, i => by simpa using h i
  | a :: l, out, B, h, i => by
    rw [List.foldl_cons]
    refine Nat.le_trans (hits_row p g hp l (hitsStep p g out a) (B + 100) (fun j => ?_) i) (by simp; omega)
    unfold hitsStep
    by_cases e : a.toNat = j
    · subst e
      by_cases hl : a.toNat < out.length
      · rw [getD_lt (out.set _ _) _ (by simpa using hl), List.getElem_set_self, List.length_append]
        have := h a.toNat
        have := hitsTo_len p g a p.rules.length
        omega
      · rw [List.set_eq_of_length_le (by omega)]
        have := h a.toNat
        omega
    · rw [List.getD_eq_getElem?_getD, List.getElem?_set_ne e, ← List.getD_eq_getElem?_getD]
      have := h j
      omega
theorem set_same {α : Type} (l : List α) (i : Nat) (d : α) : l.set i (l.getD i d) = l := by
  apply List.ext_getElem
  · simp
  · intro j h1 h2
    by_cases e : i = j
    · subst e; rw [List.getElem_set_self, getD_lt _ _ h2]
    · rw [List.getElem_set_ne e]
def hitsL (p : PolV) (g : List S34) : List (List Int) := (orderG g).foldl (hitsStep p g) (List.replicate g.length [])
set_option maxHeartbeats 4000000 in
set_option maxRecDepth 100000 in
theorem hits_no (p : PolV) (A0 : Option Addr) (c0 : Nat) (A1 : Option Addr) (c1 : Nat) (A3 : Option Addr) (c3 : Nat) (g : List S34) (A : Option Addr) (c : Nat) (w : World) (H : PolAt p A0 c0 A1 c1 A3 c3 w)
    (hr : Kd.C k34 w A g.length g) (hc : g.length ≤ c) (hfit : fitG g) (he : wrongE p g ≠ 0) :
    Calls Tryd.prog 14 #[polArg p A0 c0 A1 c1 A3 c3, .slice A g.length c] w fun e w' => e = .returned (.tuple #[.slice none 0 0, .int .i64 (wrongE p g)]) ∧ Below w.heap.size w w' := by
  have hb0 : Below w.heap.size w (w.alloc (.cells #[.slice A0 p.lev.length c0, .slice A1 p.cats.length c1, .string p.mask, .slice A3 p.rules.length c3] 41)) := below_alloc (Below.refl _ _) _
  have hcall := states_no p A0 c0 A1 c1 A3 c3 g A c _ (H.below p A0 c0 A1 c1 A3 c3 hb0) (Kd.C_below hr hb0) hc hfit he
  unfold polArg at hcall ⊢
  have hu41 := Tryd.underlying41
  have hu38 := Tryd.underlying38
  have hne : (wrongE p g != 0) = true := by simpa using he
  have he2 : (wrongE p g == 0) = false := by simpa using he
  generalize wrongE p g = e0 at *
  clear H hr hc hfit he
  generalize p.lev.length = n0 at *
  generalize p.cats.length = n1 at *
  generalize p.rules.length = n3 at *
  generalize p.mask = mask at *
  generalize g.length = n at *
  go_enter Tryd.func14, Tryd.ntmps14
  go_wp2_with fail
  refine hcall.mono ?_
  rintro e w1 ⟨rfl, hb1⟩
  have HB := Aside0.mk (below_then hb0 hb0.size hb1)
  clear hb0 hb1 hcall
  go_wp2
  go_ret2
  exact ⟨rfl, HB.out⟩
set_option maxHeartbeats 4000000 in
set_option maxRecDepth 100000 in
theorem hits_yes (p : PolV) (A0 : Option Addr) (c0 : Nat) (A1 : Option Addr) (c1 : Nat) (A3 : Option Addr) (c3 : Nat) (g : List S34) (A : Option Addr) (c : Nat) (w : World) (H : PolAt p A0 c0 A1 c1 A3 c3 w)
    (hr : Kd.C k34 w A g.length g) (hc : g.length ≤ c) (hfit : fitGB g = true) (he : wrongE p g = 0) :
    Calls Tryd.prog 14 #[polArg p A0 c0 A1 c1 A3 c3, .slice A g.length c] w fun e w' => ∃ vs M, e = .returned (.tuple #[.slice (some ⟨M, 0, none⟩) g.length g.length, .int .i64 0]) ∧ RowsAt (hitsL p g) vs M w.heap.size (fun _ => True) w' ∧ w.heap.size ≤ M ∧ Below w.heap.size w w' := by
  have hb0 : Below w.heap.size w (w.alloc (.cells #[.slice A0 p.lev.length c0, .slice A1 p.cats.length c1, .string p.mask, .slice A3 p.rules.length c3] 41)) := below_alloc (Below.refl _ _) _
  have hcall := states_yes p A0 c0 A1 c1 A3 c3 g A c _ (H.below p A0 c0 A1 c1 A3 c3 hb0) (Kd.C_below hr hb0) hc hfit he
  obtain ⟨hpb, hgb⟩ := wrongE_zero he
  have hgl := graph_len hgb
  have HPB := Aside0.mk hpb
  have HGB := Aside0.mk hgb
  have cT : Aside0 (∀ W, Below w.heap.size w W → _) := ⟨fun W h => table_calls p A0 c0 A1 c1 A3 c3 W (H.below p A0 c0 A1 c1 A3 c3 h) hpb⟩
  have cO : Aside0 (∀ W, Below w.heap.size w W → _) := ⟨fun W h => arena_Order.calls A c g (orderG g) W (H.hT.below h) (Kd.C_below hr h) hc (by unfold arena_Order.f; rw [if_pos hfit])⟩
  have HR := Aside0.mk hr
  have HPR := Aside0.mk H.h3
  have HC := Aside0.mk hc
  have hmk : ∀ W : World, (Instr.makeSlice 53 (.int .i64 (g.length : Int)) (.int .i64 (g.length : Int))).run Tryd.prog W = .ok (.slice (some ⟨W.heap.size, 0, none⟩) g.length g.length) (W.alloc (.cells (Array.replicate g.length (.slice none 0 0)) 22)) := fun W => make_rows g.length (by omega) W
  unfold polArg at hcall cT ⊢
  have hu41 := Tryd.underlying41
  have hu38 := Tryd.underlying38
  have hu80 := Tryd.underlying80
  have HGL := Aside0.mk hgl
  have hgi : (g.length : Int) ≤ 2000 := by omega
  clear H hr hc hfit he hpb hgb hgl
  go_enter Tryd.func14, Tryd.ntmps14
  go_wp2_with fail
  have hkp0 : (w.alloc (.cells #[.slice A0 p.lev.length c0, .slice A1 p.cats.length c1, .string p.mask, .slice A3 p.rules.length c3] 41)).heap[w.heap.size]? = some (.cells #[.slice A0 p.lev.length c0, .slice A1 p.cats.length c1, .string p.mask, .slice A3 p.rules.length c3] 41 (0, 0)) := heap_alloc_new _ _
  refine hcall.mono ?_
  rintro e w1 ⟨v1, rfl, ⟨MS, rfl, hMS, hSets, hSM⟩, hb1⟩
  have HB1 := Aside0.mk (below_then hb0 hb0.size hb1)
  have HP1 := Aside0.mk (blk_below5 hb1 hkp0)
  have HS1 := Aside0.mk hSM
  have HSE := Aside0.mk hSets
  have p0 : w1.cell? ⟨w.heap.size, 0, none⟩ = some (.slice A0 p.lev.length c0) := (blk_cell HP1.out 0).trans rfl
  have p1 : w1.cell? ⟨w.heap.size, 1, none⟩ = some (.slice A1 p.cats.length c1) := (blk_cell HP1.out 1).trans rfl
  have p2 : w1.cell? ⟨w.heap.size, 2, none⟩ = some (.string p.mask) := (blk_cell HP1.out 2).trans rfl
  have p3 : w1.cell? ⟨w.heap.size, 3, none⟩ = some (.slice A3 p.rules.length c3) := (blk_cell HP1.out 3).trans rfl
  clear hb0 hb1 hcall hkp0 hSets hSM
  go_wp2_with fail
  refine (cT.out w1 HB1.out).mono ?_
  rintro e w2 ⟨A4, c4, A5, c5, v6, rfl, hTab, hOf, hb2⟩
  obtain ⟨A6, c6, rfl, l6, g6⟩ := Kd.R_reads hOf
  have HB2 := Aside0.mk (below_then HB1.out HB1.out.size hb2)
  have HP2 := Aside0.mk (blk_below5 hb2 HP1.out)
  have HS2 := Aside0.mk (blk_below5 hb2 HS1.out)
  have HTab := Aside0.mk hTab
  have HOf := Aside0.mk g6
  clear hb2 hTab hOf cT p0 p1 p2 p3 g6
  go_wp2_with fail
  have hbt0 : (((w2.alloc (.cells #[.slice A4 (polPs p).length c4, .slice A5 (polBs p).length c5, .int .i64 (manyFrom (polPs p) 0)] 80)).alloc (.cells #[.slice A6 (polOf p).length c6] 22)).alloc (.cells (Array.replicate g.length (.slice none 0 0)) 22)).heap[w2.heap.size]? = some (tabBox (polPs p) (polBs p) A4 c4 A5 c5 (manyFrom (polPs p) 0)) := blk_alloc (heap_alloc2_old _ _ _) _
  have hbf0 : (((w2.alloc (.cells #[.slice A4 (polPs p).length c4, .slice A5 (polBs p).length c5, .int .i64 (manyFrom (polPs p) 0)] 80)).alloc (.cells #[.slice A6 (polOf p).length c6] 22)).alloc (.cells (Array.replicate g.length (.slice none 0 0)) 22)).heap[w2.heap.size + 1]? = some (.cells #[.slice A6 (polOf p).length c6] 22 (0, 0)) := blk_alloc (heap_alloc2_new _ _ _) _
  have hbm0 : (((w2.alloc (.cells #[.slice A4 (polPs p).length c4, .slice A5 (polBs p).length c5, .int .i64 (manyFrom (polPs p) 0)] 80)).alloc (.cells #[.slice A6 (polOf p).length c6] 22)).alloc (.cells (Array.replicate g.length (.slice none 0 0)) 22)).heap[w2.heap.size + 1 + 1]? = some (.cells (Array.replicate g.length (.slice none 0 0)) 22 (0, 0)) := by
    have h := heap_alloc_new ((w2.alloc (.cells #[.slice A4 (polPs p).length c4, .slice A5 (polBs p).length c5, .int .i64 (manyFrom (polPs p) 0)] 80)).alloc (.cells #[.slice A6 (polOf p).length c6] 22)) (.cells (Array.replicate g.length (.slice none 0 0)) 22)
    simpa using h
  have hb23 : Below w2.heap.size w2 (((w2.alloc (.cells #[.slice A4 (polPs p).length c4, .slice A5 (polBs p).length c5, .int .i64 (manyFrom (polPs p) 0)] 80)).alloc (.cells #[.slice A6 (polOf p).length c6] 22)).alloc (.cells (Array.replicate g.length (.slice none 0 0)) 22)) := below_alloc (below_alloc (below_alloc (Below.refl _ _) _) _) _
  have hsz3 : (((w2.alloc (.cells #[.slice A4 (polPs p).length c4, .slice A5 (polBs p).length c5, .int .i64 (manyFrom (polPs p) 0)] 80)).alloc (.cells #[.slice A6 (polOf p).length c6] 22)).alloc (.cells (Array.replicate g.length (.slice none 0 0)) 22)).heap.size = w2.heap.size + 3 := by simp
  refine (cO.out _ (HB2.out.trans (hb23.mono HB2.out.size))).mono ?_
  rintro e w5 ⟨vo, rfl, hO, hb5⟩
  rw [hsz3] at hO
  obtain ⟨Ao, co, rfl, lo, go⟩ := Kd.R_reads hO
  have hb25 : Below w2.heap.size w2 w5 := below_then hb23 hb23.size hb5
  have HB25 := Aside0.mk hb25
  have HBt := Aside0.mk (blk_below5 hb5 hbt0)
  have HBf := Aside0.mk (blk_below5 hb5 hbf0)
  have HBm := Aside0.mk (blk_below5 hb5 hbm0)
  have HP5 := Aside0.mk (blk_below5 hb25 HP2.out)
  have HS5 := Aside0.mk (blk_below5 hb25 HS2.out)
  have HO := Aside0.mk hO
  have lP : w.heap.size < w2.heap.size := (Array.getElem?_eq_some_iff.1 HP2.out).1
  have lS : MS < w2.heap.size := (Array.getElem?_eq_some_iff.1 HS2.out).1
  have l5 : w2.heap.size + 3 ≤ w5.heap.size := by have := hb5.size; rw [hsz3] at this; exact this
  have LP := Aside0.mk lP
  have LS := Aside0.mk lS
  have L5 := Aside0.mk l5
  have HMS := Aside0.mk hMS
  have HW2 : Aside0 (∀ w', w5.grownBy w' (some (w2.heap.size + 1 + 1)) → Below w2.heap.size w2 w') := ⟨fun w' h => hb25.grown h hb25.size (fun k e => by cases e; omega)⟩
  have HW0 : Aside0 (∀ w', w5.grownBy w' (some (w2.heap.size + 1 + 1)) → Below w.heap.size w w') := ⟨fun w' h => HB2.out.trans ((HW2.out w' h).mono HB2.out.size)⟩
  have hom := go.2.1
  have HOL := Aside0.mk (order_len HGB.out)
  have HOR := Aside0.mk (order_range HGB.out)
  clear hbt0 hbf0 hbm0 hb23 hsz3 hb5 hb25 hO go lP lS l5 hMS cO hmk hgi
  go_wp2
  go_loopg [37] (orderG g).length (fun gg s37 wr => ∃ (j : Nat) (vs : List Value), j ≤ (orderG g).length ∧ (orderG g).length - j ≤ gg ∧ s37 = .int .i64 j ∧ Aside0 (RowsAt (((orderG g).take j).foldl (hitsStep p g) (List.replicate g.length [])) vs (w2.heap.size + 1 + 1) w5.heap.size (fun _ => True) wr) ∧ Aside0 (w5.grownBy wr (some (w2.heap.size + 1 + 1))))
  case atStart => exact ⟨0, _, Nat.zero_le _, by omega, rfl, ⟨RowsAt.made g.length HBm.out⟩, ⟨World.grownBy.refl _ _⟩⟩
  case round =>
    obtain ⟨j, vs, hj, hjg, rfl, RA, GW⟩ := hrel
    obtain ⟨wo, rfl⟩ : ∃ wo : World, wo = wr := ⟨_, rfl⟩
    by_cases hjl : j < (orderG g).length
    · have hjz : (j : Int) < ((orderG g).length : Int) := by omega
      have hR9 := Kd.R_move (Kd.R_bound HO.out) (w1 := wo) (fun k hk => GW.out.block k (by have := hk.2.2.1; exact this) (fun e => by injection e with e; have := hk.2.1; omega))
      obtain ⟨Ao', co', eo, _, go⟩ := Kd.R_reads hR9
      injection eo with eo1 eo2 eo3
      subst eo1 eo3
      obtain ⟨ado, eo, po⟩ := Kd.at_int go (j : Int) (by omega) hjz
      subst eo
      rw [Int.toNat_natCast] at po
      have HTK := Aside0.mk (show (orderG g).take (j + 1) = (orderG g).take j ++ [rd (orderG g) (j : Int)] by rw [rd_get _ j hjl, List.take_append_getElem hjl])
      have har := HOR.out (rd (orderG g) (j : Int)) (by rw [rd_get _ j hjl]; exact List.getElem_mem _)
      generalize rd (orderG g) (j : Int) = a at *
      have hza : a.toNat < g.length := by omega
      have HAR := Aside0.mk har
      generalize hout : ((orderG g).take j).foldl (hitsStep p g) (List.replicate g.length []) = out at *
      have HOUT := Aside0.mk hout
      have hol : out.length = g.length := by rw [← hout]; exact (hits_len p g _ _).trans (by simp)
      have HOLN := Aside0.mk hol
      have HROW : Aside0 ((out.getD a.toNat []).length ≤ 200000) := ⟨by
        rw [← hout]
        have h1 := hits_row p g (polB_parts HPB.out).2.1 ((orderG g).take j) (List.replicate g.length []) 0 (fun i => by rw [List.getD_eq_getElem?_getD, List.getElem?_replicate]; split <;> simp) a.toNat
        have h2 : ((orderG g).take j).length ≤ 2000 := by rw [List.length_take]; have := HOL.out; have := HGL.out; omega
        omega⟩
      have hbt := blk_grown HBt.out GW.out (fun e => by injection e with e; omega)
      have ct0 : wo.cell? ⟨w2.heap.size, 0, none⟩ = some (.slice A4 (polPs p).length c4) := (blk_cell hbt 0).trans rfl
      have ct1 : wo.cell? ⟨w2.heap.size, 1, none⟩ = some (.slice A5 (polBs p).length c5) := (blk_cell hbt 1).trans rfl
      have ct2 : wo.cell? ⟨w2.heap.size, 2, none⟩ = some (.int .i64 (manyFrom (polPs p) 0)) := (blk_cell hbt 2).trans rfl
      have hMS := blk_grown HS5.out GW.out (fun e => by injection e with e; have := LS.out; omega)
      have oks := HSE.out.get hza
      obtain ⟨x0, x1, x2, x3, x4, x5, x6, x7, ex⟩ := cells8 oks
      have EX := Aside0.mk ex
      have e0 : wo.cell? ⟨MS, a.toNat * 8, none⟩ = some (.int .u64 (x0 : Int)) := (blk_cell hMS _).trans ((show (setCells (statesL p g).flatten)[a.toNat * 8]? = _ from flat_cell HSE.out hza (show 0 < 8 by omega)).trans (by rw [EX.out]; rfl))
      have e1 : wo.cell? ⟨MS, a.toNat * 8 + 1, none⟩ = some (.int .u64 (x1 : Int)) := (blk_cell hMS _).trans ((flat_cell HSE.out hza (show 1 < 8 by omega)).trans (by rw [EX.out]; rfl))
      have e2 : wo.cell? ⟨MS, a.toNat * 8 + 2, none⟩ = some (.int .u64 (x2 : Int)) := (blk_cell hMS _).trans ((flat_cell HSE.out hza (show 2 < 8 by omega)).trans (by rw [EX.out]; rfl))
      have e3 : wo.cell? ⟨MS, a.toNat * 8 + 3, none⟩ = some (.int .u64 (x3 : Int)) := (blk_cell hMS _).trans ((flat_cell HSE.out hza (show 3 < 8 by omega)).trans (by rw [EX.out]; rfl))
      have e4 : wo.cell? ⟨MS, a.toNat * 8 + 4, none⟩ = some (.int .u64 (x4 : Int)) := (blk_cell hMS _).trans ((flat_cell HSE.out hza (show 4 < 8 by omega)).trans (by rw [EX.out]; rfl))
      have e5 : wo.cell? ⟨MS, a.toNat * 8 + 5, none⟩ = some (.int .u64 (x5 : Int)) := (blk_cell hMS _).trans ((flat_cell HSE.out hza (show 5 < 8 by omega)).trans (by rw [EX.out]; rfl))
      have e6 : wo.cell? ⟨MS, a.toNat * 8 + 6, none⟩ = some (.int .u64 (x6 : Int)) := (blk_cell hMS _).trans ((flat_cell HSE.out hza (show 6 < 8 by omega)).trans (by rw [EX.out]; rfl))
      have e7 : wo.cell? ⟨MS, a.toNat * 8 + 7, none⟩ = some (.int .u64 (x7 : Int)) := (blk_cell hMS _).trans ((flat_cell HSE.out hza (show 7 < 8 by omega)).trans (by rw [EX.out]; rfl))
      have cA : ∀ W', Below w2.heap.size w2 W' → _ := fun W' h => accept_any (polPs p) (polBs p) A4 c4 A5 c5 (manyFrom (polPs p) 0) _ oks W' (HTab.out.below h)
      rw [ex] at cA
      simp only [setV, setCells, wordV, tabArg, List.map_cons, List.map_nil] at cA
      have CA := Aside0.mk cA
      have hrule := held_cell (W1 := wo)
      have m1 : w2.heap.size < wo.heap.size := by have := GW.out.size; have := L5.out; omega
      have m2 : MS < wo.heap.size := by have := GW.out.size; have := L5.out; have := LS.out; omega
      have HWo : Aside0 (∀ w', Below wo.heap.size wo w' → Below w2.heap.size w2 w') := ⟨fun w' h => (HW2.out wo GW.out).trans (h.mono (HW2.out wo GW.out).size)⟩
      have har0 := har.1
      have har1 := har.2
      clear hR9 go cA ex oks hbt hMS hout hol har
      go_wp2
      go_region_held3 (fun w' => Below wo.heap.size wo w')
        (first | (with_reducible exact below_drew (Below.refl _ _)) | (with_reducible exact HB6.out) | (with_reducible assumption))
        (first | (go_at_call 33; refine (CA.out _ (HWo.out _ (by with_reducible assumption))).mono ?_; rintro e w6 ⟨va, rfl, hva, hb6⟩; have HB6 := Aside0.mk (held_call (W1 := wo) (by with_reducible assumption) hb6); have HVA := Aside0.mk hva; have HB6' := Aside0.mk hb6; clear hva hb6))
      have hIA : InAt out vs (w2.heap.size + 1 + 1) w5 va (nfaAccept (polPs p) (polBs p) [x0, x1, x2, x3, x4, x5, x6, x7]) w6 := by
        have hge : ∀ k, va.ownBlock = some k → wo.heap.size ≤ k := fun k hk => Kd.R_base HVA.out k hk
        have l1 := GW.out.size
        have l2 := L5.out
        refine ⟨(RA.out.mono (fun k hk _ e => by have := hge k e.symm; omega)).below HB6.out, Kd.R_reok rfl (Kd.R_lower HVA.out (by simpa using l1)) (fun k hk => by have := hge k hk; omega), World.grownBy.trans GW.out (grown_of_below HB6.out _)⟩
      have HIA := Aside0.mk hIA
      generalize hac : nfaAccept (polPs p) (polBs p) [x0, x1, x2, x3, x4, x5, x6, x7] = acc at *
      have HACC : Aside0 (∀ k ∈ acc, 0 ≤ k ∧ k < ((polOf p).length : Int)) := ⟨fun k hk => by rw [pol_of_len]; rw [← hac] at hk; exact acc_range hk⟩
      have HHIT : Aside0 (∀ i : Nat, hitP p g a i = (acc.any (fun k => rd (polOf p) k == (i : Int)) || (!(rd_T50 p.rules (i : Int)).f1.data.toList.isEmpty && (rd_T50 p.rules (i : Int)).f1.data.toList == (rd_T34 g a).f1.data.toList))) := ⟨fun i => by unfold hitP; rw [EX.out, hac]⟩
      have p3 : w6.cell? ⟨w.heap.size, 3, none⟩ = some (.slice A3 p.rules.length c3) := (blk_cell (blk_grown HP5.out HIA.out.gw (fun e => by injection e with e; have := LP.out; omega)) 3).trans rfl
      clear hac hIA hrule HWo HB6 HB6' HVA EX e0 e1 e2 e3 e4 e5 e6 e7 ct0 ct1 ct2 CA m1 m2 po
      have HPN : p.rules.length ≤ 100 := (polB_parts HPB.out).2.1
      have LI : out.length = g.length := HOLN.out
      clear HB1 HP1 HS1 HB2 HP2 HS2 HB25
      go_wp2
      go_loopg [50] p.rules.length (fun gg s50 wi => ∃ (i : Nat) (vi : List Value), i ≤ p.rules.length ∧ p.rules.length - i ≤ gg ∧ s50 = .int .i64 i ∧ Aside0 (InAt (out.set a.toNat (out.getD a.toNat [] ++ hitsTo p g a i)) vi (w2.heap.size + 1 + 1) w5 va acc wi))
      case atStart => exact ⟨0, vs, Nat.zero_le _, by omega, rfl, ⟨by rw [show hitsTo p g a 0 = [] from rfl, List.append_nil, set_same]; exact HIA.out⟩⟩
      case round =>
        obtain ⟨i, vi, hi, hig, rfl, IA⟩ := hrel
        obtain ⟨wi, rfl⟩ : ∃ wi : World, wi = wr := ⟨_, rfl⟩
        by_cases hil : i < p.rules.length
        · have hiz : (i : Int) < (p.rules.length : Int) := by omega
          have hRule := Kd.C_below HPR.out (HW0.out wi IA.out.gw)
          obtain ⟨adr, Ar, cr, eo, q0, q1, q2, q3, q4, lr, gr⟩ := at_T50 hRule (i : Int) (by omega) (by omega)
          subst eo
          rw [Int.toNat_natCast] at q0 q1 q2 q3 q4
          obtain ⟨Av, cv, eva, lv, gv⟩ := Kd.R_reads IA.out.hv
          have hHH := HHIT.out i
          have HY := Aside0.mk (fun h => hitsTo_yes (p := p) (g := g) (a := a) (k := i) h)
          have HN := Aside0.mk (fun h => hitsTo_no (p := p) (g := g) (a := a) (k := i) h)
          have hgn := at_T34 (Kd.C_below HR.out (HW0.out wi IA.out.gw)) a har0 har1
          obtain ⟨adg, Ag, cg, eg, n0, n1, n2, n3, ln, gn⟩ := hgn
          have HT1 := Aside0.mk n1
          generalize (rd_T34 g a).f1 = G at hHH n1 HT1
          generalize rd_T50 p.rules (i : Int) = x at *
          have hb12 : Below wi.heap.size wi ((wi.alloc (.cells #[.int .i64 i] 3)).alloc (.cells #[.slice Ar x.f0.length cr, .string x.f1, .int .i64 x.f2.f0, .int .u64 x.f2.f1, .bool x.f3] 50)) := below_alloc (below_alloc (Below.refl _ _) _) _
          have hbi : ((wi.alloc (.cells #[.int .i64 i] 3)).alloc (.cells #[.slice Ar x.f0.length cr, .string x.f1, .int .i64 x.f2.f0, .int .u64 x.f2.f1, .bool x.f3] 50)).heap[wi.heap.size]? = some (.cells #[.int .i64 i] 3 (0, 0)) := heap_alloc2_old _ _ _
          have hbr : ((wi.alloc (.cells #[.int .i64 i] 3)).alloc (.cells #[.slice Ar x.f0.length cr, .string x.f1, .int .i64 x.f2.f0, .int .u64 x.f2.f1, .bool x.f3] 50)).heap[wi.heap.size + 1]? = some (.cells #[.slice Ar x.f0.length cr, .string x.f1, .int .i64 x.f2.f0, .int .u64 x.f2.f1, .bool x.f3] 50 (0, 0)) := heap_alloc2_new _ _ _
          have hbf : ((wi.alloc (.cells #[.int .i64 i] 3)).alloc (.cells #[.slice Ar x.f0.length cr, .string x.f1, .int .i64 x.f2.f0, .int .u64 x.f2.f1, .bool x.f3] 50)).heap[w2.heap.size + 1]? = some (.cells #[.slice A6 (polOf p).length c6] 22 (0, 0)) := blk_alloc (blk_alloc (blk_grown HBf.out IA.out.gw (fun e => by injection e with e; omega)) _) _
          have hcf := ContainsFunc_int 35 #[.pointer (some ⟨w2.heap.size + 1, 0, none⟩), .pointer (some ⟨wi.heap.size, 0, none⟩)] (enters_of Tryd.func35 (by kernel_rfl) rfl) Av cv acc (fun j => rd (polOf p) (rd acc (j : Int)) == (i : Int)) ((wi.alloc (.cells #[.int .i64 i] 3)).alloc (.cells #[.slice Ar x.f0.length cr, .string x.f1, .int .i64 x.f2.f0, .int .u64 x.f2.f1, .bool x.f3] 50)) (Kd.C_below gv hb12)
            (fun j W hj hbW => hits1_any (polOf p) A6 c6 i (rd acc (j : Int)) (w2.heap.size + 1) wi.heap.size W (HACC.out _ (by rw [rd_get _ j hj]; exact List.getElem_mem _)).1 (HACC.out _ (by rw [rd_get _ j hj]; exact List.getElem_mem _)).2 (Kd.C_below HOf.out ((HW2.out wi IA.out.gw).trans ((hb12.mono (HW2.out wi IA.out.gw).size).trans (hbW.mono (Nat.le_trans (HW2.out wi IA.out.gw).size hb12.size)))))
              ((blk_cell (blk_below5 hbW hbf) 0).trans rfl) ((blk_cell (blk_below5 hbW hbi) 0).trans rfl))
          rw [any_range (fun k => rd (polOf p) k == (i : Int)) acc (fun j => rd acc (j : Int)) (fun j hj => rd_get _ j hj)] at hcf
          generalize (acc.any fun k => rd (polOf p) k == (i : Int)) = b at hcf hHH
          generalize hitP p g a i = hit at hHH HY HN
          have HHH := Aside0.mk hHH
          have IA2 := Aside0.mk (IA.out.below hb12)
          have HBR := Aside0.mk hbr
          have HBI := Aside0.mk hbi
          have HN1 : Aside0 (∀ W, Below wi.heap.size wi W → W.cell? ⟨(adg.add (a.toNat * 4)).block, (adg.add (a.toNat * 4)).off + 1, none⟩ = some (.string G)) := ⟨fun W h => (h.cell (World.block_lt_of_cell? wi _ n1)).trans n1⟩
          have HB12 := Aside0.mk hb12
          subst eg eva
          clear hRule gr lr hHH HT1 n0 n1 n2 n3 ln gn gv hb12 hbi hbr hbf lv
          go_wp2_with fail
          refine hcf.mono ?_
          rintro e w8 ⟨rfl, hb8⟩
          have IA8 := Aside0.mk (IA2.out.below hb8)
          have hb28 := below_then HB12.out HB12.out.size hb8
          have HBR8 := Aside0.mk (blk_below5 hb8 HBR.out)
          have HBI8 := Aside0.mk (blk_below5 hb8 HBI.out)
          have t0 : w8.cell? ⟨wi.heap.size, 0, none⟩ = some (.int .i64 i) := (blk_cell HBI8.out 0).trans rfl
          have t1 : w8.cell? ⟨wi.heap.size + 1, 1, none⟩ = some (.string x.f1) := (blk_cell HBR8.out 1).trans rfl
          have t2 := HN1.out _ hb28
          clear hcf hb8 hb28 IA2 HBR HBI HB12 HBR8 HBI8 HN1 IA q0 q1 q2 q3 q4 p3
          generalize x.f1 = T at *
          generalize hR0 : out.getD a.toNat [] ++ hitsTo p g a i = R0 at *
          have HR0 := Aside0.mk hR0
          have hlo : a.toNat < (out.set a.toNat R0).length := by rw [List.length_set]; omega
          have hog : (out.set a.toNat R0).getD a.toNat [] = R0 := by rw [getD_lt _ _ hlo, List.getElem_set_self]
          obtain ⟨Aa, ca, eaa, cm⟩ := IA8.out.rows.reads hlo
          have HEL0 := IA8.out.rows.el a.toNat hlo
          rw [eaa, hog] at HEL0
          rw [hog] at cm
          have HEL := Aside0.mk HEL0
          have HTL : Aside0 (R0.length ≤ 200100) := ⟨by rw [← hR0, List.length_append]; have := HROW.out; have := hitsTo_len p g a i; omega⟩
          have HPU : Aside0 (∀ (w1 : World) (v1 : Value), Kd.R (Kd.int .i64) 3 w1 w5.heap.size (fun k => some k ≠ (Value.slice Av acc.length cv).ownBlock ∧ k ≠ w2.heap.size + 1 + 1) v1 (R0 ++ [(i : Int)]) → (∀ nq, (w8.drewN nq).grownBy w1 (Value.slice Aa R0.length ca).ownBlock →
              (v1.ownBlock = (Value.slice Aa R0.length ca).ownBlock ∨ ∃ b, v1.ownBlock = some b ∧ (w8.drewN nq).heap.size ≤ b) → w1.cell? ⟨w2.heap.size + 1 + 1, a.toNat, none⟩ = some (.slice Aa R0.length ca) ∧ w1.frozen? ⟨w2.heap.size + 1 + 1, a.toNat, none⟩ = false ∧ InAt (out.set a.toNat (R0 ++ [(i : Int)])) (vi.set a.toNat v1) (w2.heap.size + 1 + 1) w5 (.slice Av acc.length cv) acc (w1.setCell ⟨w2.heap.size + 1 + 1, a.toNat, none⟩ v1))) := ⟨fun w1 v1 hR nq hg hat => by
            have h := (IA8.out.below (pw_below_drewN (Below.refl _ _) nq)).push hlo (x := (i : Int)) (v1 := v1) (w1 := w1) (by rw [hog]; exact hR) (by rw [eaa, hog]; exact hg) (by rw [eaa, hog]; exact hat)
            rw [hog, List.set_set] at h
            exact ⟨World.grownBy.cell hg (by rw [World.cell?_drewN]; exact cm) (fun e => (HEL.out.1 _ e.symm).2 rfl), h⟩⟩
          have HSZ : Aside0 (w5.heap.size ≤ w8.heap.size) := ⟨IA8.out.gw.size⟩
          have HFR : Aside0 (∀ k, w8.heap.size ≤ k → some k ≠ (Value.slice Av acc.length cv).ownBlock ∧ k ≠ w2.heap.size + 1 + 1) := ⟨fun k hk => ⟨fun e => by have := Kd.R_lt IA8.out.hv k e.symm; omega, by have := IA8.out.gw.size; have := L5.out; omega⟩⟩
          have hMlt : w2.heap.size + 1 + 1 < w8.heap.size := (Array.getElem?_eq_some_iff.1 IA8.out.rows.row).1
          have hilt : wi.heap.size < w8.heap.size := World.block_lt_of_cell? w8 _ t0
          clear HEL0 hlo hog eaa hR0
          cases b with
          | true =>
            go_wp2
            go_quiet (fail)
            go_wp2_with fail
            have cmA : ((w8.drewN (nq + 1)).alloc (.cells #[.int .i64 i] 3)).cell? ⟨w2.heap.size + 1 + 1, a.toNat, none⟩ = some (.slice Aa R0.length ca) := (Below.cell (below_alloc (pw_below_drewN (Below.refl w8.heap.size w8) (nq + 1)) _) hMlt).trans cm; go_region_law (refine Kd.R_append_step (Kd.int .i64) (w0 := w8) w5.heap.size (by rfl) (.tmp 79) (.tmp 81) 22 3 (.int .i64 0) 8 rfl Tryd.underlying22 info3 rfl (by decide) (by omega) (.slice Aa R0.length ca) R0 (i : Int) [.int .i64 (i : Int)] (fun k => some k ≠ (Value.slice Av acc.length cv).ownBlock ∧ k ≠ w2.heap.size + 1 + 1) (fun _ => False) (by rfl) (by rfl) (by rfl) (fun _ hk => hk.elim) (fun k hk => HFR.out k hk) (Kd.R_drewN HEL.out _) (pw_below_drewN (Below.refl _ _) _) HSZ.out (by have := HTL.out; omega) ?_; intro v1 w1 hR1 hb1 hg1 hat1; obtain ⟨A1', c1', rfl, hl1, hC1⟩ := Kd.R_reads hR1; have HP1 := Aside0.mk (HPU.out _ _ hR1 _ hg1 hat1); have cz := HP1.out.1; have fz := HP1.out.2.1; have HP2 := Aside0.mk HP1.out.2.2; clear HP1; clear hR1 hb1 hg1 hat1 hl1 hC1)
            all_goals
              have hh : hit = true := by rw [HHH.out]; rfl
              have HHT := Aside0.mk hh
              clear hh
              go_wp2
              go_roundg (p.rules.length - (i + 1))
              case measure => omega
              case rel => exact ⟨i + 1, _, by omega, by omega, by go_num, ⟨by rw [HY.out HHT.out, ← List.append_assoc, HR0.out]; have hz := HP2.out; rw [show (R0 ++ [(i : Int)]).length = R0.length + 1 by simp] at hz; exact hz⟩⟩
          | false =>
            cases hte : T.toList.isEmpty with
            | true =>
              go_wp2
              go_quiet (fail)
              go_wp2_with fail
              have hh : hit = false := by have h := HHH.out; rw [ba_toList] at hte; rw [h, hte]; rfl
              have HHT := Aside0.mk hh
              clear hh
              go_roundg (p.rules.length - (i + 1))
              case measure => omega
              case rel => exact ⟨i + 1, vi, by omega, by omega, by go_num, ⟨by rw [HN.out HHT.out, HR0.out]; exact IA8.out.below (pw_below_drewN (Below.refl _ _) _)⟩⟩
            | false =>
              cases htg : (T.toList == G.toList) with
              | true =>
                go_wp2
                go_quiet (fail)
                go_wp2_with fail
                have cmA : ((w8.drewN (nq + 1)).alloc (.cells #[.int .i64 i] 3)).cell? ⟨w2.heap.size + 1 + 1, a.toNat, none⟩ = some (.slice Aa R0.length ca) := (Below.cell (below_alloc (pw_below_drewN (Below.refl w8.heap.size w8) (nq + 1)) _) hMlt).trans cm; go_region_law (refine Kd.R_append_step (Kd.int .i64) (w0 := w8) w5.heap.size (by rfl) (.tmp 79) (.tmp 81) 22 3 (.int .i64 0) 8 rfl Tryd.underlying22 info3 rfl (by decide) (by omega) (.slice Aa R0.length ca) R0 (i : Int) [.int .i64 (i : Int)] (fun k => some k ≠ (Value.slice Av acc.length cv).ownBlock ∧ k ≠ w2.heap.size + 1 + 1) (fun _ => False) (by rfl) (by rfl) (by rfl) (fun _ hk => hk.elim) (fun k hk => HFR.out k hk) (Kd.R_drewN HEL.out _) (pw_below_drewN (Below.refl _ _) _) HSZ.out (by have := HTL.out; omega) ?_; intro v1 w1 hR1 hb1 hg1 hat1; obtain ⟨A1', c1', rfl, hl1, hC1⟩ := Kd.R_reads hR1; have HP1 := Aside0.mk (HPU.out _ _ hR1 _ hg1 hat1); have cz := HP1.out.1; have fz := HP1.out.2.1; have HP2 := Aside0.mk HP1.out.2.2; clear HP1; clear hR1 hb1 hg1 hat1 hl1 hC1)
                all_goals
                  have hh : hit = true := by have h := HHH.out; rw [ba_toList] at hte; rw [ba_toList, ba_toList] at htg; rw [h, hte, htg]; rfl
                  have HHT := Aside0.mk hh
                  clear hh
                  go_wp2
                  go_roundg (p.rules.length - (i + 1))
                  case measure => omega
                  case rel => exact ⟨i + 1, _, by omega, by omega, by go_num, ⟨by rw [HY.out HHT.out, ← List.append_assoc, HR0.out]; have hz := HP2.out; rw [show (R0 ++ [(i : Int)]).length = R0.length + 1 by simp] at hz; exact hz⟩⟩
              | false =>
                go_wp2
                go_quiet (fail)
                go_wp2_with fail
                have hh : hit = false := by have h := HHH.out; rw [ba_toList] at hte; rw [ba_toList, ba_toList] at htg; rw [h, hte, htg]; rfl
                have HHT := Aside0.mk hh
                clear hh
                go_roundg (p.rules.length - (i + 1))
                case measure => omega
                case rel => exact ⟨i + 1, vi, by omega, by omega, by go_num, ⟨by rw [HN.out HHT.out, HR0.out]; exact IA8.out.below (pw_below_drewN (Below.refl _ _) _)⟩⟩
        · have hiz : ¬ (i : Int) < (p.rules.length : Int) := by omega
          have HI := Aside0.mk (show i = p.rules.length by omega)
          rw [HI.out] at IA
          go_wp2
          go_roundg ((orderG g).length - (j + 1))
          case measure => omega
          case rel =>
            refine ⟨j + 1, vi, by omega, by omega, by go_num, ⟨?_⟩, ⟨IA.out.gw⟩⟩
            rw [HTK.out, List.foldl_append, List.foldl_cons, List.foldl_nil, HOUT.out]
            exact IA.out.rows.mono (fun _ _ _ => trivial)
    · have hjz : ¬ (j : Int) < ((orderG g).length : Int) := by omega
      have HJ := Aside0.mk (show (orderG g).take j = orderG g by rw [List.take_of_length_le (by omega)])
      rw [HJ.out] at RA
      go_wp2
      go_ret2
      exact ⟨vs, _, rfl, RA.out.lower (by have := L5.out; have := LP.out; omega), by have := LP.out; omega, HW0.out _ GW.out⟩
end Go.Proofs.YtpbkdeelkpjccaaDoor.G

namespace Go.Proofs.YtpbkdeelkpjccaaDoor.G
open Go.RowKit Go.Proofs.YtpbkdeelkpjccaaDoorW.PrintWords Go.Proofs.YtpbkdeelkpjccaaDoorW.PrintMore
set_option linter.unusedVariables false
set_option linter.unusedSimpArgs false
def joinL (x y : S46) : S46 := ⟨mx x.f0 y.f0, Go.bits .or .u64 x.f1 y.f1⟩
def overB (x y : S46) : Bool := decide (y.f0 ≤ x.f0) && (Go.bits .andNot .u64 y.f1 x.f1 == 0)
structure LabOk (x : S46) : Prop where
  lo : 0 ≤ x.f0
  hi : x.f0 ≤ 9
  b0 : 0 ≤ x.f1
  b1 : x.f1 < 18446744073709551616
theorem zero_ok : LabOk z46 := ⟨Int.le_refl _, by decide, Int.le_refl _, by decide⟩
theorem or_nat {a b : Int} (ha : 0 ≤ a) (ha1 : a < 18446744073709551616) (hb : 0 ≤ b) (hb1 : b < 18446744073709551616) : Go.bits .or .u64 a b = ((a.toNat ||| b.toNat : Nat) : Int) := by
  have h := bits_or_u64_nat a.toNat b.toNat (by omega) (by omega)
  rw [Int.toNat_of_nonneg ha, Int.toNat_of_nonneg hb] at h
  exact h
theorem join_ok {x y : S46} (hx : LabOk x) (hy : LabOk y) : LabOk (joinL x y) := by
  have h := or_nat hx.b0 hx.b1 hy.b0 hy.b1
  have h2 : x.f1.toNat ||| y.f1.toNat < 2 ^ 64 := Nat.or_lt_two_pow (by have := hx.b1; have := hx.b0; omega) (by have := hy.b1; have := hy.b0; omega)
  refine ⟨?_, ?_, ?_, ?_⟩
  · show 0 ≤ mx x.f0 y.f0; unfold mx; have := hx.lo; have := hy.lo; split <;> omega
  · show mx x.f0 y.f0 ≤ 9; unfold mx; have := hx.hi; have := hy.hi; split <;> omega
  · show 0 ≤ Go.bits .or .u64 x.f1 y.f1; rw [h]; omega
  · show Go.bits .or .u64 x.f1 y.f1 < _; rw [h]; omega
theorem andNot_zero {y x : Nat} (hx : x < 18446744073709551616) (hy : y < 18446744073709551616) (h : x ||| y = x) : Go.bits .andNot .u64 (y : Int) (x : Int) = 0 := by
  have e : BitVec.ofInt IntKind.u64.bits (y : Int) &&& ~~~(BitVec.ofInt IntKind.u64.bits (x : Int)) = 0#_ := by
    apply BitVec.eq_of_getLsbD_eq
    intro i hi
    have hi64 : i < 64 := hi
    have h1 : (x ||| y).testBit i = x.testBit i := by rw [h]
    rw [Nat.testBit_or] at h1
    rw [BitVec.ofInt_natCast, BitVec.ofInt_natCast]
    simp only [BitVec.getLsbD_and, BitVec.getLsbD_not, BitVec.getLsbD_ofNat, BitVec.getLsbD_zero]
    have hi2 : i < IntKind.u64.bits := hi
    cases hb : y.testBit i <;> cases hc : x.testBit i <;> simp_all
  unfold Go.bits
  dsimp only
  rw [e]
  rfl
def ml (x : S46) : Nat := (9 - x.f0).toNat + zb x.f1.toNat
theorem join_f1 {x y : S46} (hx : LabOk x) (hy : LabOk y) : (joinL x y).f1.toNat = x.f1.toNat ||| y.f1.toNat := by
  show (Go.bits .or .u64 x.f1 y.f1).toNat = _
  rw [or_nat hx.b0 hx.b1 hy.b0 hy.b1]; rfl
theorem ml_lt {x y : S46} (hx : LabOk x) (hy : LabOk y) (h : overB x y = false) : ml (joinL x y) < ml x := by
  have hj := join_f1 hx hy
  have hle := zb_le x.f1.toNat y.f1.toNat
  have hx0 := hx.lo
  have hx9 := hx.hi
  have hy9 := hy.hi
  unfold ml
  rw [hj]
  show (9 - mx x.f0 y.f0).toNat + _ < _
  unfold mx
  by_cases hl : y.f0 ≤ x.f0
  · rw [if_neg (by omega)]
    have hne : x.f1.toNat ||| y.f1.toNat ≠ x.f1.toNat := fun e => by
      have h0 := andNot_zero (x := x.f1.toNat) (y := y.f1.toNat) (by have := hx.b1; have := hx.b0; omega) (by have := hy.b1; have := hy.b0; omega) e
      rw [Int.toNat_of_nonneg hx.b0, Int.toNat_of_nonneg hy.b0] at h0
      unfold overB at h
      rw [h0, decide_eq_true hl] at h
      simp at h
    have := zb_lt (x := x.f1.toNat) (y := y.f1.toNat) (by have := hx.b1; have := hx.b0; omega) (by have := hy.b1; have := hy.b0; omega) hne
    omega
  · rw [if_pos (by omega)]; omega
theorem ml_top {x : S46} (hx : LabOk x) : ml x ≤ 73 := by
  have := zb_top x.f1.toNat
  have := hx.lo
  unfold ml; omega
def Labs (n : Nat) (L : List S46) : Prop := L.length = n ∧ ∀ x ∈ L, LabOk x
theorem Labs.get {n : Nat} {L : List S46} (h : Labs n L) {k : Nat} (hk : k < n) : LabOk (L.getD k z46) := by
  rw [getD_lt _ _ (by rw [h.1]; exact hk)]; exact h.2 _ (List.getElem_mem _)
theorem Labs.set {n : Nat} {L : List S46} (h : Labs n L) (k : Nat) {u : S46} (hu : LabOk u) : Labs n (L.set k u) := by
  refine ⟨by rw [List.length_set]; exact h.1, fun x hx => ?_⟩
  rcases List.mem_or_eq_of_mem_set hx with hx | rfl
  · exact h.2 x hx
  · exact hu
def labs : List S46 → List Value
  | [] => []
  | x :: L => .int .i64 x.f0 :: .int .u64 x.f1 :: labs L
theorem labs_get0 : ∀ (L : List S46) (k : Nat), k < L.length → (labs L)[k * 2]? = some (.int .i64 (L.getD k z46).f0)
  | [], k, h => absurd h (Nat.not_lt_zero _)
  | x :: L, 0, _ => rfl
  | x :: L, k + 1, h => by
    rw [show (k + 1) * 2 = k * 2 + 1 + 1 by omega]
    show (labs L)[k * 2]? = _
    rw [labs_get0 L k (by simpa using h)]; rfl
theorem labs_get1 : ∀ (L : List S46) (k : Nat), k < L.length → (labs L)[k * 2 + 1]? = some (.int .u64 (L.getD k z46).f1)
  | [], k, h => absurd h (Nat.not_lt_zero _)
  | x :: L, 0, _ => rfl
  | x :: L, k + 1, h => by
    rw [show (k + 1) * 2 + 1 = (k * 2 + 1) + 1 + 1 by omega]
    show (labs L)[k * 2 + 1]? = _
    rw [labs_get1 L k (by simpa using h)]; rfl
theorem labs_set : ∀ (L : List S46) (k : Nat) (u : S46), ((labs L).set (k * 2) (.int .i64 u.f0)).set (k * 2 + 1) (.int .u64 u.f1) = labs (L.set k u)
  | [], k, u => rfl
  | x :: L, 0, u => rfl
  | x :: L, k + 1, u => by
    rw [show (k + 1) * 2 + 1 = (k * 2 + 1) + 1 + 1 by omega, show (k + 1) * 2 = k * 2 + 1 + 1 by omega]
    show _ :: _ :: ((labs L).set (k * 2) (.int .i64 u.f0)).set (k * 2 + 1) (.int .u64 u.f1) = _
    rw [labs_set L k u]; rfl
theorem labs_zero : ∀ n : Nat, labs (List.replicate n z46) = (List.range (n * 2)).map fun i => if i % 2 = 0 then Value.int .i64 0 else .int .u64 0
  | 0 => rfl
  | n + 1 => by
    rw [List.replicate_succ, show (n + 1) * 2 = n * 2 + 2 by omega]
    show Value.int .i64 0 :: Value.int .u64 0 :: labs (List.replicate n z46) = _
    rw [labs_zero n, List.range_succ_eq_map, List.range_succ_eq_map]
    simp only [List.map_cons, List.map_map]
    congr 1
    congr 1
    apply List.map_congr_left
    intro i _
    show (if i % 2 = 0 then Value.int .i64 0 else Value.int .u64 0) = if i.succ.succ % 2 = 0 then Value.int .i64 0 else Value.int .u64 0
    split <;> split <;> first | rfl | (exfalso; omega)
def mlsum (L : List S46) : Nat := (L.map ml).sum
theorem mlsum_set {n : Nat} {L : List S46} (h : Labs n L) {k : Nat} (hk : k < n) {u : S46} (hu : ml u < ml (L.getD k z46)) : mlsum (L.set k u) < mlsum L := by
  have hkl : k < L.length := by rw [h.1]; exact hk
  unfold mlsum
  refine sum_lt _ _ (by simp) (fun i hi => ?_) ⟨k, by simpa using hkl, ?_⟩
  · have hi' : i < L.length := by simpa using hi
    rw [getD_lt _ _ (by simpa using hi'), getD_lt _ _ (by simpa using hi')]
    simp only [List.getElem_map, List.getElem_set]
    split
    · rename_i e; subst e; rw [getD_lt _ _ hkl] at hu; omega
    · exact Nat.le_refl _
  · rw [getD_lt _ _ (by simpa using hkl), getD_lt _ _ (by simpa using hkl)]
    simp only [List.getElem_map, List.getElem_set_self]
    rw [getD_lt _ _ hkl] at hu
    exact hu
theorem mlsum_top {n : Nat} {L : List S46} (h : Labs n L) : mlsum L ≤ n * 73 := by
  unfold mlsum
  have := sum_top 73 (L.map ml) (fun x hx => by
    obtain ⟨y, hy, rfl⟩ := List.mem_map.1 hx
    exact ml_top (h.2 y hy))
  rw [List.length_map, h.1] at this
  exact this
def labTell (L : List S46) (a k : Int) (p : Nat) : Option (List S46) :=
  if overB (L.getD k.toNat z46) (L.getD a.toNat z46) = true then none
  else some (L.set k.toNat (joinL (L.getD k.toNat z46) (L.getD a.toNat z46)))
def joinTo (p : PolV) (x : S46) (l : List Int) : S46 := l.foldl (fun x i => joinL x (rd_T50 p.rules i).f2) x
theorem rule_lab {p : PolV} (hp : polB p = true) (hf : fitPol p = true) {i : Int} (h0 : 0 ≤ i) (h1 : i < (p.rules.length : Int)) : LabOk (rd_T50 p.rules i).f2 := by
  have hm : rd_T50 p.rules i ∈ p.rules := by unfold rd_T50; rw [getD_lt _ _ (by omega)]; exact List.getElem_mem _
  obtain ⟨hmay, _, hr, _⟩ := polB_parts hp
  have h1 := hr _ hm
  have h2 := (fitPol_parts hf).2.2.2 _ hm
  unfold ruleB labB at h1
  simp only [Bool.and_eq_true, decide_eq_true_eq] at h1
  unfold fitR at h2
  simp only [Bool.and_eq_true, decide_eq_true_eq] at h2
  unfold mayB at hmay
  simp only [Bool.and_eq_true, decide_eq_true_eq] at hmay
  refine ⟨?_, ?_, ?_, ?_⟩ <;> omega
theorem joinTo_ok {p : PolV} (hp : polB p = true) (hf : fitPol p = true) : ∀ (l : List Int) (x : S46), LabOk x → (∀ i ∈ l, 0 ≤ i ∧ i < (p.rules.length : Int)) → LabOk (joinTo p x l)
  | [], x, hx, _ => hx
  | i :: l, x, hx, h => joinTo_ok hp hf l _ (join_ok hx (rule_lab hp hf (h i List.mem_cons_self).1 (h i List.mem_cons_self).2)) (fun j hj => h j (List.mem_cons_of_mem _ hj))
def labRow (p : PolV) (H : List (List Int)) (L : List S46) (k : Nat) : List S46 := L.set k (joinTo p (L.getD k z46) (H.getD k []))
def labsTo (p : PolV) (H : List (List Int)) (n k : Nat) : List S46 := (List.range k).foldl (labRow p H) (List.replicate n z46)
theorem labsTo_succ (p : PolV) (H : List (List Int)) (n k : Nat) : labsTo p H n (k + 1) = labRow p H (labsTo p H n k) k := by
  unfold labsTo; rw [List.range_succ, List.foldl_append, List.foldl_cons, List.foldl_nil]
theorem joinTo_snoc (p : PolV) (x : S46) (l : List Int) (i : Int) : joinTo p x (l ++ [i]) = joinL (joinTo p x l) (rd_T50 p.rules i).f2 := by
  unfold joinTo; rw [List.foldl_append, List.foldl_cons, List.foldl_nil]
def labs0 (p : PolV) (g : List S34) : List S46 := labsTo p (hitsL p g) g.length g.length
def labelsL (p : PolV) (g : List S34) : List S46 := spreadF labTell g ((orderG g).length + mlsum (labs0 p g)) (orderG g) (labs0 p g)
theorem hits_mem (p : PolV) (g : List S34) : ∀ (l : List Int) (out : List (List Int)), (∀ r ∈ out, ∀ i ∈ r, 0 ≤ i ∧ i < (p.rules.length : Int)) → ∀ r ∈ l.foldl (hitsStep p g) out, ∀ i ∈ r, 0 ≤ i ∧ i < (p.rules.length : Int)
  | [], out, h => h
  | a :: l, out, h => by
    rw [List.foldl_cons]
    refine hits_mem p g l _ (fun r hr i hi => ?_)
    unfold hitsStep at hr
    rcases List.mem_or_eq_of_mem_set hr with hr | rfl
    · exact h r hr i hi
    · rcases List.mem_append.1 hi with hi | hi
      · by_cases hl : a.toNat < out.length
        · rw [getD_lt _ _ hl] at hi; exact h _ (List.getElem_mem _) i hi
        · rw [List.getD_eq_getElem?_getD, List.getElem?_eq_none (by omega)] at hi; cases hi
      · unfold hitsTo at hi
        obtain ⟨j, hj, rfl⟩ := List.mem_map.1 hi
        have := List.mem_range.1 (List.mem_filter.1 hj).1
        omega
theorem hitsL_mem (p : PolV) (g : List S34) : ∀ r ∈ hitsL p g, ∀ i ∈ r, 0 ≤ i ∧ i < (p.rules.length : Int) :=
  hits_mem p g _ _ (fun r hr i hi => by rw [(List.mem_replicate.1 hr).2] at hi; cases hi)
theorem hitsL_len (p : PolV) (g : List S34) : (hitsL p g).length = g.length := (hits_len p g _ _).trans (by simp)
end Go.Proofs.YtpbkdeelkpjccaaDoor.G
