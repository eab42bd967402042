/- Merged by merge.py out of: Hwrong, Hstates. -/
import Derived.Test.YtpbkdeelkpjccaaDoorM25
import Derived.Test.YtpbkdeelkpjccaaDoorM18
namespace Go.Proofs.YtpbkdeelkpjccaaDoor.G
open Go.RowKit Go.Proofs.YtpbkdeelkpjccaaDoorW.PrintWords
set_option linter.unusedVariables false
set_option linter.unusedSimpArgs false
def wrongE (p : PolV) (g : List S34) : Int := if polB p = true then if graphB g = true then 0 else 5 else 15
set_option maxHeartbeats 1000000 in
set_option maxRecDepth 100000 in
theorem wrong_any (p : PolV) (A0 : Option Addr) (c0 : Nat) (A1 : Option Addr) (c1 : Nat) (A3 : Option Addr) (c3 : Nat) (g : List S34) (A : Option Addr) (c : Nat) (w : World) (H : PolAt p A0 c0 A1 c1 A3 c3 w)
    (hr : Kd.C k34 w A g.length g) (hc : g.length ≤ c) (hfit : fitG g) :
    Calls Tryd.prog 41 #[polArg p A0 c0 A1 c1 A3 c3, .slice A g.length c] w fun e w' => e = .returned (.int .i64 (wrongE p g)) ∧ Below w.heap.size w w' := by
  have cP : Aside0 (∀ W, Below w.heap.size w W → _) := ⟨fun W hb => polRight_any p A0 c0 A1 c1 A3 c3 W (H.below p A0 c0 A1 c1 A3 c3 hb)⟩
  have cG : Aside0 (∀ W, Below w.heap.size w W → _) := ⟨fun W hb => graphRight_any g A c W (H.hT.below hb) (Kd.C_below hr hb) hc hfit⟩
  have hu38 := Tryd.underlying38
  have hu41 := Tryd.underlying41
  unfold wrongE
  unfold polArg at cP ⊢
  clear H hr hfit hc
  generalize p.lev.length = n0 at *
  generalize p.cats.length = n1 at *
  generalize p.rules.length = n3 at *
  generalize p.mask = mask at *
  generalize g.length = n at *
  generalize polB p = b at *
  generalize graphB g = b2 at *
  cases b with
  | false =>
    go_enter Tryd.func41, Tryd.ntmps41
    go_wp2_with (go_at_call 12; refine (cP.out _ ?hb).mono ?_; (case hb => exact below_alloc (Below.refl _ _) _); rintro e w1 ⟨rfl, hb1⟩)
    go_ret
    exact ⟨rfl, below_then (below_alloc (Below.refl _ _) _) (by simp) hb1⟩
  | true =>
    cases b2 with
    | false =>
      go_enter Tryd.func41, Tryd.ntmps41
      go_wp2_with (first | (go_at_call 12; refine (cP.out _ ?hb).mono ?_; (case hb => exact below_alloc (Below.refl _ _) _); rintro e w1 ⟨rfl, hb1⟩) | (go_at_call 13; refine (cG.out _ ?hb).mono ?_; (case hb => exact below_then (below_alloc (Below.refl _ _) _) (by simp) hb1); rintro e w2 ⟨rfl, hb2⟩))
      go_ret
      exact ⟨rfl, below_then (below_then (below_alloc (Below.refl _ _) _) (by simp) hb1) (below_then (below_alloc (Below.refl _ _) _) (by simp) hb1).size hb2⟩
    | true =>
      go_enter Tryd.func41, Tryd.ntmps41
      go_wp2_with (first | (go_at_call 12; refine (cP.out _ ?hb).mono ?_; (case hb => exact below_alloc (Below.refl _ _) _); rintro e w1 ⟨rfl, hb1⟩) | (go_at_call 13; refine (cG.out _ ?hb).mono ?_; (case hb => exact below_then (below_alloc (Below.refl _ _) _) (by simp) hb1); rintro e w2 ⟨rfl, hb2⟩))
      go_ret
      exact ⟨rfl, below_then (below_then (below_alloc (Below.refl _ _) _) (by simp) hb1) (below_then (below_alloc (Below.refl _ _) _) (by simp) hb1).size hb2⟩
end Go.Proofs.YtpbkdeelkpjccaaDoor.G

namespace Go.Proofs.YtpbkdeelkpjccaaDoor.G
open Go.RowKit Go.Proofs.YtpbkdeelkpjccaaDoorW.PrintWords
set_option linter.unusedVariables false
set_option linter.unusedSimpArgs false
theorem graph_scalar {g : List S34} (h : graphB g = true) : ∀ x ∈ g, x.f0 = 0 → x.f3 = [] := by
  intro x hx h0
  simp only [graphB, Bool.and_eq_true] at h
  have h1 := List.all_eq_true.1 h.1.2 x hx
  unfold nodeB at h1
  split at h1
  · cases h1
  · simp only [h0, if_true, Bool.and_eq_true, List.isEmpty_iff] at h1
    exact h1.1
theorem stateTell_some {g : List S34} {pl : List (Int × S71)} {S S' : List (List Nat)} {a k : Int} {p : Nat} (h : stateTell g pl S a k p = some S') :
    ¬ ((rd_T34 g a).f0 = 2 ∧ p % 2 = 0) ∧ unionW (S.getD k.toNat []) (nfaStep pl (S.getD a.toNat []) ((stepsL (rd_T34 g a).f0 (rd_T34 g a).f3 g).getD p ⟨#[]⟩)) ≠ S.getD k.toNat [] ∧
      S' = S.set k.toNat (unionW (S.getD k.toNat []) (nfaStep pl (S.getD a.toNat []) ((stepsL (rd_T34 g a).f0 (rd_T34 g a).f3 g).getD p ⟨#[]⟩))) := by
  unfold stateTell at h
  split at h
  · cases h
  · rename_i h1
    split at h
    · cases h
    · rename_i h2
      exact ⟨h1, h2, (Option.some.inj h).symm⟩
theorem stateTell_none {g : List S34} {pl : List (Int × S71)} {S : List (List Nat)} {a k : Int} {p : Nat} (h : stateTell g pl S a k p = none) :
    ((rd_T34 g a).f0 = 2 ∧ p % 2 = 0) ∨ (¬ ((rd_T34 g a).f0 = 2 ∧ p % 2 = 0) ∧ unionW (S.getD k.toNat []) (nfaStep pl (S.getD a.toNat []) ((stepsL (rd_T34 g a).f0 (rd_T34 g a).f3 g).getD p ⟨#[]⟩)) = S.getD k.toNat []) := by
  unfold stateTell at h
  split at h
  · rename_i h1; exact .inl h1
  · rename_i h1
    split at h
    · rename_i h2; exact .inr ⟨h1, h2⟩
    · cases h
theorem nfaStep_ok (pl : List (Int × S71)) (ws : List Nat) (st : ByteArray) : OkW (nfaStep pl ws st) := closeL_ok _ (stepL_ok _ _ _)
section
variable (g : List S34) (A : Option Addr) (c : Nat) (ps : List (List S71)) (bs : List Int) (A0 : Option Addr) (c0 : Nat) (A1 : Option Addr) (c1 : Nat) (m : Int) (Bg Bo Bt M : Nat) (w00 : World)
theorem states_tell (X : StFix g A c ps bs A0 c0 A1 c1 Bg Bo Bt M w00) (hok : graphB g = true) (w : World) (hw : w00.heap.size ≤ w.heap.size) (lBg : Bg < w.heap.size) (lBo : Bo < w.heap.size) (lBt : Bt < w.heap.size) (lM : M < w.heap.size) :
    TellAt (stateTell g (allParts ps bs)) zsum (StAt g A c ps bs A0 c0 A1 c1 m Bg Bo Bt M w00) g 43 #[.pointer (some ⟨Bg, 0, none⟩), .pointer (some ⟨Bo, 0, none⟩), .pointer (some ⟨Bt, 0, none⟩)] M w := by
  have kid : ∀ (a k : Int) (p : Nat), 0 ≤ a → a < (g.length : Int) → (rd_T34 g a).f3[p]? = some k → k.toNat < g.length ∧ (rd_T34 g a).f0 ≠ 0 := by
    intro a k p h0 h1 hk
    have hx : rd_T34 g a ∈ g := by unfold rd_T34; rw [getD_lt _ _ (by omega)]; exact List.getElem_mem _
    have := X.kids _ hx k (List.mem_of_getElem? hk)
    refine ⟨by omega, fun e => ?_⟩
    rw [graph_scalar hok _ hx e] at hk
    simp at hk
  refine ⟨?_, ?_, ?_, ?_⟩
  · intro S W W' row H hg hr
    exact StAt.keep _ _ _ _ _ _ _ _ _ _ _ _ _ _ _ H hg (fun k e => Nat.le_trans hw (hr k e)) (fun k e => by have := hr k e; omega)
  · intro S W a k p S' H h0 h1 hk ht
    obtain ⟨hk1, hk2⟩ := kid a k p h0 h1 hk
    obtain ⟨_, hne, rfl⟩ := stateTell_some ht
    exact zsum_set H.sets hk1 (zws_lt (H.sets.get hk1) (nfaStep_ok _ _ _) hne)
  · intro S W a k p H hG h0 h1 hk ht
    obtain ⟨hk1, hk2⟩ := kid a k p h0 h1 hk
    rcases stateTell_none ht with ⟨e2, ep⟩ | ⟨hne, heq⟩
    · exact states1_key g A c ps bs A0 c0 A1 c1 m Bg Bo Bt M w00 X S W H a k p h0 h1 hk e2 ep
    · refine (states1_main g A c ps bs A0 c0 A1 c1 m Bg Bo Bt M w00 X S W H a k p h0 h1 hk hne hk2 _ _ _ _ _ rfl rfl rfl rfl rfl).mono ?_
      rintro e W' ⟨rfl, hS, hG'⟩
      rw [heq] at hS
      refine ⟨by rw [decide_eq_true heq]; rfl, ?_, hG'⟩
      have hl : k.toNat < S.length := by rw [H.sets.1]; exact hk1
      have e : S.set k.toNat (S.getD k.toNat []) = S := by rw [getD_lt _ _ hl, List.set_getElem_self]
      rw [e] at hS
      exact hS
  · intro S W a k p S' H hG h0 h1 hk ht
    obtain ⟨hk1, hk2⟩ := kid a k p h0 h1 hk
    obtain ⟨hne, hneq, rfl⟩ := stateTell_some ht
    refine (states1_main g A c ps bs A0 c0 A1 c1 m Bg Bo Bt M w00 X S W H a k p h0 h1 hk hne hk2 _ _ _ _ _ rfl rfl rfl rfl rfl).mono ?_
    rintro e W' ⟨rfl, hS, hG'⟩
    exact ⟨by rw [decide_eq_false hneq]; rfl, hS, hG'⟩
end
def states0 (p : PolV) (g : List S34) : List (List Nat) := (List.replicate g.length zeroW).set 0 (nfaStart (polPl p) (polBs p))
def statesL (p : PolV) (g : List S34) : List (List Nat) := spreadF (stateTell g (polPl p)) g ((orderG g).length + zsum (states0 p g)) (orderG g) (states0 p g)
def SetsAt (w : World) (base n : Nat) (v : Value) (S : List (List Nat)) : Prop := ∃ M, v = .slice (some ⟨M, 0, none⟩) n n ∧ base ≤ M ∧ Sets n S ∧ w.heap[M]? = some (.cells (setCells S.flatten) 67 (0, 0))
set_option maxHeartbeats 4000000 in
set_option maxRecDepth 100000 in
theorem states_no (p : PolV) (A0 : Option Addr) (c0 : Nat) (A1 : Option Addr) (c1 : Nat) (A3 : Option Addr) (c3 : Nat) (g : List S34) (A : Option Addr) (c : Nat) (w : World) (H : PolAt p A0 c0 A1 c1 A3 c3 w)
    (hr : Kd.C k34 w A g.length g) (hc : g.length ≤ c) (hfit : fitG g) (he : wrongE p g ≠ 0) :
    Calls Tryd.prog 17 #[polArg p A0 c0 A1 c1 A3 c3, .slice A g.length c] w fun e w' => e = .returned (.tuple #[.slice none 0 0, .int .i64 (wrongE p g)]) ∧ Below w.heap.size w w' := by
  have hb0 : Below w.heap.size w ((w.alloc (.cells #[.slice A0 p.lev.length c0, .slice A1 p.cats.length c1, .string p.mask, .slice A3 p.rules.length c3] 41)).alloc (.cells #[.slice A g.length c] 29)) := below_alloc (below_alloc (Below.refl _ _) _) _
  have hcall := wrong_any p A0 c0 A1 c1 A3 c3 g A c _ (H.below p A0 c0 A1 c1 A3 c3 hb0) (Kd.C_below hr hb0) hc hfit
  unfold polArg at hcall ⊢
  have hu41 := Tryd.underlying41
  have hu38 := Tryd.underlying38
  have hne : (wrongE p g != 0) = true := by simpa using he
  generalize wrongE p g = e0 at *
  clear H hr hc hfit
  generalize p.lev.length = n0 at *
  generalize p.cats.length = n1 at *
  generalize p.rules.length = n3 at *
  generalize p.mask = mask at *
  generalize g.length = n at *
  go_enter Tryd.func17, Tryd.ntmps17
  go_wp2_with fail
  refine hcall.mono ?_
  rintro e w1 ⟨rfl, hb1⟩
  have HB := Aside0.mk (below_then hb0 hb0.size hb1)
  have he2 : (e0 == 0) = false := by simpa using he
  clear hb0 hb1 hcall
  go_wp2
  go_ret2
  exact ⟨rfl, HB.out⟩
theorem wrongE_zero {p : PolV} {g : List S34} (h : wrongE p g = 0) : polB p = true ∧ graphB g = true := by
  unfold wrongE at h
  split at h
  · rename_i h1
    split at h
    · rename_i h2; exact ⟨h1, h2⟩
    · cases h
  · cases h
theorem replicate_flat : ∀ n : Nat, (List.replicate n zeroW).flatten = List.replicate (n * 8) 0
  | 0 => rfl
  | n + 1 => by
    rw [List.replicate_succ, List.flatten_cons, replicate_flat n]
    unfold zeroW
    rw [List.replicate_append_replicate]
    congr 1; omega
theorem infoSets : (Tryd.prog.info? 67).map (fun i => (i.zero, i.size, i.bytes)) = some (some (.agg #[.int .u64 0, .int .u64 0, .int .u64 0, .int .u64 0, .int .u64 0, .int .u64 0, .int .u64 0, .int .u64 0]), 8, 64) := by kernel_rfl
theorem make_sets (n : Nat) (hn : n ≤ 2000) (W : World) : (Instr.makeSlice 62 (.int .i64 (n : Int)) (.int .i64 (n : Int))).run Tryd.prog W = .ok (.slice (some ⟨W.heap.size, 0, none⟩) n n) (W.alloc (.cells (setCells (List.replicate n zeroW).flatten) 67)) := by
  obtain ⟨i0, hi, hz0, hz1, hz2⟩ := info_parts infoSets
  have h := run_make (P := Tryd.prog) (w := W) 62 67 i0 _ Tryd.underlying62 hi hz0 .i64 .i64 (n : Int) (n : Int) (by omega) (by omega) (by rw [hz2]; omega) (by omega)
  rw [h, hz1]
  have e : madeCells (Value.agg #[.int .u64 0, .int .u64 0, .int .u64 0, .int .u64 0, .int .u64 0, .int .u64 0, .int .u64 0, .int .u64 0]).cells ((n : Int).toNat * 8) = setCells (List.replicate n zeroW).flatten := by
    rw [replicate_flat]
    apply Array.ext
    · simp [size_madeCells, setCells]
    · intro i h1 h2
      have hm : i % 8 < 8 := Nat.mod_lt _ (by omega)
      simp [madeCells, Value.cells, setCells, wordV]
      match i % 8, hm with
      | 0, _ => rfl
      | 1, _ => rfl
      | 2, _ => rfl
      | 3, _ => rfl
      | 4, _ => rfl
      | 5, _ => rfl
      | 6, _ => rfl
      | 7, _ => rfl
  rw [e]
  simp
set_option maxHeartbeats 4000000 in
set_option maxRecDepth 100000 in
theorem states_yes (p : PolV) (A0 : Option Addr) (c0 : Nat) (A1 : Option Addr) (c1 : Nat) (A3 : Option Addr) (c3 : Nat) (g : List S34) (A : Option Addr) (c : Nat) (w : World) (H : PolAt p A0 c0 A1 c1 A3 c3 w)
    (hr : Kd.C k34 w A g.length g) (hc : g.length ≤ c) (hfit : fitGB g = true) (he : wrongE p g = 0) :
    Calls Tryd.prog 17 #[polArg p A0 c0 A1 c1 A3 c3, .slice A g.length c] w fun e w' => ∃ v, e = .returned (.tuple #[v, .int .i64 0]) ∧ SetsAt w' w.heap.size g.length v (statesL p g) ∧ Below w.heap.size w w' := by
  have hb0 : Below w.heap.size w ((w.alloc (.cells #[.slice A0 p.lev.length c0, .slice A1 p.cats.length c1, .string p.mask, .slice A3 p.rules.length c3] 41)).alloc (.cells #[.slice A g.length c] 29)) := below_alloc (below_alloc (Below.refl _ _) _) _
  have hcall := wrong_any p A0 c0 A1 c1 A3 c3 g A c _ (H.below p A0 c0 A1 c1 A3 c3 hb0) (Kd.C_below hr hb0) hc (fitG_of hfit)
  rw [he] at hcall
  obtain ⟨hpb, hgb⟩ := wrongE_zero he
  have hgl := graph_len hgb
  have HPB := Aside0.mk hpb
  have HGB := Aside0.mk hgb
  have cT : Aside0 (∀ W, Below w.heap.size w W → _) := ⟨fun W h => table_calls p A0 c0 A1 c1 A3 c3 W (H.below p A0 c0 A1 c1 A3 c3 h) hpb⟩
  have HR := Aside0.mk hr
  have HC := Aside0.mk hc
  have HF := Aside0.mk hfit
  have HTT := Aside0.mk H.hT
  unfold polArg at hcall cT ⊢
  have hu41 := Tryd.underlying41
  have hu38 := Tryd.underlying38
  have hu80 := Tryd.underlying80
  have hmk := fun W => make_sets g.length hgl.2 W
  have HGL := Aside0.mk hgl
  have hgi : (g.length : Int) ≤ 2000 := by omega
  have hg1 : (1 : Int) ≤ (g.length : Int) := by omega
  clear H hr hc hfit he hpb hgb hgl
  go_enter Tryd.func17, Tryd.ntmps17
  go_wp2_with fail
  have hkp0 : ((w.alloc (.cells #[.slice A0 p.lev.length c0, .slice A1 p.cats.length c1, .string p.mask, .slice A3 p.rules.length c3] 41)).alloc (.cells #[.slice A g.length c] 29)).heap[w.heap.size]? = some (.cells #[.slice A0 p.lev.length c0, .slice A1 p.cats.length c1, .string p.mask, .slice A3 p.rules.length c3] 41 (0, 0)) := heap_alloc2_old _ _ _
  have hkg0 : ((w.alloc (.cells #[.slice A0 p.lev.length c0, .slice A1 p.cats.length c1, .string p.mask, .slice A3 p.rules.length c3] 41)).alloc (.cells #[.slice A g.length c] 29)).heap[w.heap.size + 1]? = some (.cells #[.slice A g.length c] 29 (0, 0)) := heap_alloc2_new _ _ _
  refine hcall.mono ?_
  rintro e w1 ⟨rfl, hb1⟩
  have HB1 := Aside0.mk (below_then hb0 hb0.size hb1)
  have HP1 := Aside0.mk (blk_below5 hb1 hkp0)
  have HG1 := Aside0.mk (blk_below5 hb1 hkg0)
  have p0 : w1.cell? ⟨w.heap.size, 0, none⟩ = some (.slice A0 p.lev.length c0) := (blk_cell HP1.out 0).trans rfl
  have p1 : w1.cell? ⟨w.heap.size, 1, none⟩ = some (.slice A1 p.cats.length c1) := (blk_cell HP1.out 1).trans rfl
  have p2 : w1.cell? ⟨w.heap.size, 2, none⟩ = some (.string p.mask) := (blk_cell HP1.out 2).trans rfl
  have p3 : w1.cell? ⟨w.heap.size, 3, none⟩ = some (.slice A3 p.rules.length c3) := (blk_cell HP1.out 3).trans rfl
  clear hb0 hb1 hcall hkp0 hkg0
  go_wp2_with fail
  refine (cT.out w1 HB1.out).mono ?_
  rintro e w2 ⟨A4, c4, A5, c5, v6, rfl, hTab, hOf, hb2⟩
  have HB2 := Aside0.mk (below_then HB1.out HB1.out.size hb2)
  have HG2 := Aside0.mk (blk_below5 hb2 HG1.out)
  have HTab := Aside0.mk hTab
  have g0 : w2.cell? ⟨w.heap.size + 1, 0, none⟩ = some (.slice A g.length c) := (blk_cell HG2.out 0).trans rfl
  have hz2 : w.heap.size + 1 < w2.heap.size := (Array.getElem?_eq_some_iff.1 HG2.out).1
  clear hb2 hTab hOf cT p0 p1 p2 p3
  go_wp2_with fail
  obtain ⟨Wa, hWa⟩ : ∃ Wa, w2.alloc (.cells #[.slice A4 (polPs p).length c4, .slice A5 (polBs p).length c5, .int .i64 (manyFrom (polPs p) 0)] 80) = Wa := ⟨_, rfl⟩
  obtain ⟨Wb, hWb⟩ : ∃ Wb, Wa.alloc (.cells (setCells (List.replicate g.length zeroW).flatten) 67) = Wb := ⟨_, rfl⟩
  obtain ⟨W1, hW1⟩ : ∃ W1, Wb.alloc (.cells #[.slice (some ⟨w2.heap.size + 1, 0, none⟩) g.length g.length] 62) = W1 := ⟨_, rfl⟩
  have s1 : Wa.heap.size = w2.heap.size + 1 := by rw [← hWa]; simp
  have s2 : Wb.heap.size = w2.heap.size + 1 + 1 := by rw [← hWb]; simp [s1]
  have s3 : W1.heap.size = w2.heap.size + 3 := by rw [← hW1]; simp [s2]
  have HBt : Aside0 (W1.heap[w2.heap.size]? = some (tabBox (polPs p) (polBs p) A4 c4 A5 c5 (manyFrom (polPs p) 0))) := ⟨by rw [← hW1, ← hWb, ← hWa]; exact blk_alloc (blk_alloc (heap_alloc_new _ _) _) _⟩
  have HM : Aside0 (W1.heap[w2.heap.size + 1]? = some (.cells (setCells (List.replicate g.length zeroW).flatten) 67 (0, 0))) := ⟨by rw [← s1, ← hW1, ← hWb]; exact blk_alloc (heap_alloc_new _ _) _⟩
  have HBo : Aside0 (W1.heap[w2.heap.size + 1 + 1]? = some (.cells #[.slice (some ⟨w2.heap.size + 1, 0, none⟩) g.length g.length] 62 (0, 0))) := ⟨by rw [← s2, ← hW1]; exact heap_alloc_new _ _⟩
  have HB21 : Aside0 (Below w2.heap.size w2 W1) := ⟨by rw [← hW1, ← hWb, ← hWa]; exact below_alloc (below_alloc (below_alloc (Below.refl _ _) _) _) _⟩
  rw [hWa, hWb, hW1]
  clear hWa hWb hW1 s1 s2
  have HG3 := Aside0.mk (blk_below5 HB21.out HG2.out)
  have HZ : Aside0 (∀ j, j < 8 → (setCells (List.replicate g.length zeroW).flatten)[j]? = some (.int .u64 0)) := ⟨fun j hj => by
    have := setCells_get (ws := (List.replicate g.length zeroW).flatten) (i := j) (by rw [replicate_flat, List.length_replicate]; have := HGL.out; omega)
    rw [this, replicate_flat, getD_lt _ _ (by rw [List.length_replicate]; have := HGL.out; omega), List.getElem_replicate]; rfl⟩
  have ho : W1.cell? ⟨w2.heap.size + 1 + 1, 0, none⟩ = some (.slice (some ⟨w2.heap.size + 1, 0, none⟩) g.length g.length) := (blk_cell HBo.out 0).trans rfl
  have ht0 : W1.cell? ⟨w2.heap.size, 0, none⟩ = some (.slice A4 (polPs p).length c4) := (blk_cell HBt.out 0).trans rfl
  have ht1 : W1.cell? ⟨w2.heap.size, 1, none⟩ = some (.slice A5 (polBs p).length c5) := (blk_cell HBt.out 1).trans rfl
  have ht2 : W1.cell? ⟨w2.heap.size, 2, none⟩ = some (.int .i64 (manyFrom (polPs p) 0)) := (blk_cell HBt.out 2).trans rfl
  have hrule : ∀ w', W1.grownBy w' (some (w2.heap.size + 1)) → ∀ b o, b < W1.heap.size → b ≠ w2.heap.size + 1 → w'.cell? ⟨b, o, none⟩ = W1.cell? ⟨b, o, none⟩ := fun w' h b o hb hne => World.cell?_of_block (h.block b hb (fun e => hne (by injection e)))
  have m1 : w2.heap.size + 1 + 1 < W1.heap.size := by omega
  have m2 : w2.heap.size < W1.heap.size := by omega
  have m3 : w2.heap.size + 1 + 1 ≠ w2.heap.size + 1 := by omega
  have m4 : w2.heap.size ≠ w2.heap.size + 1 := by omega
  have HW2 : Aside0 (∀ w', W1.grownBy w' (some (w2.heap.size + 1)) → Below w2.heap.size w2 w') := ⟨fun w' h => HB21.out.grown h HB21.out.size (fun k e => by cases e; omega)⟩
  have oks : OkW (nfaStart (polPl p) (polBs p)) := closeL_ok _ (startL_ok _)
  obtain ⟨u0, u1, u2, u3, u4, u5, u6, u7, eu⟩ := cells8 oks
  have cS : ∀ W', Below w2.heap.size w2 W' → _ := fun W' h => start_any (polPs p) (polBs p) A4 c4 A5 c5 (manyFrom (polPs p) 0) W' (HTab.out.below h)
  rw [show nfaStart (allParts (polPs p) (polBs p)) (polBs p) = nfaStart (polPl p) (polBs p) from rfl, eu] at cS
  simp only [setV, setCells, wordV, tabArg, List.map_cons, List.map_nil] at cS
  have CS := Aside0.mk cS
  have EU := Aside0.mk eu
  have S3 := Aside0.mk s3
  clear cS eu s3 g0 hz2 hmk hu41 hu38 hg1 hgi
  have hgz : (0 : Int) < (g.length : Int) := by have := HGL.out; omega
  have hgz2 : 0 < g.length := by omega
  go_region_held3 (fun w' => W1.grownBy w' (some (w2.heap.size + 1)))
    (first | (with_reducible exact grown_of_below (below_drew (Below.refl _ _)) _) | (with_reducible exact HG5.out) | (with_reducible exact World.grownBy.trans (World.grownBy.trans (World.grownBy.trans (World.grownBy.trans (World.grownBy.trans (World.grownBy.trans (World.grownBy.trans (World.grownBy.trans HG5.out (grown_cell _ _ _ _)) (grown_cell _ _ _ _)) (grown_cell _ _ _ _)) (grown_cell _ _ _ _)) (grown_cell _ _ _ _)) (grown_cell _ _ _ _)) (grown_cell _ _ _ _)) (grown_cell _ _ _ _)) | (with_reducible assumption))
    (first
      | (go_at_call 42; refine (CS.out _ (HW2.out _ (by with_reducible assumption))).mono ?_; rintro e w5 ⟨rfl, hb5⟩; have HG5 : Aside0 (W1.grownBy w5 (some (w2.heap.size + 1))) := ⟨World.grownBy.trans (grown_of_below (below_drew (Below.refl _ _)) _) (grown_of_below hb5 _)⟩; have yb : Aside0 (w5.heap[w2.heap.size + 1]? = some (.cells (setCells (List.replicate g.length zeroW).flatten) 67 (0, 0))) := ⟨blk_below5 hb5 HM.out⟩; have yc0 : w5.cell? ⟨w2.heap.size + 1, 0, none⟩ = some (.int .u64 0) := (blk_cell yb.out 0).trans (HZ.out 0 (by omega)); have yc1 : w5.cell? ⟨w2.heap.size + 1, 1, none⟩ = some (.int .u64 0) := (blk_cell yb.out 1).trans (HZ.out 1 (by omega)); have yc2 : w5.cell? ⟨w2.heap.size + 1, 2, none⟩ = some (.int .u64 0) := (blk_cell yb.out 2).trans (HZ.out 2 (by omega)); have yc3 : w5.cell? ⟨w2.heap.size + 1, 3, none⟩ = some (.int .u64 0) := (blk_cell yb.out 3).trans (HZ.out 3 (by omega)); have yc4 : w5.cell? ⟨w2.heap.size + 1, 4, none⟩ = some (.int .u64 0) := (blk_cell yb.out 4).trans (HZ.out 4 (by omega)); have yc5 : w5.cell? ⟨w2.heap.size + 1, 5, none⟩ = some (.int .u64 0) := (blk_cell yb.out 5).trans (HZ.out 5 (by omega)); have yc6 : w5.cell? ⟨w2.heap.size + 1, 6, none⟩ = some (.int .u64 0) := (blk_cell yb.out 6).trans (HZ.out 6 (by omega)); have yc7 : w5.cell? ⟨w2.heap.size + 1, 7, none⟩ = some (.int .u64 0) := (blk_cell yb.out 7).trans (HZ.out 7 (by omega)); have yf : ∀ o, w5.frozen? ⟨w2.heap.size + 1, o, none⟩ = false := fun o => blk_frozen yb.out o; have HBL5 := Aside0.mk hb5; clear hb5))
  have hF0 : (((((((((w5.setCell ⟨w2.heap.size + 1, 0, none⟩ (.int .u64 (u0 : Int))).setCell ⟨w2.heap.size + 1, 1, none⟩ (.int .u64 (u1 : Int))).setCell ⟨w2.heap.size + 1, 2, none⟩ (.int .u64 (u2 : Int))).setCell ⟨w2.heap.size + 1, 3, none⟩ (.int .u64 (u3 : Int))).setCell ⟨w2.heap.size + 1, 4, none⟩ (.int .u64 (u4 : Int))).setCell ⟨w2.heap.size + 1, 5, none⟩ (.int .u64 (u5 : Int))).setCell ⟨w2.heap.size + 1, 6, none⟩ (.int .u64 (u6 : Int))).setCell ⟨w2.heap.size + 1, 7, none⟩ (.int .u64 (u7 : Int)))).heap[w2.heap.size + 1]? = some (.cells (setCells (states0 p g).flatten) 67 (0, 0)) := by
    rw [blk_set (blk_set (blk_set (blk_set (blk_set (blk_set (blk_set (blk_set yb.out _ _) _ _) _ _) _ _) _ _) _ _) _ _) _ _]
    have h := flat_set8 (S := List.replicate g.length zeroW) (n := g.length) ⟨by simp, fun x hx => by rw [(List.mem_replicate.1 hx).2]; exact zeroW_ok⟩ (k := 0) hgz2 u0 u1 u2 u3 u4 u5 u6 u7
    rw [← EU.out] at h
    unfold states0
    rw [← h]
    rfl
  have hG0 := World.grownBy.trans (World.grownBy.trans (World.grownBy.trans (World.grownBy.trans (World.grownBy.trans (World.grownBy.trans (World.grownBy.trans (World.grownBy.trans HG5.out (grown_cell w5 (w2.heap.size + 1) 0 (.int .u64 (u0 : Int)))) (grown_cell _ (w2.heap.size + 1) 1 (.int .u64 (u1 : Int)))) (grown_cell _ (w2.heap.size + 1) 2 (.int .u64 (u2 : Int)))) (grown_cell _ (w2.heap.size + 1) 3 (.int .u64 (u3 : Int)))) (grown_cell _ (w2.heap.size + 1) 4 (.int .u64 (u4 : Int)))) (grown_cell _ (w2.heap.size + 1) 5 (.int .u64 (u5 : Int)))) (grown_cell _ (w2.heap.size + 1) 6 (.int .u64 (u6 : Int)))) (grown_cell _ (w2.heap.size + 1) 7 (.int .u64 (u7 : Int)))
  generalize ((((((((w5.setCell ⟨w2.heap.size + 1, 0, none⟩ (.int .u64 (u0 : Int))).setCell ⟨w2.heap.size + 1, 1, none⟩ (.int .u64 (u1 : Int))).setCell ⟨w2.heap.size + 1, 2, none⟩ (.int .u64 (u2 : Int))).setCell ⟨w2.heap.size + 1, 3, none⟩ (.int .u64 (u3 : Int))).setCell ⟨w2.heap.size + 1, 4, none⟩ (.int .u64 (u4 : Int))).setCell ⟨w2.heap.size + 1, 5, none⟩ (.int .u64 (u5 : Int))).setCell ⟨w2.heap.size + 1, 6, none⟩ (.int .u64 (u6 : Int))).setCell ⟨w2.heap.size + 1, 7, none⟩ (.int .u64 (u7 : Int))) = wF at *
  have HFM := Aside0.mk hF0
  have HGF := Aside0.mk hG0
  have HFB := Aside0.mk (HW2.out wF hG0)
  have HFo := Aside0.mk (blk_grown HBo.out hG0 (fun e => by injection e with e; omega))
  have HFt := Aside0.mk (blk_grown HBt.out hG0 (fun e => by injection e with e; omega))
  have HFg := Aside0.mk (blk_grown HG3.out hG0 (fun e => by injection e with e; have := (Array.getElem?_eq_some_iff.1 HG2.out).1; omega))
  have fg0 : wF.cell? ⟨w.heap.size + 1, 0, none⟩ = some (.slice A g.length c) := (blk_cell HFg.out 0).trans rfl
  have lz : w.heap.size + 1 < w2.heap.size := (Array.getElem?_eq_some_iff.1 HG2.out).1
  have lF : w2.heap.size + 3 ≤ wF.heap.size := by have := hG0.size; have := S3.out; omega
  have X : StFix g A c (polPs p) (polBs p) A4 c4 A5 c5 (w.heap.size + 1) (w2.heap.size + 1 + 1) w2.heap.size (w2.heap.size + 1) w2 :=
    ⟨HTT.out.below HB2.out, Kd.C_below HR.out HB2.out, HC.out, fitG_of HF.out, HTab.out, HGL.out.2, graph_kids HGB.out, by omega, by omega, by omega, by omega⟩
  have hs0 : Sets g.length (states0 p g) := by
    unfold states0
    exact Sets.set ⟨by simp, fun x hx => by rw [(List.mem_replicate.1 hx).2]; exact zeroW_ok⟩ _ oks
  have hT0 := states_tell g A c (polPs p) (polBs p) A4 c4 A5 c5 (manyFrom (polPs p) 0) (w.heap.size + 1) (w2.heap.size + 1 + 1) w2.heap.size (w2.heap.size + 1) w2 X HGB.out wF HFB.out.size (by omega) (by omega) (by omega) (by omega)
  have hcall := spread_any (stateTell g (allParts (polPs p) (polBs p))) zsum _ g 43 #[.pointer (some ⟨w.heap.size + 1, 0, none⟩), .pointer (some ⟨w2.heap.size + 1 + 1, 0, none⟩), .pointer (some ⟨w2.heap.size, 0, none⟩)] (w2.heap.size + 1) wF (enters_of Tryd.func43 (by kernel_rfl) rfl) hT0 (by omega) A c ((HTT.out.below HB2.out).below HFB.out) w2 (Kd.C_below HR.out HB2.out) HFB.out (by omega) HC.out HF.out HGB.out (states0 p g)
    ⟨hs0, HFB.out, HFg.out, HFo.out, HFt.out, HFM.out⟩ (by have h1 := order_len HGB.out; have h2 := zsum_top hs0; have h3 := HGL.out.2; have : g.length * 512 ≤ 2000 * 512 := Nat.mul_le_mul_right _ h3; omega)
  have HCL := Aside0.mk hcall
  clear hcall hT0 X hs0 hF0 hG0 yb yc0 yc1 yc2 yc3 yc4 yc5 yc6 yc7 yf ho ht0 ht1 ht2 hrule m1 m2 m3 m4
  have LZ := Aside0.mk lz
  have LF := Aside0.mk lF
  clear lz lF
  go_wp2_with (go_at_call 38; refine HCL.out.mono ?_; rintro e w9 ⟨rfl, h9, hg9⟩; have H9 := Aside0.mk h9; have HG9 := Aside0.mk hg9; have c9 : w9.cell? ⟨w2.heap.size + 1 + 1, 0, none⟩ = some (.slice (some ⟨w2.heap.size + 1, 0, none⟩) g.length g.length) := (blk_cell h9.bo 0).trans rfl; clear h9 hg9)
  go_ret2
  refine ⟨_, rfl, ⟨w2.heap.size + 1, rfl, by have := LZ.out; omega, H9.out.sets, H9.out.bm⟩, ?_⟩
  exact HB2.out.trans (H9.out.bel.mono HB2.out.size)
end Go.Proofs.YtpbkdeelkpjccaaDoor.G
