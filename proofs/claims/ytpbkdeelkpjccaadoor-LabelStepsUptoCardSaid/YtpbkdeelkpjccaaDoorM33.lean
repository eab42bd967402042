/- Merged by merge.py out of: Plsteps, Hlsteps, Hopen. -/
import Derived.Test.YtpbkdeelkpjccaaDoorM11
import Derived.Test.YtpbkdeelkpjccaaDoorM30
import Derived.Test.YtpbkdeelkpjccaaDoorM31
import Derived.Test.YtpbkdeelkpjccaaDoorM32
import Derived.Deep.Slices
import Derived.ChangeArms
import Derived.DataReads
namespace Go.Proofs.YtpbkdeelkpjccaaDoor.G
open Go.RowKit Go.Proofs.YtpbkdeelkpjccaaDoorW.PrintWords
set_option linter.unusedVariables false
set_option linter.unusedSimpArgs false
def heavyP (x : S24) : Bool := decide ((x.f3.length : Int) > 200) || (decide ((x.f2.size : Int) > 2000) || decide ((x.f1.size : Int) > 2000))
def heavyB (l : List S24) : Bool := l.any heavyP || decide ((l.length : Int) > 120)
theorem rd24_get (l : List S24) {i : Nat} (h : i < l.length) : rd_T24 l (i : Int) = l[i] := by unfold rd_T24; rw [Int.toNat_natCast, getD_lt _ _ h]
theorem heavy_l0 (l : List S24) (hl : l.length ≤ 140737488355328) (d : Nat) : ∀ (k i : Nat), l.length - i ≤ d → d < k → i ≤ l.length →
    grillelaw08_Heavy.l0 k l l (l.length : Int) (i : Int) = some ((l.drop i).any heavyP || decide ((l.length : Int) > 120)) := by
  induction d with
  | zero =>
    intro k i h1 h2 h3
    obtain ⟨k, rfl⟩ : ∃ m, k = m + 1 := ⟨k - 1, by omega⟩
    obtain rfl : i = l.length := by omega
    unfold grillelaw08_Heavy.l0
    rw [if_neg (by omega), List.drop_length]; rfl
  | succ d ih =>
    intro k i h1 h2 h3
    obtain ⟨k, rfl⟩ : ∃ m, k = m + 1 := ⟨k - 1, by omega⟩
    unfold grillelaw08_Heavy.l0
    by_cases hi : i < l.length
    · rw [if_pos (by omega), if_pos (by omega), if_pos (by omega), rd24_get l hi, List.drop_eq_getElem_cons hi, List.any_cons]
      have hw : wrap64 ((i : Int) + 1) = ((i + 1 : Nat) : Int) := by rw [IntWalk.wrap64_in _ (by omega)]; omega
      rw [hw, ih k (i + 1) (by omega) (by omega) (by omega)]
      generalize l[i] = x
      unfold heavyP
      by_cases h1 : (x.f3.length : Int) > 200
      · rw [if_pos h1, decide_eq_true h1]; rfl
      · rw [if_neg h1, decide_eq_false h1]
        by_cases h2 : (x.f2.size : Int) > 2000
        · rw [if_pos h2, decide_eq_true h2]; rfl
        · rw [if_neg h2, decide_eq_false h2]
          by_cases h3 : (x.f1.size : Int) > 2000
          · rw [if_pos h3, decide_eq_true h3]; rfl
          · rw [if_neg h3, decide_eq_false h3]; rfl
    · rw [if_neg (by omega), List.drop_eq_nil_iff.2 (by omega)]; rfl
theorem heavy_f (l : List S24) (hl : l.length ≤ 140737488355328) : grillelaw08_Heavy.f (l.length + 1) l = some (heavyB l) := by
  have := heavy_l0 l hl l.length (l.length + 1) 0 (by omega) (by omega) (by omega)
  unfold grillelaw08_Heavy.f heavyB
  simpa using this
def conv (x : S24) : S34 := ⟨x.f0, x.f1, x.f2, x.f3⟩
theorem theirs_l0 (l : List S24) (hl : l.length ≤ 1000000) (hk : ∀ x ∈ l, x.f3.length ≤ 17592186044416) (d : Nat) : ∀ (k i : Nat) (acc : List S34), l.length - i ≤ d → d < k → i ≤ l.length → acc.length = i →
    grillelaw08_Theirs.l0 k acc l (l.length : Int) (i : Int) = some (acc ++ (l.drop i).map conv) := by
  induction d with
  | zero =>
    intro k i acc h1 h2 h3 ha
    obtain ⟨k, rfl⟩ : ∃ m, k = m + 1 := ⟨k - 1, by omega⟩
    obtain rfl : i = l.length := by omega
    unfold grillelaw08_Theirs.l0
    rw [if_neg (by omega), List.drop_length]; simp
  | succ d ih =>
    intro k i acc h1 h2 h3 ha
    obtain ⟨k, rfl⟩ : ∃ m, k = m + 1 := ⟨k - 1, by omega⟩
    unfold grillelaw08_Theirs.l0
    by_cases hi : i < l.length
    · rw [if_pos (by omega), if_pos (by omega), if_pos (by omega), rd24_get l hi, List.drop_eq_getElem_cons hi, List.map_cons]
      have hw : wrap64 ((i : Int) + 1) = ((i + 1 : Nat) : Int) := by rw [IntWalk.wrap64_in _ (by omega)]; omega
      have hc : slices_Clone_int_int.f l[i].f3 = some l[i].f3 := by unfold slices_Clone_int_int.f; rw [if_pos (hk _ (List.getElem_mem _))]
      rw [hc]
      simp only [Option.bind_some]
      rw [if_pos (by omega), hw, ih k (i + 1) _ (by omega) (by omega) (by omega) (by simp; omega)]
      simp [conv]
    · rw [if_neg (by omega), List.drop_eq_nil_iff.2 (by omega)]; simp
theorem theirs_f (l : List S24) (hl : l.length ≤ 1000000) (hk : ∀ x ∈ l, x.f3.length ≤ 17592186044416) : grillelaw08_Theirs.f (l.length + 1) l = some (l.map conv) := by
  have := theirs_l0 l hl hk l.length (l.length + 1) 0 [] (by omega) (by omega) (by omega) rfl
  unfold grillelaw08_Theirs.f
  simpa using this
theorem conv_get (g : List S24) (i : Int) : ((g.map conv).getD i.toNat z34).f2 = (rd_T24 g i).f2 := by
  unfold rd_T24
  rw [List.getD_eq_getElem?_getD, List.getD_eq_getElem?_getD, List.getElem?_map]
  cases g[i.toNat]? <;> rfl
theorem ref_l0 (kind : Int) (t0 t1 : ByteArray) (kids : List Int) (g : List S24) (hk : kids.length ≤ 1000000) (h0 : kind ≠ 0) (d : Nat) : ∀ (k i : Nat) (acc : List ByteArray), kids.length - i ≤ d → 2 * d + 2 ≤ k → i ≤ kids.length → acc.length = i →
    grilleref16_Steps.l0 k g acc (i : Int) kind t0 t1 kids = some (acc ++ ((List.range kids.length).drop i).map (stepAt kind kids (g.map conv))) := by
  induction d with
  | zero =>
    intro k i acc h1 h2 h3 ha
    obtain ⟨k, rfl⟩ : ∃ m, k = m + 2 := ⟨k - 2, by omega⟩
    obtain rfl : i = kids.length := by omega
    unfold grilleref16_Steps.l0
    rw [if_neg (by omega)]
    unfold grilleref16_Steps.j1
    rw [if_neg (by decide), List.drop_eq_nil_iff.2 (by simp)]; simp
  | succ d ih =>
    intro k i acc h1 h2 h3 ha
    obtain ⟨k, rfl⟩ : ∃ m, k = m + 2 := ⟨k - 2, by omega⟩
    by_cases hi : i < kids.length
    · have hw : wrap64 ((i : Int) + 1) = ((i + 1 : Nat) : Int) := by rw [IntWalk.wrap64_in _ (by omega)]; omega
      have hne : (kind != 0) = true := by simpa using h0
      have hd : (List.range kids.length).drop i = i :: (List.range kids.length).drop (i + 1) := by rw [List.drop_eq_getElem_cons (by simpa using hi)]; simp
      have key : ∀ s, s = stepAt kind kids (g.map conv) i → (if acc.length < 8796093022208 then grilleref16_Steps.l0 k g (acc ++ [s]) (wrap64 ((i : Int) + 1)) kind t0 t1 kids else none) = some (acc ++ ((List.range kids.length).drop i).map (stepAt kind kids (g.map conv))) := by
        intro s hs
        rw [if_pos (by omega), hw, ih k (i + 1) _ (by omega) (by omega) (by omega) (by simp; omega), hd, hs]
        simp
      unfold grilleref16_Steps.l0
      rw [if_pos (by omega)]
      unfold grilleref16_Steps.j1
      rw [if_pos hne]
      by_cases k1 : kind = 1
      · have hit : strconv_Itoa.f (i : Int) = some ⟨(Lib.itoa (i : Int)).toArray⟩ := by unfold strconv_Itoa.f; rw [if_pos (by omega)]
        rw [if_pos k1, hit]
        simp only [Option.bind_some]
        rw [if_neg (by omega)]
        exact key _ (by unfold stepAt; rw [if_pos k1])
      · rw [if_neg k1]
        by_cases k2 : kind = 2
        · rw [if_pos k2]
          have htm : Int.tmod (i : Int) 2 = ((i % 2 : Nat) : Int) := by rw [Int.tmod_eq_emod_of_nonneg (by omega)]; omega
          by_cases ho : i % 2 = 1
          · have hw1 : wrap64 ((i : Int) - 1) = ((i - 1 : Nat) : Int) := by rw [IntWalk.wrap64_in _ (by omega)]; omega
            have hrd : rd kids (((i - 1 : Nat) : Int)) = kids.getD (i - 1) 0 := rfl
            rw [if_pos (by rw [htm, ho]; rfl), hw1, if_pos (by omega), if_pos (by omega), hrd]
            by_cases h4 : kids.getD (i - 1) 0 ≥ 0
            · rw [if_pos h4]
              by_cases h5 : kids.getD (i - 1) 0 < (g.length : Int)
              · rw [if_pos h5, if_pos h4]
                refine key _ ?_
                unfold stepAt
                rw [if_neg k1, if_pos ⟨k2, ho⟩, if_pos ⟨h4, by simpa using h5⟩, conv_get]
              · rw [if_neg h5]
                refine key _ ?_
                unfold stepAt
                rw [if_neg k1, if_pos ⟨k2, ho⟩, if_neg (fun h => h5 (by simpa using h.2))]
            · rw [if_neg h4]
              refine key _ ?_
              unfold stepAt
              rw [if_neg k1, if_pos ⟨k2, ho⟩, if_neg (fun h => h4 h.1)]
          · rw [if_neg (by rw [htm]; omega)]
            refine key _ ?_
            unfold stepAt
            rw [if_neg k1, if_neg (fun h => ho h.2)]
        · rw [if_neg k2]
          refine key _ ?_
          unfold stepAt
          rw [if_neg k1, if_neg (fun h => k2 h.1)]
    · obtain rfl : i = kids.length := by omega
      unfold grilleref16_Steps.l0
      rw [if_neg (by omega)]
      unfold grilleref16_Steps.j1
      rw [if_neg (by decide), List.drop_eq_nil_iff.2 (by simp)]; simp
theorem ref_f (kind : Int) (t0 t1 : ByteArray) (kids : List Int) (g : List S24) (hk : kids.length ≤ 1000000) : grilleref16_Steps.f (2 * kids.length + 2) kind t0 t1 kids g = some (stepsL kind kids (g.map conv)) := by
  unfold grilleref16_Steps.f stepsL
  by_cases h : kind = 0
  · subst h
    rw [if_pos rfl]
    unfold grilleref16_Steps.l0
    have : ∀ b : Bool, b = false → grilleref16_Steps.j1 (2 * kids.length + 1) g [] 0 b 0 t0 t1 kids = some [] := fun b hb => by
      unfold grilleref16_Steps.j1; rw [if_neg (by simp [hb])]
    split
    · exact this _ rfl
    · exact this _ rfl
  · rw [if_neg h]
    have := ref_l0 kind t0 t1 kids g hk h kids.length (2 * kids.length + 2) 0 [] (by omega) (by omega) (by omega) rfl
    simpa using this
theorem equal_l0 (l : List ByteArray) (hl : l.length ≤ 140737488355328) (d : Nat) : ∀ (k i : Nat), l.length - i ≤ d → d < k → i ≤ l.length → slices_Equal_string_string.l0 k l l (l.length : Int) (i : Int) = some true := by
  induction d with
  | zero =>
    intro k i h1 h2 h3
    obtain ⟨k, rfl⟩ : ∃ m, k = m + 1 := ⟨k - 1, by omega⟩
    unfold slices_Equal_string_string.l0
    rw [if_neg (by omega)]
  | succ d ih =>
    intro k i h1 h2 h3
    obtain ⟨k, rfl⟩ : ∃ m, k = m + 1 := ⟨k - 1, by omega⟩
    unfold slices_Equal_string_string.l0
    by_cases hi : i < l.length
    · have hw : wrap64 ((i : Int) + 1) = ((i + 1 : Nat) : Int) := by rw [IntWalk.wrap64_in _ (by omega)]; omega
      rw [if_pos (by omega), if_pos (by omega), if_pos (by omega), if_pos (by omega), if_pos rfl, hw]
      exact ih k (i + 1) (by omega) (by omega) (by omega)
    · rw [if_neg (by omega)]
theorem equal_f (l : List ByteArray) (hl : l.length ≤ 140737488355328) : slices_Equal_string_string.f (l.length + 1) l l = some true := by
  unfold slices_Equal_string_string.f
  rw [if_pos rfl]
  exact equal_l0 l hl l.length (l.length + 1) 0 (by omega) (by omega) (by omega)
end Go.Proofs.YtpbkdeelkpjccaaDoor.G

namespace Go.Proofs.YtpbkdeelkpjccaaDoor.G
open Go.RowKit Go.Proofs.YtpbkdeelkpjccaaDoorW.PrintWords
set_option linter.unusedVariables false
set_option linter.unusedSimpArgs false
theorem N_one {α : Type} {d : Kd α} {e : Nat} {W : World} {B base : Nat} {ok : Nat → Prop} {x : α} {c : List Value} (hB : W.heap[B]? = some (.cells c.toArray e (0, 0))) (hb : base ≤ B) (hok : ok B) (hf : Kd.FK d W (fun k => ok k ∧ k ≠ B) x c) :
    Kd.N d e W base ok (.slice (some ⟨B, 0, none⟩) 1 1) [x] := by
  obtain ⟨h1, h2, h3⟩ := Kd.FK_raw hf
  refine ⟨fun k hk => by simp only [Value.ownBlock, Option.some.injEq] at hk; rw [← hk]; exact hok, [c], rfl, ⟨fun k hk => hk.symm, c, ⟨by simpa [Kd.raw] using h2, .inr ⟨B, 1, c.toArray, rfl, hb, hB, Nat.le_refl _, by decide, by simpa [Kd.raw] using h2, ?_⟩⟩, ?_, ?_⟩, ?_⟩
  · simp only [List.toList_toArray]
    exact List.take_of_length_le (by simp [Kd.raw, h2])
  · simpa [Kd.raw] using h2
  · intro j p hj
    match j, hj with
    | 0, hj =>
      simp only [List.getElem?_cons_zero, Option.some.injEq] at hj
      subst hj
      rw [Nat.zero_mul, List.drop_zero]
      have : c.take (Kd.raw d.sz).sz = c := List.take_of_length_le (by simp [Kd.raw, h2])
      rw [this]
      exact ⟨rfl, h2, h3⟩
    | j + 1, hj => simp at hj
  · intro j y c' hy hc
    match j, hy, hc with
    | 0, hy, hc =>
      simp only [List.getElem?_cons_zero, Option.some.injEq] at hy hc
      subst hy hc
      exact Kd.FK_mono hf (fun k hk => ⟨hk.1, fun e => hk.2 (by simp only [Value.ownBlock, Option.some.injEq] at e; exact e)⟩)
    | j + 1, hy, hc => simp at hy
theorem info24x : (Tryd.prog.info? 24).map (fun i => (i.zero, i.size, i.bytes)) = some (some (.agg #[.int .i64 0, .string ⟨#[]⟩, .string ⟨#[]⟩, .slice none 0 0]), k24.sz, 64) := by kernel_rfl
theorem cut_nodes (ad : Addr) (n c : Nat) : ∃ A' : Option Addr, (∀ W : World, (Instr.slice 29 (.slice (some ad) (n + 1) c) (some (.int .i64 1)) none none).run Tryd.prog W = .ok (.slice A' n (c - 1)) W) ∧
    ∀ (w : World) (x : S34) (xs : List S34), xs.length = n → n + 1 ≤ c → Kd.C k34 w (some ad) (n + 1) (x :: xs) → Kd.C k34 w A' n xs := by
  obtain ⟨i0, hi, hz0, hz1, hz2⟩ := info_parts info34
  have ht := Tryd.underlying29
  refine ⟨if c = 1 then some ad else (some ad).map (·.add (1 * k34.sz)), fun W => ?_, fun w x xs hl hc h => ?_⟩
  · have hel : Tryd.prog.elem 29 = 34 := by simp [Program.elem, ht]
    have hu : Tryd.prog.underlying 29 = some (.slice (Tryd.prog.elem 29)) := by rw [hel]; exact ht
    have h := run_slice_l W 29 (some ad) (n + 1) c hu .i64 1 (by omega) (by omega)
    rw [h, hel]
    simp [sizeOf, typeInfo, hi, hz1, sliced, Result.andThen, show k34.sz = 4 from rfl]
  · subst hl
    exact Kd.C_drop (m := 1) (xs := x :: xs) h (by simp) hc
set_option maxHeartbeats 4000000 in
set_option maxRecDepth 100000 in
theorem lsteps_any (n : S24) (A3 : Option Addr) (c3 : Nat) (A : Option Addr) (c : Nat) (g : List S24) (w : World) (hT : Tabs w) (h3 : Kd.C (Kd.int .i64) w A3 n.f3.length n.f3) (l3 : n.f3.length ≤ c3)
    (hg : Kd.C k24 w A g.length g) (lg : g.length ≤ c) (hn : g.length ≤ 1048576) :
    Calls Tryd.prog 3 #[.agg #[.int .i64 n.f0, .string n.f1, .string n.f2, .slice A3 n.f3.length c3], .slice A g.length c] w fun e w' => e = .returned (.bool true) ∧ Below w.heap.size w w' := by
  have hb0 : Below w.heap.size w (w.alloc (.cells #[.int .i64 n.f0, .string n.f1, .string n.f2, .slice A3 n.f3.length c3] 24)) := below_alloc (Below.refl _ _) _
  have hk0 : (w.alloc (.cells #[.int .i64 n.f0, .string n.f1, .string n.f2, .slice A3 n.f3.length c3] 24)).heap[w.heap.size]? = some (.cells #[.int .i64 n.f0, .string n.f1, .string n.f2, .slice A3 n.f3.length c3] 24 (0, 0)) := heap_alloc_new _ _
  have cA := alive_any (w.alloc (.cells #[.int .i64 n.f0, .string n.f1, .string n.f2, .slice A3 n.f3.length c3] 24)) (hT.below hb0)
  have hu24 := Tryd.underlying24
  have HT := Aside0.mk hT
  have HH3 := Aside0.mk (And.intro h3 l3)
  have HG := Aside0.mk (And.intro hg lg)
  have HNI := Aside0.mk hn
  -- the node's row, in any world that came of w, and its block
  have HONE : Aside0 (∀ (W : World) (hb : Below w.heap.size w W), Kd.N k24 24 (W.alloc (.cells #[.int .i64 n.f0, .string n.f1, .string n.f2, .slice A3 n.f3.length c3] 24)) W.heap.size (fun _ => True) (.slice (some ⟨W.heap.size, 0, none⟩) 1 1) [n]) := ⟨fun W hb =>
    N_one (c := [.int .i64 n.f0, .string n.f1, .string n.f2, .slice A3 n.f3.length c3]) (heap_alloc_new _ _) (Nat.le_refl _) trivial (fun W' hW => k24_mk W' n HH3.out.2 ((Kd.heap_int .i64).C (fun k hk => by
      have h1 := hb.size
      have h2 := hW k ⟨trivial, by omega⟩ (by simp; omega)
      rw [h2, Below.heap_alloc _ _ _ (by omega)]
      exact hb.block k hk) HH3.out.1))⟩
  have HARG : Aside0 (∀ (W : World) (hb : Below w.heap.size w W), Kd.F k24 W (fun k => k < w.heap.size) A g.length g) := ⟨fun W hb => Kd.F_below (Kd.C_F k24_heap HG.out.1) hb⟩
  clear hT h3 l3 hg lg hn
  go_enter Tryd.func3, Tryd.ntmps3
  go_wp2_with fail
  refine cA.mono ?_
  rintro e w1 ⟨rfl, hb1⟩
  have HB1 := Aside0.mk (below_then hb0 hb0.size hb1)
  have HK1 := Aside0.mk (blk_below5 hb1 hk0)
  have z0 : w1.cell? ⟨w.heap.size, 0, none⟩ = some (.int .i64 n.f0) := (blk_cell HK1.out 0).trans rfl
  have z1 : w1.cell? ⟨w.heap.size, 1, none⟩ = some (.string n.f1) := (blk_cell HK1.out 1).trans rfl
  have z2 : w1.cell? ⟨w.heap.size, 2, none⟩ = some (.string n.f2) := (blk_cell HK1.out 2).trans rfl
  have z3 : w1.cell? ⟨w.heap.size, 3, none⟩ = some (.slice A3 n.f3.length c3) := (blk_cell HK1.out 3).trans rfl
  clear hb0 hk0 cA hb1
  go_wp2_with ((with_reducible refine gate_builtin (b := .append) (xs := #[.tmp 9, .tmp 10]) rfl ?_); at_builtin; go_loud (refine Kd.N_append_rows k24 (w0 := w1.alloc (.cells #[.int .i64 n.f0, .string n.f1, .string n.f2, .slice A3 n.f3.length c3] 24)) w1.heap.size rfl (.tmp 9) (.tmp 10) 25 24 (.agg #[.int .i64 0, .string ⟨#[]⟩, .string ⟨#[]⟩, .slice none 0 0]) 64 rfl Tryd.underlying25 info24x rfl (by decide) (by decide) (.slice (some ⟨w1.heap.size, 0, none⟩) 1 1) [n] g A g.length c (fun _ => True) (fun k => k < w.heap.size) rfl rfl (HONE.out w1 HB1.out) (HARG.out _ (HB1.out.alloc HB1.out.size _)) (fun k hk => ⟨trivial, fun e => (by simp only [Value.ownBlock, Option.some.injEq] at e; have := HB1.out.size; omega)⟩) (fun _ _ => trivial) (Below.refl _ _) (by simp) (by have := HNI.out; simp only [List.length_singleton]; omega) ?_); go_loud (intro v1a w1a hN1 hb1a hg1 hat1; obtain ⟨A1, c1, rfl, l1, g1⟩ := Kd.N_reads hN1; have HB1a := Aside0.mk (HB1.out.trans (((below_alloc (Below.refl w1.heap.size w1) _).trans hb1a).mono HB1.out.size)); have HK1a := Aside0.mk (((below_alloc (Below.refl w1.heap.size w1) _).trans hb1a).block _ (Array.getElem?_eq_some_iff.1 HK1.out).1 |>.trans HK1.out); have HC1 := Aside0.mk (And.intro g1 l1); clear hN1 hb1a hg1 hat1 g1 l1))
  have hcH := grillelaw08_Heavy.calls _ A1 c1 (n :: g) (heavyB (n :: g)) w1a HC1.out.1 HC1.out.2 (heavy_f (n :: g) (by have := HNI.out; simp only [List.length_cons]; omega))
  refine hcH.mono ?_
  rintro e w5 ⟨rfl, hb5⟩
  have HB5 := Aside0.mk (below_then HB1a.out HB1a.out.size hb5)
  have HK5 := Aside0.mk (blk_below5 hb5 HK1a.out)
  obtain ⟨hv, hhv⟩ : ∃ hv, heavyB (n :: g) = hv := ⟨_, rfl⟩
  rw [hhv]
  have HHV := Aside0.mk hhv
  clear hcH hb5 z0 z1 z2 z3 hhv HB1 HK1 HC1 HB1a HK1a
  cases hv with
  | true =>
    go_wp2
    go_ret
    exact ⟨rfl, HB5.out⟩
  | false =>
    have z0 : w5.cell? ⟨w.heap.size, 0, none⟩ = some (.int .i64 n.f0) := (blk_cell HK5.out 0).trans rfl
    have z1 : w5.cell? ⟨w.heap.size, 1, none⟩ = some (.string n.f1) := (blk_cell HK5.out 1).trans rfl
    have z2 : w5.cell? ⟨w.heap.size, 2, none⟩ = some (.string n.f2) := (blk_cell HK5.out 2).trans rfl
    have z3 : w5.cell? ⟨w.heap.size, 3, none⟩ = some (.slice A3 n.f3.length c3) := (blk_cell HK5.out 3).trans rfl
    go_wp2_with ((with_reducible refine gate_builtin (b := .append) (xs := #[.tmp 14, .tmp 15]) rfl ?_); at_builtin; go_loud (refine Kd.N_append_rows k24 (w0 := w5.alloc (.cells #[.int .i64 n.f0, .string n.f1, .string n.f2, .slice A3 n.f3.length c3] 24)) w5.heap.size rfl (.tmp 14) (.tmp 15) 25 24 (.agg #[.int .i64 0, .string ⟨#[]⟩, .string ⟨#[]⟩, .slice none 0 0]) 64 rfl Tryd.underlying25 info24x rfl (by decide) (by decide) (.slice (some ⟨w5.heap.size, 0, none⟩) 1 1) [n] g A g.length c (fun _ => True) (fun k => k < w.heap.size) rfl rfl (HONE.out w5 HB5.out) (HARG.out _ (HB5.out.alloc HB5.out.size _)) (fun k hk => ⟨trivial, fun e => (by simp only [Value.ownBlock, Option.some.injEq] at e; have := HB5.out.size; omega)⟩) (fun _ _ => trivial) (Below.refl _ _) (by simp) (by have := HNI.out; simp only [List.length_singleton]; omega) ?_); go_loud (intro v5a w5a hN5 hb5a hg5 hat5; obtain ⟨A5, c5, rfl, l5, g5⟩ := Kd.N_reads hN5; have HB5a := Aside0.mk (HB5.out.trans (((below_alloc (Below.refl w5.heap.size w5) _).trans hb5a).mono HB5.out.size)); have HK5a := Aside0.mk (((below_alloc (Below.refl w5.heap.size w5) _).trans hb5a).block _ (Array.getElem?_eq_some_iff.1 HK5.out).1 |>.trans HK5.out); have HC5 := Aside0.mk (And.intro g5 l5); clear hN5 hb5a hg5 hat5 g5 l5))
    have hvf := HHV.out
    simp only [heavyB, Bool.or_eq_false_iff, decide_eq_false_iff_not, List.any_eq_false] at hvf
    have hlen : (n :: g).length ≤ 120 := by have := hvf.2; omega
    have hkid : ∀ x ∈ n :: g, x.f3.length ≤ 200 := fun x hx => by
      have h1 := hvf.1 x hx
      simp only [heavyP, Bool.not_eq_true, Bool.or_eq_false_iff, decide_eq_false_iff_not] at h1
      omega
    have hcT := grillelaw08_Theirs.calls _ A5 c5 (n :: g) _ w5a HC5.out.1 HC5.out.2 (theirs_f (n :: g) (by omega) (fun x hx => by have := hkid x hx; omega))
    have HKD := Aside0.mk (hkid n List.mem_cons_self)
    refine hcT.mono ?_
    rintro e w8 ⟨v8, rfl, hS8, hb8⟩
    obtain ⟨M8, c8, rfl, _, _, _⟩ := Kd.R_form (Kd.S_R hS8) (by simp)
    obtain ⟨_, l8, g8⟩ := Kd.S_reads' hS8
    have HB8 := Aside0.mk (below_then HB5a.out HB5a.out.size hb8)
    have HK8 := Aside0.mk (blk_below5 hb8 HK5a.out)
    have HC8 := Aside0.mk (And.intro g8 l8)
    clear z0 z1 z2 z3 hcT hvf hlen hkid hS8 hb8 g8 l8
    rw [show (List.map conv (n :: g)).length = g.length + 1 by simp, show List.map conv (n :: g) = conv n :: g.map conv from rfl] at HC8
    rw [show (List.map conv (n :: g)).length = g.length + 1 by simp]
    obtain ⟨ad8, A6, c6, eo, q0, q1, q2, q3, l6, g6⟩ := at_T34 HC8.out.1 0 (by omega) (by omega)
    obtain rfl : (⟨M8, 0, none⟩ : Addr) = ad8 := by injection eo
    rw [show rd_T34 (conv n :: g.map conv) 0 = conv n from rfl] at q0 q1 q2 q3 l6 g6
    rw [show (⟨M8, 0, none⟩ : Addr).add ((0 : Int).toNat * 4) = ⟨M8, 0, none⟩ from rfl] at q0 q1 q2 q3
    dsimp only [conv] at q0 q1 q2 q3 l6 g6
    simp only [Nat.zero_add] at q1 q2 q3
    obtain ⟨A7, hcut, hrow⟩ := cut_nodes ⟨M8, 0, none⟩ g.length c8
    have hC7 := hrow w8 (conv n) (g.map conv) (by simp) HC8.out.2 HC8.out.1
    have CS : Aside0 (∀ W, Below w8.heap.size w8 W → Calls Tryd.prog 9 #[.agg #[.int .i64 n.f0, .string n.f1, .string n.f2, .slice A6 n.f3.length c6], .slice A7 g.length (c8 - 1)] W fun e w' => ∃ v, e = .returned v ∧ Kd.R Kd.string 9 w' W.heap.size (fun _ => True) v (stepsL n.f0 n.f3 (g.map conv)) ∧ Below W.heap.size W w') := ⟨fun W h => by
      have hx := steps_calls (conv n) A6 c6 A7 (c8 - 1) (g.map conv) W ((HT.out.below HB8.out).below h) (Kd.C_below g6 h) l6 (by rw [List.length_map]; exact Kd.C_below hC7 h) (by rw [List.length_map]; have := HC8.out.2; omega) (by have := HKD.out; show n.f3.length ≤ _; omega)
      rw [List.length_map] at hx
      exact hx⟩
    have CR : Aside0 (∀ W, Below w.heap.size w W → _) := ⟨fun W h => grilleref16_Steps.calls _ n.f0 n.f1 n.f2 A3 c3 n.f3 A c g _ W (HT.out.below h) (Kd.C_below HH3.out.1 h) HH3.out.2 (Kd.C_below HG.out.1 h) HG.out.2 (ref_f n.f0 n.f1 n.f2 n.f3 g (by have := HKD.out; omega))⟩
    have HSL : Aside0 ((stepsL n.f0 n.f3 (g.map conv)).length ≤ 200) := ⟨by have := HKD.out; unfold stepsL; split <;> simp <;> omega⟩
    generalize stepsL n.f0 n.f3 (g.map conv) = st at *
    have z0 : w8.cell? ⟨w.heap.size, 0, none⟩ = some (.int .i64 n.f0) := (blk_cell HK8.out 0).trans rfl
    have z1 : w8.cell? ⟨w.heap.size, 1, none⟩ = some (.string n.f1) := (blk_cell HK8.out 1).trans rfl
    have z2 : w8.cell? ⟨w.heap.size, 2, none⟩ = some (.string n.f2) := (blk_cell HK8.out 2).trans rfl
    have z3 : w8.cell? ⟨w.heap.size, 3, none⟩ = some (.slice A3 n.f3.length c3) := (blk_cell HK8.out 3).trans rfl
    have m0 : w.heap.size < w8.heap.size := World.block_lt_of_cell? w8 _ z0
    have m8 : M8 < w8.heap.size := World.block_lt_of_cell? w8 _ q0
    have hrule := held_cell (W1 := w8)
    have hu34 := Tryd.underlying34
    clear hrow hC7 l6 g6
    have hg0 : (0 : Int) < (g.length : Int) + 1 := by omega
    have hg1 : 0 < g.length + 1 := by omega
    go_wp2
    go_region_held3 (fun w' => Below w8.heap.size w8 w')
      (first | (with_reducible exact below_drew (Below.refl _ _)) | (with_reducible exact HB9.out) | (with_reducible exact HB10.out) | (with_reducible exact pw_below_drewN HB10.out _) | (with_reducible assumption))
      (first
        | (go_at_call 9; refine (CS.out _ (by with_reducible assumption)).mono ?_; rintro e w9 ⟨v9, rfl, hR9, hb9⟩; have HB9 := Aside0.mk (held_call (W1 := w8) (by with_reducible assumption) hb9); obtain ⟨A9, c9, rfl, l9, g9⟩ := Kd.R_reads hR9; have HR9 := Aside0.mk (And.intro g9 l9); clear hR9 hb9 g9 l9)
        | (go_at_call 10; refine (CR.out _ (HB8.out.trans (Below.mono (by with_reducible assumption) HB8.out.size))).mono ?_; rintro e w10 ⟨v10, rfl, hR10, hb10⟩; have HB10 := Aside0.mk (held_call (W1 := w8) (by with_reducible assumption) hb10); obtain ⟨A10, c10, rfl, l10, g10⟩ := Kd.R_reads hR10; have HR10 := Aside0.mk (And.intro g10 l10); have HR9' := Aside0.mk (Kd.C_below HR9.out.1 hb10); clear hR10 hb10 g10 l10)
        | (go_at_call 8; refine (slices_Equal_string_string.calls _ A9 c9 st A10 c10 st true _ HR9'.out HR9.out.2 HR10.out.1 HR10.out.2 (equal_f st (by have := HSL.out; omega))).mono ?_; rintro e w11 ⟨rfl, hd11⟩; obtain ⟨q11, rfl⟩ := hd11.out; clear hd11))
    go_wp2
    go_ret
    exact ⟨rfl, HB8.out.trans ((pw_below_drewN HB10.out _).mono HB8.out.size)⟩
end Go.Proofs.YtpbkdeelkpjccaaDoor.G

namespace Go.Proofs.YtpbkdeelkpjccaaDoor.G
open Go.RowKit Go.Proofs.YtpbkdeelkpjccaaDoorW.PrintWords
set_option linter.unusedVariables false
set_option linter.unusedSimpArgs false
def Opens {α : Type} (d : Kd α) (t : TypeId) : Prop := ∀ {H : Type} (enc : TypeId × Value → H) (w : World) (spare : Nat → Bool) (held : Bool) (fuel : Nat) (cs : List Value) (x : DataW H × List MemPlace),
  DataW.trod enc Tryd.prog w 0 spare held fuel t cs = some x → ∃ v : α, d.K w v cs
theorem opens_int {k : IntKind} {t : TypeId} (ht : Tryd.prog.underlying t = some (.int k)) : Opens (Kd.int k) t := by
  intro H enc w spare held fuel cs x h
  obtain ⟨n, rfl, _, _⟩ := DataW.trod_int ht h
  exact ⟨n, rfl⟩
theorem opens_string {t : TypeId} (ht : Tryd.prog.underlying t = some .string) : Opens Kd.string t := by
  intro H enc w spare held fuel cs x h
  obtain ⟨s, rfl, _, _⟩ := DataW.trod_string ht h
  exact ⟨s, rfl⟩
theorem rows_of {α : Type} {Q : Nat → α → Prop} : ∀ (n : Nat), (∀ i, i < n → ∃ v, Q i v) → ∃ xs : List α, xs.length = n ∧ ∀ i x, xs[i]? = some x → Q i x
  | 0, _ => ⟨[], rfl, fun i x h => by simp at h⟩
  | n + 1, h => by
    obtain ⟨xs, hl, hx⟩ := rows_of n (fun i hi => h i (by omega))
    obtain ⟨v, hv⟩ := h n (by omega)
    refine ⟨xs ++ [v], by simp [hl], fun i x hi => ?_⟩
    by_cases e : i < xs.length
    · rw [List.getElem?_append_left e] at hi; exact hx i x hi
    · rw [List.getElem?_append_right (by omega)] at hi
      have h0 : i - xs.length = 0 := by
        have := (List.getElem?_eq_some_iff.1 hi).1
        simp at this; omega
      rw [h0] at hi
      simp only [List.getElem?_cons_zero, Option.some.injEq] at hi
      subst hi
      rw [show i = n by omega]; exact hv
theorem open_row {α : Type} {d : Kd α} {t e : TypeId} (hd : Opens d e) (ht : Tryd.prog.underlying t = some (.slice e)) (hs : Tryd.prog.cellsOf e = d.sz) {H : Type} (enc : TypeId × Value → H) (w : World) (spare : Nat → Bool) (held : Bool) (fuel : Nat) (cs : List Value) (x : DataW H × List MemPlace)
    (h : DataW.trod enc Tryd.prog w 0 spare held fuel t cs = some x) : ∃ (xs : List α) (A : Option Addr) (c : Nat), cs = [.slice A xs.length c] ∧ xs.length ≤ c ∧ d.C w A xs.length xs ∧ (x.1 = .nil ∧ xs = [] ∨ ∃ elems rest, x.1 = .slice elems rest ∧ elems.length = xs.length) := by
  rcases Deep.open_slice ht h with ⟨rfl, rfl⟩ | ⟨a, len, cap, m, n, D, Pl, rfl, hb, hl, hm, hmm, rfl, hi⟩
  · exact ⟨[], none, 0, rfl, Nat.le_refl _, Kd.C_nil _ _, .inl ⟨rfl, rfl⟩⟩
  · have hle : len ≤ m := by rw [hmm]; split <;> omega
    obtain ⟨xs, hxl, hx⟩ := rows_of (Q := fun i v => ∃ cs', w.cells? 0 (a.add (i * Tryd.prog.cellsOf e)) (Tryd.prog.cellsOf e) = some cs' ∧ d.K w v cs') len (fun i hil => by
      obtain ⟨cs', hc, htr⟩ := hi i (by omega)
      obtain ⟨v, hv⟩ := hd enc w spare held n cs' _ htr
      exact ⟨v, cs', hc, hv⟩)
    subst hxl
    have hmx : maxLen ≤ 9223372036854775807 := by decide
    have hlx : xs.length ≤ 9223372036854775807 := by omega
    refine ⟨xs, some a, cap, rfl, hl, ⟨rfl, hlx, fun _ => ⟨a, rfl, fun j p hj => ?_⟩⟩, .inr ⟨_, _, rfl, by simp⟩⟩
    obtain ⟨cs', hc, hk⟩ := hx j p hj
    obtain ⟨_, hcl, hat⟩ := World.cells?_some hc
    rw [hs] at hcl hat
    refine ⟨cs', hcl, hk, fun i u hu => ?_⟩
    have hil : i < d.sz := by rw [← hcl]; exact (List.getElem?_eq_some_iff.1 hu).1
    rw [← Go.Deep.add_add, hat i hil, hu]
set_option maxRecDepth 100000 in
theorem opens_node : Opens k24 24 := by
  intro H enc w spare held fuel cs x h
  obtain ⟨xs, n, _, _, hlen, hxl, hf⟩ := DataW.trod_struct Tryd.underlying24 h
  rw [show Tryd.prog.cellsOf 24 = 4 by kernel_rfl] at hlen
  match cs, hlen with
  | [c0, c1, c2, c3], _ =>
    have z3 : Tryd.prog.cellsOf 3 = 1 := by kernel_rfl
    have z9 : Tryd.prog.cellsOf 9 = 1 := by kernel_rfl
    have z22 : Tryd.prog.cellsOf 22 = 1 := by kernel_rfl
    have h0 : DataW.trod enc Tryd.prog w 0 spare held n 3 (([c0, c1, c2, c3].drop 0).take (Tryd.prog.cellsOf 3)) = xs[0]? := hf 0 _ rfl
    have h1 : DataW.trod enc Tryd.prog w 0 spare held n 9 (([c0, c1, c2, c3].drop 1).take (Tryd.prog.cellsOf 9)) = xs[1]? := hf 1 _ rfl
    have h2 : DataW.trod enc Tryd.prog w 0 spare held n 9 (([c0, c1, c2, c3].drop 2).take (Tryd.prog.cellsOf 9)) = xs[2]? := hf 2 _ rfl
    have h3 : DataW.trod enc Tryd.prog w 0 spare held n 22 (([c0, c1, c2, c3].drop 3).take (Tryd.prog.cellsOf 22)) = xs[3]? := hf 3 _ rfl
    rw [z3] at h0
    rw [z9] at h1 h2
    rw [z22] at h3
    have hxs : xs.length = 4 := hxl
    match xs, hxs with
    | [y0, y1, y2, y3], _ =>
      obtain ⟨v0, e0⟩ := opens_int (show Tryd.prog.underlying 3 = some (.int .i64) by kernel_rfl) enc w spare held n [c0] _ h0
      obtain ⟨v1, e1⟩ := opens_string Tryd.underlying9 enc w spare held n [c1] _ h1
      obtain ⟨v2, e2⟩ := opens_string Tryd.underlying9 enc w spare held n [c2] _ h2
      obtain ⟨xs3, A3, c3', e3, l3, g3, _⟩ := open_row (opens_int (show Tryd.prog.underlying 3 = some (.int .i64) by kernel_rfl)) Tryd.underlying22 z3 enc w spare held n [c3] _ h3
      have e0' : c0 = .int .i64 v0 := by have := e0; injection this
      have e1' : c1 = .string v1 := by have := e1; injection this
      have e2' : c2 = .string v2 := by have := e2; injection this
      have e3' : c3 = .slice A3 xs3.length c3' := by injection e3
      subst e0' e1' e2' e3'
      exact ⟨⟨v0, v1, v2, xs3⟩, k24_mk w ⟨v0, v1, v2, xs3⟩ l3 g3⟩
end Go.Proofs.YtpbkdeelkpjccaaDoor.G
