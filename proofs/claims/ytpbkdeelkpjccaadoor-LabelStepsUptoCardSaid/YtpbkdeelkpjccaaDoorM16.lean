/- Merged by merge.py out of: Horder, Pspread, Hspread, Heqset. -/
import Derived.Test.YtpbkdeelkpjccaaDoorM15
import Derived.Laws.EntriesVeiled
import Derived.Test.YtpbkdeelkpjccaaDoorM04
import Derived.ChangeKeysEq
namespace Go.Proofs.YtpbkdeelkpjccaaDoor.G
open Go.RowKit Go.Proofs.YtpbkdeelkpjccaaDoorW.PrintWords
set_option linter.unusedVariables false
set_option linter.unusedSimpArgs false
structure OrdAt (g : List S34) (A : Option Addr) (c : Nat) (w0 : World) (b M : Nat) (s : List Int × List Int) (w : World) : Prop where
  bel : Below w0.heap.size w0 w
  ge : w0.heap.size ≤ b
  lt : b + 1 < M
  bg : w.heap[b]? = some (.cells #[.slice A g.length c] 29 (0, 0))
  bm : w.heap[M + 1]? = some (.cells #[.slice (some ⟨M, 0, none⟩) g.length g.length] 22 (0, 0))
  m : w.heap[M]? = some (.cells (s.1.map (Value.int .i64)).toArray 3 (0, 0))
  bo : ∃ v, w.heap[b + 1]? = some (.cells #[v] 22 (0, 0)) ∧ Kd.R (Kd.int .i64) 3 w w0.heap.size (fun k => k ≠ b ∧ k ≠ b + 1 ∧ k ≠ M ∧ k ≠ M + 1 ∧ k ≠ M + 2) v s.2
  bt : w.heap[M + 2]? = some (.cells #[.func (.func 36) #[] #[.pointer (some ⟨M + 1, 0, none⟩), .pointer (some ⟨b + 1, 0, none⟩), .pointer (some ⟨b, 0, none⟩), .pointer (some ⟨M + 2, 0, none⟩)]] 90 (0, 0))
theorem OrdAt.setMet {g : List S34} {A : Option Addr} {c : Nat} {w0 : World} {b M : Nat} {s : List Int × List Int} {w : World} (h : OrdAt g A c w0 b M s w) (i : Nat) (v : Int) :
    OrdAt g A c w0 b M (s.1.set i v, s.2) (w.setCell ⟨M, i, none⟩ (.int .i64 v)) := by
  have hlt := h.lt
  have hge := h.ge
  obtain ⟨u, hu, hR⟩ := h.bo
  refine ⟨below_set h.bel (by show _ ≤ M; omega), h.ge, h.lt, blk_far h.bg (by show b ≠ M; omega) _, blk_far h.bm (by show M + 1 ≠ M; omega) _, ?_, ⟨u, blk_far hu (by show b + 1 ≠ M; omega) _, Kd.R_step hR (fun k hk _ => Below.heap_setCell w ⟨M, i, none⟩ _ k hk.2.2.1)⟩, blk_far h.bt (by show M + 2 ≠ M; omega) _⟩
  rw [blk_set h.m]
  congr 2
  simp
theorem OrdAt.drewN {g : List S34} {A : Option Addr} {c : Nat} {w0 : World} {b M : Nat} {s : List Int × List Int} {w : World} (h : OrdAt g A c w0 b M s w) (n : Nat) : OrdAt g A c w0 b M s (w.drewN n) :=
  ⟨pw_below_drewN h.bel n, h.ge, h.lt, h.bg, h.bm, h.m, by obtain ⟨u, hu, hR⟩ := h.bo; exact ⟨u, hu, Kd.R_drewN hR n⟩, h.bt⟩
theorem OrdAt.push {g : List S34} {A : Option Addr} {c : Nat} {w0 : World} {b M : Nat} {s : List Int × List Int} {w w7 : World} (h : OrdAt g A c w0 b M s w) {u v4 : Value} (hu : w.heap[b + 1]? = some (.cells #[u] 22 (0, 0)))
    (hR : Kd.R (Kd.int .i64) 3 w w0.heap.size (fun k => k ≠ b ∧ k ≠ b + 1 ∧ k ≠ M ∧ k ≠ M + 1 ∧ k ≠ M + 2) u s.2) {l : List Int}
    (ho : Kd.R (Kd.int .i64) 3 w7 w0.heap.size (fun k => k ≠ b ∧ k ≠ b + 1 ∧ k ≠ M ∧ k ≠ M + 1 ∧ k ≠ M + 2) v4 l) (hb : Below w0.heap.size w0 w7) (hg : w.grownBy w7 u.ownBlock) :
    w7.heap[b + 1]? = some (.cells #[u] 22 (0, 0)) ∧ OrdAt g A c w0 b M (s.1, l) (w7.setCell ⟨b + 1, 0, none⟩ v4) := by
  have hlt := h.lt
  have hge := h.ge
  have hne : ∀ k, (k = b ∨ k = b + 1 ∨ k = M ∨ k = M + 1 ∨ k = M + 2) → some k ≠ u.ownBlock := fun k hk e => by
    have := hR.1 k e.symm
    omega
  have hu7 := blk_grown hu hg (hne _ (by omega))
  refine ⟨hu7, below_set hb (by show _ ≤ b + 1; omega), h.ge, h.lt, blk_far (blk_grown h.bg hg (hne _ (by omega))) (by show b ≠ b + 1; omega) _, blk_far (blk_grown h.bm hg (hne _ (by omega))) (by show M + 1 ≠ b + 1; omega) _, blk_far (blk_grown h.m hg (hne _ (by omega))) (by show M ≠ b + 1; omega) _, ⟨v4, ?_, Kd.R_step ho (fun k hk _ => Below.heap_setCell w7 ⟨b + 1, 0, none⟩ _ k hk.2.1)⟩, blk_far (blk_grown h.bt hg (hne _ (by omega))) (by show M + 2 ≠ b + 1; omega) _⟩
  rw [blk_set hu7]; rfl
section
variable (g : List S34) (A : Option Addr) (c : Nat) (w0 : World) (b M : Nat)
theorem meet_seen (hn : g.length ≤ 2000) (bd : Nat) (hbd : bd + 1 ≤ 2 ^ 62) (s : List Int × List Int) (i : Int) (h0 : 0 ≤ i) (h1 : i < (g.length : Int)) (w : World) (H : OrdAt g A c w0 b M s w) (HS : MetAt g bd s) (hi : rd s.1 i + 1 > 1) :
    Calls Tryd.prog 36 #[.int .i64 i, .pointer (some ⟨M + 1, 0, none⟩), .pointer (some ⟨b + 1, 0, none⟩), .pointer (some ⟨b, 0, none⟩), .pointer (some ⟨M + 2, 0, none⟩)] w fun e w' =>
      e = .returned (.tuple #[]) ∧ OrdAt g A c w0 b M (s.1.set i.toNat (rd s.1 i + 1), s.2) w' := by
  obtain ⟨a1, a2, a3⟩ := HS.at i h0 h1
  have hl : i.toNat < s.1.length := by have := HS.len; omega
  have HN := Aside0.mk ((H.setMet i.toNat (rd s.1 i + 1)))
  have c0 : w.cell? ⟨M + 1, 0, none⟩ = some (.slice (some ⟨M, 0, none⟩) g.length g.length) := (blk_cell H.bm 0).trans rfl
  have c1 : w.cell? ⟨M, i.toNat, none⟩ = some (.int .i64 (rd s.1 i)) := (blk_cell H.m _).trans (by rw [a3]; simp [hl, List.getD_eq_getElem?_getD])
  have f1 : w.frozen? ⟨M, i.toNat, none⟩ = false := blk_frozen H.m _
  have hw : wrap64 (rd s.1 i + 1) = rd s.1 i + 1 := IntWalk.wrap64_in _ (by omega)
  clear a3
  generalize rd s.1 i = v at *
  have ht : decide (1 < v + 1) = true := decide_eq_true (by omega)
  have hz : i.toNat < g.length := by omega
  clear H HS hi hl
  generalize g.length = n at *
  go_enter Tryd.func36, Tryd.ntmps36
  go_wp2
  refine bodyPost_ret (results_none rfl _ _ _) rfl ?_
  exact ⟨rfl, HN.out⟩
def MeetOk (f : Nat) : Prop := ∀ (s : List Int × List Int) (i : Int) (w : World) (bd : Nat), 0 ≤ i → i < (g.length : Int) → OrdAt g A c w0 b M s w → MetAt g bd s → pot g s.1 ≤ f → bd + pot g s.1 + 1 ≤ 2 ^ 62 →
    Calls Tryd.prog 36 #[.int .i64 i, .pointer (some ⟨M + 1, 0, none⟩), .pointer (some ⟨b + 1, 0, none⟩), .pointer (some ⟨b, 0, none⟩), .pointer (some ⟨M + 2, 0, none⟩)] w fun e w' =>
      e = .returned (.tuple #[]) ∧ OrdAt g A c w0 b M (visit g f i s) w' ∧ ∃ bd', MetAt g bd' (visit g f i s) ∧ bd' + pot g (visit g f i s).1 ≤ bd + pot g s.1 + 1 ∧ pot g (visit g f i s).1 ≤ pot g s.1
set_option maxHeartbeats 4000000 in
set_option maxRecDepth 100000 in
theorem meet_first (hX : Kd.C k34 w0 A g.length g) (hn : g.length ≤ 2000) (hk : ∀ x ∈ g, ∀ k ∈ x.f3, 0 ≤ k ∧ k < (g.length : Int)) (f : Nat) (IH : MeetOk g A c w0 b M f) (s : List Int × List Int) (i : Int) (w : World) (bd : Nat) (h0 : 0 ≤ i) (h1 : i < (g.length : Int)) (H : OrdAt g A c w0 b M s w) (HS : MetAt g bd s) (hf : pot g s.1 ≤ f + 1) (hbd : bd + pot g s.1 + 1 ≤ 2 ^ 62) (hi : rd s.1 i = 0) :
    Calls Tryd.prog 36 #[.int .i64 i, .pointer (some ⟨M + 1, 0, none⟩), .pointer (some ⟨b + 1, 0, none⟩), .pointer (some ⟨b, 0, none⟩), .pointer (some ⟨M + 2, 0, none⟩)] w fun e w' =>
      e = .returned (.tuple #[]) ∧ OrdAt g A c w0 b M (visit g (f + 1) i s) w' ∧ ∃ bd', MetAt g bd' (visit g (f + 1) i s) ∧ bd' + pot g (visit g (f + 1) i s).1 ≤ bd + pot g s.1 + 1 ∧ pot g (visit g (f + 1) i s).1 ≤ pot g s.1 := by
  rw [visit_first g f i s hi]
  obtain ⟨a1, a2, a3⟩ := HS.at i h0 h1
  have hl : i.toNat < s.1.length := by have := HS.len; omega
  have HN := Aside0.mk (H.setMet i.toNat (rd s.1 i + 1))
  have HM := Aside0.mk (HS.first i h0 h1 hi)
  have HKx : ∀ k ∈ (rd_T34 g i).f3, 0 ≤ k ∧ k < (g.length : Int) := hk _ (by unfold rd_T34; rw [getD_lt _ _ (by omega)]; exact List.getElem_mem _)
  have cc0 : w.cell? ⟨M + 1, 0, none⟩ = some (.slice (some ⟨M, 0, none⟩) g.length g.length) := (blk_cell H.bm 0).trans rfl
  have cc1 : w.cell? ⟨M, i.toNat, none⟩ = some (.int .i64 0) := (blk_cell H.m _).trans (by rw [← hi, a3]; simp [hl, List.getD_eq_getElem?_getD])
  have f1 : w.frozen? ⟨M, i.toNat, none⟩ = false := blk_frozen H.m _
  obtain ⟨ad, A3, c3, e, q0, q1, q2, q3, l3, g3⟩ := at_T34 hX i h0 (by omega)
  cases e
  have HQ3 : Aside0 (∀ W, Below w0.heap.size w0 W → _) := ⟨fun W hb => (hb.cell (World.block_lt_of_cell? w0 _ q3)).trans q3⟩
  have HG3 : Aside0 (∀ W, Below w0.heap.size w0 W → _) := ⟨fun W hb => Kd.C_below g3 hb⟩
  have hout : (s.2.length + 1) * 8 ≤ 140737488355328 := by have := HS.out; omega
  have HO := Aside0.mk hout
  have HNI := Aside0.mk hn
  have HI := Aside0.mk IH
  have HKX := Aside0.mk HKx
  have HBD := Aside0.mk (And.intro hbd hf)
  have hbigk : (rd_T34 g i).f3.length ≤ 9223372036854775807 := g3.2.1
  have HDF : Aside0 (∀ j (hj : j < (rd_T34 g i).f3.length), (rd_T34 g i).f3.take (j + 1) = (rd_T34 g i).f3.take j ++ [rd (rd_T34 g i).f3 (j : Int)]) := ⟨fun j hj => by rw [rd_get _ j hj, List.take_append_getElem hj]⟩
  clear a1 a2 a3 hl HKx hk H HS hX IH q0 q1 q2 q3 g3 hout hbd hf l3 HNI hn
  rw [hi] at HN HM
  rw [hi]
  clear hi
  have hz : i.toNat < g.length := by omega
  generalize rd_T34 g i = x at *
  rw [show (0 : Int) + 1 = 1 from rfl] at *
  have enters := enters_of Tryd.func36 (by kernel_rfl) rfl
  obtain ⟨u, hu, hR⟩ := HN.out.bo
  have HR := Aside0.mk hR
  have HU := Aside0.mk hu
  have cu : (w.setCell ⟨M, i.toNat, none⟩ (.int .i64 1)).cell? ⟨b + 1, 0, none⟩ = some u := (blk_cell hu 0).trans rfl
  clear hR hu
  have hsz : (w.setCell ⟨M, i.toNat, none⟩ (.int .i64 1)).heap.size = w.heap.size := by simp [World.setCell]
  go_enter Tryd.func36, Tryd.ntmps36
  go_wp2_with ((with_reducible refine gate_builtin (b := .append) (xs := #[.tmp 19, .tmp 21]) rfl ?_); at_builtin; go_loud (refine Kd.R_append (Kd.int .i64) (w0 := w0) w0.heap.size rfl (.tmp 19) (.tmp 21) 22 3 (.int .i64 0) 8 rfl Tryd.underlying22 info3 rfl (by decide) (by omega) u s.2 i [.int .i64 i] (fun k => k ≠ b ∧ k ≠ b + 1 ∧ k ≠ M ∧ k ≠ M + 1 ∧ k ≠ M + 2) (fun _ => False) rfl (by rw [hsz]; rfl) ?aP (fun _ hk => hk.elim) ?aF ?aO ?aB ?aS ?aL ?_); go_loud ((case aP => exact rfl); (case aB => exact HN.out.bel); (case aF => exact (fun k hk => by have h1 := blk_lt HN.out.bt; have h2 := HN.out.lt; omega)); (case aO => exact HR.out); (case aS => exact HN.out.bel.size); (case aL => exact HO.out); intro v4 w7 ho hb hg hat; obtain ⟨A4, c4, rfl, hl4, hC4⟩ := Kd.R_reads ho; clear hC4; have HP := Aside0.mk (HN.out.push HU.out HR.out ho hb hg); have cu7 : w7.cell? ⟨b + 1, 0, none⟩ = some u := ((blk_cell HP.out.1 0).trans rfl); have fu7 : w7.frozen? ⟨b + 1, 0, none⟩ = false := (blk_frozen HP.out.1 0); have cg8 : (w7.setCell ⟨b + 1, 0, none⟩ (.slice A4 (s.2 ++ [i]).length c4)).cell? ⟨b, 0, none⟩ = some (.slice (some ad) g.length c) := ((blk_cell HP.out.2.bg 0).trans rfl); have q38 := HQ3.out _ HP.out.2.bel; have q37 := HQ3.out _ hb; have cg7 : w7.cell? ⟨b, 0, none⟩ = some (.slice (some ad) g.length c) := (by have h5 := cg8; rw [World.cell?_setCell_other _ _ _ _ (by intro e; injection e with e; omega)] at h5; exact h5); clear ho hb hg hat cu cc0 cc1 f1))
  have hX8 := HP.out.2
  rw [show (s.2 ++ [i]).length = s.2.length + 1 by simp] at hX8
  generalize w7.setCell ⟨b + 1, 0, none⟩ (.slice A4 (s.2.length + 1) c4) = w8 at *
  have H8 := Aside0.mk hX8
  clear hX8 HP cu7 fu7 cg8 cg7 q37 q38 hsz hl4
  go_loopg [29] x.f3.length (fun gg s29 wr => ∃ (j bdj : Nat), j ≤ x.f3.length ∧ x.f3.length - j ≤ gg ∧ s29 = .int .i64 j ∧ Aside0 (OrdAt g (some ad) c w0 b M ((x.f3.take j).foldl (fun s k => visit g f k s) (s.1.set i.toNat 1, s.2 ++ [i])) wr) ∧
    Aside0 (MetAt g bdj ((x.f3.take j).foldl (fun s k => visit g f k s) (s.1.set i.toNat 1, s.2 ++ [i])) ∧ bdj + pot g ((x.f3.take j).foldl (fun s k => visit g f k s) (s.1.set i.toNat 1, s.2 ++ [i])).1 + (x.f3.length - j) ≤ bd + pot g s.1 ∧ pot g ((x.f3.take j).foldl (fun s k => visit g f k s) (s.1.set i.toNat 1, s.2 ++ [i])).1 + (x.f3.length + 1) ≤ pot g s.1))
  case atStart =>
    refine ⟨0, bd + 1, Nat.zero_le _, by omega, rfl, ⟨H8.out⟩, ⟨HM.out.1, ?_, ?_⟩⟩
    · have := HM.out.2; simp only [List.take_zero, List.foldl_nil]; omega
    · have := HM.out.2; simp only [List.take_zero, List.foldl_nil]; omega
  case round =>
    obtain ⟨j, bdj, hj, hjg, rfl, OJ, MJ⟩ := hrel
    by_cases hjl : j < x.f3.length
    · have hjz : (j : Int) < (x.f3.length : Int) := by omega
      have hC := HG3.out _ OJ.out.bel
      obtain ⟨ad3, e3, p3⟩ := Kd.at_int hC (j : Int) (by omega) hjz
      cases e3
      have hkj : 0 ≤ rd x.f3 (j : Int) ∧ rd x.f3 (j : Int) < (g.length : Int) := HKX.out _ (by rw [rd_get _ j hjl]; exact List.getElem_mem _)
      have hDF := HDF.out j hjl
      have hcall := HI.out _ (rd x.f3 (j : Int)) wr bdj hkj.1 hkj.2 OJ.out MJ.out.1 (by have := MJ.out.2.2; have := HBD.out.2; omega) (by have := MJ.out.2.1; have := HBD.out.1; omega)
      have ct : wr.cell? ⟨M + 2, 0, none⟩ = some (.func (.func 36) #[] #[.pointer (some ⟨M + 1, 0, none⟩), .pointer (some ⟨b + 1, 0, none⟩), .pointer (some ⟨b, 0, none⟩), .pointer (some ⟨M + 2, 0, none⟩)]) := (blk_cell OJ.out.bt 0).trans rfl
      have HDJ := Aside0.mk hDF
      rw [Int.toNat_natCast] at p3
      clear hC hkj hDF
      generalize rd x.f3 (j : Int) = k at hcall p3 HDJ
      have HC := Aside0.mk hcall
      clear hcall
      go_wp2_with fail
      refine HC.out.mono ?_
      rintro e w9 ⟨rfl, O9, bd9, M9, hb9, hp9⟩
      have O9 := Aside0.mk O9
      have M9 := Aside0.mk M9
      have HB9 := Aside0.mk (And.intro hb9 hp9)
      clear hb9 hp9 HC
      go_wp2
      go_roundg (x.f3.length - (j + 1))
      case measure => omega
      case rel =>
        refine ⟨j + 1, bd9, by omega, by omega, by go_num, ⟨?_⟩, ⟨?_, ?_, ?_⟩⟩
        all_goals rw [HDJ.out, List.foldl_append, List.foldl_cons, List.foldl_nil]
        · exact O9.out
        · exact M9.out
        · have := HB9.out.1; have := MJ.out.2.1; omega
        · have := HB9.out.2; have := MJ.out.2.2; omega
    · have hjz : ¬ (j : Int) < (x.f3.length : Int) := by omega
      have HJ := Aside0.mk (show j = x.f3.length by omega)
      go_wp2
      go_end0
      have e1 : x.f3.take j = x.f3 := by rw [HJ.out, List.take_length]
      have h1 := OJ.out
      have h2 := MJ.out
      rw [e1] at h1 h2
      exact ⟨rfl, h1, bdj, h2.1, by have := h2.2.1; omega, by have := h2.2.2; omega⟩
theorem meet_any (hX : Kd.C k34 w0 A g.length g) (hn : g.length ≤ 2000) (hk : ∀ x ∈ g, ∀ k ∈ x.f3, 0 ≤ k ∧ k < (g.length : Int)) : ∀ f, MeetOk g A c w0 b M f := by
  intro f
  have seen : ∀ f, ∀ (s : List Int × List Int) (i : Int) (w : World) (bd : Nat), 0 ≤ i → i < (g.length : Int) → OrdAt g A c w0 b M s w → MetAt g bd s → bd + pot g s.1 + 1 ≤ 2 ^ 62 → rd s.1 i + 1 > 1 →
      Calls Tryd.prog 36 #[.int .i64 i, .pointer (some ⟨M + 1, 0, none⟩), .pointer (some ⟨b + 1, 0, none⟩), .pointer (some ⟨b, 0, none⟩), .pointer (some ⟨M + 2, 0, none⟩)] w fun e w' =>
        e = .returned (.tuple #[]) ∧ OrdAt g A c w0 b M (visit g f i s) w' ∧ ∃ bd', MetAt g bd' (visit g f i s) ∧ bd' + pot g (visit g f i s).1 ≤ bd + pot g s.1 + 1 ∧ pot g (visit g f i s).1 ≤ pot g s.1 := by
    intro f s i w bd h0 h1 H HS hbd hi
    rw [visit_seen g f i s hi]
    obtain ⟨h2, h3⟩ := HS.seen i h0 h1 hi
    refine (meet_seen g A c w0 b M hn bd (by omega) s i h0 h1 w H HS hi).mono ?_
    rintro e w' ⟨rfl, h4⟩
    exact ⟨rfl, h4, bd + 1, h2, by show _ + pot g (s.1.set i.toNat _) ≤ _; omega, by show pot g (s.1.set i.toNat _) ≤ _; omega⟩
  induction f with
  | zero =>
    intro s i w bd h0 h1 H HS hf hbd
    refine seen 0 s i w bd h0 h1 H HS hbd ?_
    obtain ⟨a1, a2, a3⟩ := HS.at i h0 h1
    have := HS.len
    have : ¬ s.1.getD i.toNat 0 = 0 := fun e => by have := pot_unmet g s.1 i.toNat (by omega) (by omega) e; omega
    omega
  | succ f ih =>
    intro s i w bd h0 h1 H HS hf hbd
    obtain ⟨a1, a2, a3⟩ := HS.at i h0 h1
    by_cases hi : rd s.1 i = 0
    · exact meet_first g A c w0 b M hX hn hk f ih s i w bd h0 h1 H HS hf hbd hi
    · exact seen (f + 1) s i w bd h0 h1 H HS hbd (by omega)
end
theorem graph_kids {g : List S34} (h : graphB g = true) : ∀ x ∈ g, ∀ k ∈ x.f3, 0 ≤ k ∧ k < (g.length : Int) := by
  intro x hx k hk
  simp only [graphB, Bool.and_eq_true] at h
  have h1 := List.all_eq_true.1 h.1.2 x hx
  unfold nodeB at h1
  split at h1
  · cases h1
  · rename_i h2
    have h3 := List.all_eq_true.1 (by simpa using h2 : (x.f3.all fun i => hasB g.length i) = true) k hk
    simp only [hasB, Bool.and_eq_true, decide_eq_true_eq] at h3
    exact h3
theorem graph_len {g : List S34} (h : graphB g = true) : 1 ≤ g.length ∧ g.length ≤ 2000 := by
  simp only [graphB, Bool.and_eq_true, decide_eq_true_eq] at h
  exact ⟨h.1.1.1, h.1.1.2⟩
set_option maxHeartbeats 4000000 in
set_option maxRecDepth 100000 in
theorem order_yes (g : List S34) (A : Option Addr) (c : Nat) (w : World) (hT : Tabs w) (hr : Kd.C k34 w A g.length g) (hc : g.length ≤ c) (hfit : fitG g) (hok : graphB g = true) :
    Calls Tryd.prog 15 #[.slice A g.length c] w fun e w' => ∃ v, e = .returned v ∧ Kd.R (Kd.int .i64) 3 w' w.heap.size (fun _ => True) v (orderL g) ∧ Below w.heap.size w w' := by
  have hb0 : Below w.heap.size w ((w.alloc (.cells #[.slice A g.length c] 29)).alloc (.cells #[.slice none 0 0] 22)) := below_alloc (below_alloc (Below.refl _ _) _) _
  have hcall := graphRight_any g A c _ (hT.below hb0) (Kd.C_below hr hb0) hc hfit
  rw [hok] at hcall
  have hk := graph_kids hok
  obtain ⟨hn1, hn2⟩ := graph_len hok
  have hpot := pot_replicate 17592186044416 g (fun x hx => (hfit x hx).2.2)
  have HME := Aside0.mk (fun M => meet_any g A c w w.heap.size M hr hn2 hk (pot g (List.replicate g.length 0)))
  have HPOT := Aside0.mk hpot
  have hbig : g.length ≤ 9223372036854775807 := by omega
  have hmk : ∀ W : World, (Instr.makeSlice 22 (.int .i64 (g.length : Int)) (.int .i64 (g.length : Int))).run Tryd.prog W = .ok (.slice (some ⟨W.heap.size, 0, none⟩) g.length g.length) (W.alloc (.cells (Array.replicate g.length (.int .i64 0)) 3)) := by
    intro W
    obtain ⟨i0, hi, hz0, hz1, hz2⟩ := info_parts info3
    have h := run_make (P := Tryd.prog) (w := W) 22 3 i0 (.int .i64 0) Tryd.underlying22 hi hz0 .i64 .i64 (g.length : Int) (g.length : Int) (by omega) (by omega) (by rw [hz2]; omega) (by omega)
    rw [h, hz1]
    have e : madeCells (Value.int .i64 0).cells ((g.length : Int).toNat * 1) = Array.replicate g.length (.int .i64 0) := by
      apply Array.ext
      · simp [size_madeCells]
      · intro i h1 h2
        simp [madeCells, Value.cells, Nat.mod_one]
    rw [e]
    simp
  clear hT hr hc hfit hok hk hpot
  unfold orderL
  obtain ⟨s9, hv⟩ : ∃ s9, visit g (pot g (List.replicate g.length 0)) 0 (List.replicate g.length 0, []) = s9 := ⟨_, rfl⟩
  rw [hv]
  have HV := Aside0.mk hv
  clear hv
  go_enter Tryd.func15, Tryd.ntmps15
  go_wp2_with fail
  refine hcall.mono ?_
  rintro e w1 ⟨rfl, hb1⟩
  have hg1 : w1.heap[w.heap.size]? = some (.cells #[.slice A g.length c] 29 (0, 0)) := (hb1.block _ (by simp; omega)).trans (by rw [Below.heap_alloc _ _ _ (by simp)]; exact heap_alloc_new _ _)
  have ho1 : w1.heap[w.heap.size + 1]? = some (.cells #[.slice none 0 0] 22 (0, 0)) := (hb1.block _ (by simp)).trans (by have := heap_alloc_new (w.alloc (.cells #[.slice A g.length c] 29)) (.cells #[.slice none 0 0] 22); simpa using this)
  have cg1 : w1.cell? ⟨w.heap.size, 0, none⟩ = some (.slice A g.length c) := (blk_cell hg1 0).trans rfl
  have hz1 : w.heap.size + 1 < w1.heap.size := by have := hb1.size; simp at this; omega
  have BB1 := Aside0.mk (below_then hb0 hb0.size hb1)
  have HG1 := Aside0.mk hg1
  have HO1 := Aside0.mk ho1
  clear hb0 hb1 hg1 ho1
  have hbt : (((w1.alloc (.cells (Array.replicate g.length (.int .i64 0)) 3)).alloc (.cells #[.slice (some ⟨w1.heap.size, 0, none⟩) g.length g.length] 22)).alloc (.cells #[.nilFunc] 90)).heap[w1.heap.size + 1 + 1]? = some (.cells #[.nilFunc] 90 (0, 0)) := by
    have := heap_alloc_new ((w1.alloc (.cells (Array.replicate g.length (.int .i64 0)) 3)).alloc (.cells #[.slice (some ⟨w1.heap.size, 0, none⟩) g.length g.length] 22)) (.cells #[.nilFunc] 90)
    simpa using this
  have hct : (((w1.alloc (.cells (Array.replicate g.length (.int .i64 0)) 3)).alloc (.cells #[.slice (some ⟨w1.heap.size, 0, none⟩) g.length g.length] 22)).alloc (.cells #[.nilFunc] 90)).cell? ⟨w1.heap.size + 1 + 1, 0, none⟩ = some .nilFunc := (blk_cell hbt 0).trans rfl
  have hft : (((w1.alloc (.cells (Array.replicate g.length (.int .i64 0)) 3)).alloc (.cells #[.slice (some ⟨w1.heap.size, 0, none⟩) g.length g.length] 22)).alloc (.cells #[.nilFunc] 90)).frozen? ⟨w1.heap.size + 1 + 1, 0, none⟩ = false := blk_frozen hbt 0
  have HBT := Aside0.mk hbt
  clear hbt
  go_wp2_with fail
  clear hct hft cg1 hcall hmk
  have hO : OrdAt g A c w w.heap.size w1.heap.size (List.replicate g.length 0, []) (((w1.alloc (.cells (Array.replicate g.length (.int .i64 0)) 3)).alloc (.cells #[.slice (some ⟨w1.heap.size, 0, none⟩) g.length g.length] 22)).alloc
      (.cells #[.func (.func 36) #[] #[.pointer (some ⟨w1.heap.size + 1, 0, none⟩), .pointer (some ⟨w.heap.size + 1, 0, none⟩), .pointer (some ⟨w.heap.size, 0, none⟩), .pointer (some ⟨w1.heap.size + 1 + 1, 0, none⟩)]] 90)) := by
    refine ⟨below_alloc (below_alloc (below_alloc BB1.out _) _) _, Nat.le_refl _, hz1, blk_alloc (blk_alloc (blk_alloc HG1.out _) _) _, ?_, ?_, ⟨_, blk_alloc (blk_alloc (blk_alloc HO1.out _) _) _, Kd.R_nil _ _ _ _ _⟩, ?_⟩
    · refine blk_alloc ?_ _
      have := heap_alloc_new (w1.alloc (.cells (Array.replicate g.length (.int .i64 0)) 3)) (.cells #[.slice (some ⟨w1.heap.size, 0, none⟩) g.length g.length] 22)
      simpa using this
    · refine blk_alloc (blk_alloc ?_ _) _
      have := heap_alloc_new w1 (.cells (Array.replicate g.length (.int .i64 0)) 3)
      rw [this]
      simp
    · have := heap_alloc_new ((w1.alloc (.cells (Array.replicate g.length (.int .i64 0)) 3)).alloc (.cells #[.slice (some ⟨w1.heap.size, 0, none⟩) g.length g.length] 22)) (.cells #[.func (.func 36) #[] #[.pointer (some ⟨w1.heap.size + 1, 0, none⟩), .pointer (some ⟨w.heap.size + 1, 0, none⟩), .pointer (some ⟨w.heap.size, 0, none⟩), .pointer (some ⟨w1.heap.size + 1 + 1, 0, none⟩)]] 90)
      simpa using this
  have hM : MetAt g 0 (List.replicate g.length 0, []) := ⟨by simp, fun m hm => by have := (List.mem_replicate.1 hm).2; omega, by simp [zeros_replicate]⟩
  refine (HME.out w1.heap.size (List.replicate g.length 0, []) 0 _ 0 (by omega) (by omega) hO hM (Nat.le_refl _) (by
    have h1 := HPOT.out
    have h2 : g.length * (17592186044416 + 1) ≤ 2000 * (17592186044416 + 1) := Nat.mul_le_mul_right _ hn2
    show 0 + pot g (List.replicate g.length 0) + 1 ≤ 2 ^ 62
    omega)).mono ?_
  rintro e w9 ⟨rfl, O9, bd9, M9, hb9, hp9⟩
  rw [HV.out] at O9
  obtain ⟨u, hu, hR⟩ := O9.bo
  obtain ⟨A9, c9, rfl, hl9, hC9⟩ := Kd.R_reads hR
  have cu : w9.cell? ⟨w.heap.size + 1, 0, none⟩ = some (.slice A9 s9.2.length c9) := (blk_cell hu 0).trans rfl
  have fu : w9.frozen? ⟨w.heap.size + 1, 0, none⟩ = false := blk_frozen hu 0
  have H9 := Aside0.mk O9
  have HU := Aside0.mk hu
  have HR := Aside0.mk hR
  clear O9 hu hR hC9 M9 hb9 hp9 hM hO hl9
  go_wp2
  have hu' : (w9.setCell ⟨w.heap.size + 1, 0, none⟩ (.slice A9 s9.2.length c9)).heap[w.heap.size + 1]? = some (.cells #[.slice A9 s9.2.length c9] 22 (0, 0)) := by rw [blk_set HU.out]; rfl
  refine bodyPost_ret (v := .slice A9 s9.2.length c9) ?_ rfl ?_
  · have cu' : (w9.setCell ⟨w.heap.size + 1, 0, none⟩ (.slice A9 s9.2.length c9)).cell? ⟨w.heap.size + 1, 0, none⟩ = some (.slice A9 s9.2.length c9) := (blk_cell hu' 0).trans rfl
    have hres : Tryd.f15.results = #[.cell 2 22] := rfl
    simp only [results, hres]
    clear HU H9 HR HME HG1 HO1 HBT BB1
    simp [Sem.run_bind, Result.andThen, asAddr]
    go_simp
  · exact ⟨_, rfl, Kd.R_mono (Kd.R_step HR.out (fun k hk _ => Below.heap_setCell w9 ⟨w.heap.size + 1, 0, none⟩ _ k hk.2.1)) (fun _ _ => trivial), below_set H9.out.bel (by show _ ≤ w.heap.size + 1; omega)⟩
set_option maxHeartbeats 4000000 in
set_option maxRecDepth 100000 in
theorem order_no (g : List S34) (A : Option Addr) (c : Nat) (w : World) (hT : Tabs w) (hr : Kd.C k34 w A g.length g) (hc : g.length ≤ c) (hfit : fitG g) (hok : graphB g = false) :
    Calls Tryd.prog 15 #[.slice A g.length c] w fun e w' => ∃ v, e = .returned v ∧ Kd.R (Kd.int .i64) 3 w' w.heap.size (fun _ => True) v [] ∧ Below w.heap.size w w' := by
  have hb0 : Below w.heap.size w ((w.alloc (.cells #[.slice A g.length c] 29)).alloc (.cells #[.slice none 0 0] 22)) := below_alloc (below_alloc (Below.refl _ _) _) _
  have hcall := graphRight_any g A c _ (hT.below hb0) (Kd.C_below hr hb0) hc hfit
  rw [hok] at hcall
  clear hT hr hc hfit hok
  generalize g.length = n at *
  go_enter Tryd.func15, Tryd.ntmps15
  go_wp2_with fail
  refine hcall.mono ?_
  rintro e w1 ⟨rfl, hb1⟩
  have ho1 : w1.heap[w.heap.size + 1]? = some (.cells #[.slice none 0 0] 22 (0, 0)) := (hb1.block _ (by simp)).trans (by have := heap_alloc_new (w.alloc (.cells #[.slice A n c] 29)) (.cells #[.slice none 0 0] 22); simpa using this)
  have co1 : w1.cell? ⟨w.heap.size + 1, 0, none⟩ = some (.slice none 0 0) := (blk_cell ho1 0).trans rfl
  have fo1 : w1.frozen? ⟨w.heap.size + 1, 0, none⟩ = false := blk_frozen ho1 0
  have BB1 := Aside0.mk (below_then hb0 hb0.size hb1)
  have HO1 := Aside0.mk ho1
  clear hb0 hb1 ho1 hcall
  go_wp2
  have hu' : (w1.setCell ⟨w.heap.size + 1, 0, none⟩ (.slice none 0 0)).heap[w.heap.size + 1]? = some (.cells #[.slice none 0 0] 22 (0, 0)) := by rw [blk_set HO1.out]; rfl
  refine bodyPost_ret (v := .slice none 0 0) ?_ rfl ?_
  · have cu' : (w1.setCell ⟨w.heap.size + 1, 0, none⟩ (.slice none 0 0)).cell? ⟨w.heap.size + 1, 0, none⟩ = some (.slice none 0 0) := (blk_cell hu' 0).trans rfl
    have hres : Tryd.f15.results = #[.cell 2 22] := rfl
    simp only [results, hres]
    clear HO1 BB1
    simp [Sem.run_bind, Result.andThen, asAddr]
    go_simp
  · exact ⟨_, rfl, Kd.R_nil _ _ _ _ _, below_set BB1.out (by show _ ≤ w.heap.size + 1; omega)⟩
def orderG (g : List S34) : List Int := if graphB g = true then orderL g else []
def arena_Order.f (l0 : List S34) : Option (List Int) := if fitGB l0 = true then some (orderG l0) else none
theorem arena_Order.calls (A0 : Option Addr) (c0 : Nat) (l0 : List S34) (r : List Int) (w : World) (hT : Tabs w) (hr0 : Kd.C k34 w A0 l0.length l0) (hc0 : l0.length ≤ c0) (h : arena_Order.f l0 = some r) :
    Calls Tryd.prog 15 #[.slice A0 l0.length c0] w fun e w' => ∃ v0_, e = .returned v0_ ∧ Kd.R (Kd.int .i64) 3 w' w.heap.size (fun _ => True) v0_ r ∧ Below w.heap.size w w' := by
  unfold arena_Order.f at h
  split at h
  · rename_i hs; obtain rfl := Option.some.inj h
    unfold orderG
    cases hg : graphB l0
    · rw [if_neg (by simp)]; exact order_no l0 A0 c0 w hT hr0 hc0 (fitG_of hs) hg
    · rw [if_pos rfl]; exact order_yes l0 A0 c0 w hT hr0 hc0 (fitG_of hs) hg
  · cases h
end Go.Proofs.YtpbkdeelkpjccaaDoor.G

namespace Go.Proofs.YtpbkdeelkpjccaaDoor.G
open Go.RowKit Go.Proofs.YtpbkdeelkpjccaaDoorW.PrintWords
set_option linter.unusedVariables false
set_option linter.unusedSimpArgs false
section
variable {σ : Type} (tell : σ → Int → Int → Nat → Option σ)
def kidsF (at_ : Int) : List Int → Nat → σ → List Int → σ × List Int
  | [], _, s, l => (s, l)
  | k :: ks, p, s, l => match tell s at_ k p with
    | none => kidsF at_ ks (p + 1) s l
    | some s' => kidsF at_ ks (p + 1) s' (l ++ [k])
def spreadF (g : List S34) : Nat → List Int → σ → σ
  | 0, _, s => s
  | _ + 1, [], s => s
  | f + 1, at_ :: l, s => spreadF g f (kidsF tell at_ (rd_T34 g at_).f3 0 s l).2 (kidsF tell at_ (rd_T34 g at_).f3 0 s l).1
theorem kidsF_none {at_ k : Int} {ks : List Int} {p : Nat} {s : σ} {l : List Int} (h : tell s at_ k p = none) : kidsF tell at_ (k :: ks) p s l = kidsF tell at_ ks (p + 1) s l := by
  rw [kidsF, h]
theorem kidsF_some {at_ k : Int} {ks : List Int} {p : Nat} {s s' : σ} {l : List Int} (h : tell s at_ k p = some s') : kidsF tell at_ (k :: ks) p s l = kidsF tell at_ ks (p + 1) s' (l ++ [k]) := by
  rw [kidsF, h]
theorem spreadF_nil (g : List S34) (f : Nat) (s : σ) : spreadF tell g f [] s = s := by
  cases f <;> rfl
end
theorem visit_range (g : List S34) (P : Int → Prop) (hk : ∀ i, P i → ∀ k ∈ (rd_T34 g i).f3, P k) : ∀ (f : Nat) (i : Int) (s : List Int × List Int), P i → (∀ k ∈ s.2, P k) → ∀ k ∈ (visit g f i s).2, P k := by
  intro f
  induction f with
  | zero => intro i s _ hs; exact hs
  | succ f ih =>
    intro i s hi hs
    rw [visit]
    split
    · exact hs
    · have fold : ∀ (l : List Int) (s : List Int × List Int), (∀ k ∈ l, P k) → (∀ k ∈ s.2, P k) → ∀ k ∈ (l.foldl (fun s k => visit g f k s) s).2, P k := by
        intro l
        induction l with
        | nil => exact fun s _ hs => hs
        | cons x l ihl => exact fun s hl hs => ihl _ (fun k hk => hl k (List.mem_cons_of_mem _ hk)) (ih x s (hl x List.mem_cons_self) hs)
      exact fold _ _ (hk i hi) (fun k hk => by
        rcases List.mem_append.1 hk with h | h
        · exact hs k h
        · rw [List.mem_singleton.1 h]; exact hi)
theorem rd_kids {g : List S34} (hk : ∀ x ∈ g, ∀ k ∈ x.f3, 0 ≤ k ∧ k < (g.length : Int)) (i : Int) : ∀ k ∈ (rd_T34 g i).f3, 0 ≤ k ∧ k < (g.length : Int) := by
  by_cases h : i.toNat < g.length
  · exact hk _ (by unfold rd_T34; rw [getD_lt _ _ h]; exact List.getElem_mem _)
  · intro k hk
    unfold rd_T34 at hk
    rw [List.getD_eq_getElem?_getD, List.getElem?_eq_none (by omega)] at hk
    cases hk
theorem order_range {g : List S34} (hok : graphB g = true) : ∀ k ∈ orderG g, 0 ≤ k ∧ k < (g.length : Int) := by
  unfold orderG
  rw [if_pos hok]
  have hl := graph_len hok
  exact visit_range g (fun k => 0 ≤ k ∧ k < (g.length : Int)) (fun i _ => rd_kids (graph_kids hok) i) _ 0 _ ⟨by omega, by omega⟩ (fun k hk => by cases hk)
end Go.Proofs.YtpbkdeelkpjccaaDoor.G

namespace Go.Proofs.YtpbkdeelkpjccaaDoor.G
open Go.RowKit Go.Proofs.YtpbkdeelkpjccaaDoorW.PrintWords
set_option linter.unusedVariables false
set_option linter.unusedSimpArgs false
theorem Q_keepM {α : Type} {d : Kd α} {e : Nat} {w w1 : World} {base M : Nat} {ok : Nat → Prop} {v : Value} {xs : List α} (h : d.Q e w base ok v xs) (hg : w.grownBy w1 (some M)) (hM : M < base) : d.Q e w1 base ok v xs :=
  Kd.Q_mono (Kd.Q_grown (Kd.Q_bound h) hg (fun k hk e => by injection e with e; have := hk.2.1; omega)) (fun _ hk => hk.1)
theorem grown_then {w W W' : World} {M : Nat} {row : Option Nat} (h : w.grownBy W (some M)) (k : W.grownBy W' row) (hr : ∀ j, row = some j → w.heap.size ≤ j) : w.grownBy W' (some M) :=
  ⟨k.os.trans h.os, k.tape.trans h.tape, k.output.trans h.output, Nat.le_trans h.size k.size, fun i hi hne => (k.block i (Nat.lt_of_lt_of_le hi h.size) (fun e => by have := hr i e.symm; omega)).trans (h.block i hi hne)⟩
section
variable {σ : Type} (tell : σ → Int → Int → Nat → Option σ) (μ : σ → Nat) (R : σ → World → Prop) (g : List S34) (gf : Nat) (lb : Array Value) (M : Nat) (w : World)
structure TellAt : Prop where
  keep : ∀ s W W' row, R s W → W.grownBy W' row → (∀ k, row = some k → w.heap.size ≤ k) → R s W'
  less : ∀ s W (a k : Int) p s', R s W → 0 ≤ a → a < (g.length : Int) → (rd_T34 g a).f3[p]? = some k → tell s a k p = some s' → μ s' < μ s
  no : ∀ s W (a k : Int) p, R s W → w.grownBy W (some M) → 0 ≤ a → a < (g.length : Int) → (rd_T34 g a).f3[p]? = some k → tell s a k p = none →
    Calls Tryd.prog gf (#[.int .i64 a, .int .i64 k, .int .i64 (p : Int)] ++ lb) W fun e W' => e = .returned (.bool false) ∧ R s W' ∧ W.grownBy W' (some M)
  yes : ∀ s W (a k : Int) p s', R s W → w.grownBy W (some M) → 0 ≤ a → a < (g.length : Int) → (rd_T34 g a).f3[p]? = some k → tell s a k p = some s' →
    Calls Tryd.prog gf (#[.int .i64 a, .int .i64 k, .int .i64 (p : Int)] ++ lb) W fun e W' => e = .returned (.bool true) ∧ R s' W' ∧ W.grownBy W' (some M)
set_option maxHeartbeats 4000000 in
set_option maxRecDepth 100000 in
theorem spread_any (eg : ∀ args w, (callFunc gf args).run Tryd.prog w = .ok (.enter gf args) w) (H : TellAt tell μ R g gf lb M w) (hM : M < w.heap.size) (A : Option Addr) (c : Nat) (hT : Tabs w) (w00 : World) (hr : Kd.C k34 w00 A g.length g) (hb00 : Below w00.heap.size w00 w) (hM0 : w00.heap.size ≤ M) (hc : g.length ≤ c) (hfit : fitGB g = true) (hok : graphB g = true)
    (s0 : σ) (h0 : R s0 w) (hbig : (orderG g).length + μ s0 ≤ 2 ^ 40) :
    Calls Tryd.prog 38 #[.slice A g.length c, .func (.func gf) #[] lb] w fun e w' => e = .returned (.tuple #[]) ∧ R (spreadF tell g ((orderG g).length + μ s0) (orderG g) s0) w' ∧ w.grownBy w' (some M) := by
  have HH := Aside0.mk H
  have hcO := arena_Order.calls A c g (orderG g) w hT (Kd.C_below hr hb00) hc (by unfold arena_Order.f; rw [if_pos hfit])
  have HOrd : Aside0 (∀ k ∈ orderG g, 0 ≤ k ∧ k < (g.length : Int)) := ⟨order_range hok⟩
  have HKid : Aside0 (∀ x ∈ g, ∀ k ∈ x.f3, 0 ≤ k ∧ k < (g.length : Int)) := ⟨graph_kids hok⟩
  have HR0 := Aside0.mk h0
  have HR := Aside0.mk hr
  have HBW : Aside0 (∀ W, w.grownBy W (some M) → Below w00.heap.size w00 W) := ⟨fun W h => hb00.grown h hb00.size (fun k e => by cases e; exact hM0)⟩
  have HBIG := Aside0.mk hbig
  generalize hN : (orderG g).length + μ s0 = N0 at *
  have HFIN := Aside0.mk (show spreadF tell g N0 (orderG g) s0 = spreadF tell g N0 (orderG g) s0 from rfl)
  generalize hfin : spreadF tell g N0 (orderG g) s0 = fin at *
  have HF := Aside0.mk hfin
  have HN0 := Aside0.mk hN
  clear H hr h0 hbig hT hfit hok hN hfin hb00 hM0
  go_enter Tryd.func38, Tryd.ntmps38
  go_wp2_with fail
  refine hcO.mono ?_
  rintro e w1 ⟨v, rfl, hv, hb1⟩
  have HV := Aside0.mk (Kd.Q_of_R hv)
  have HB1 := Aside0.mk hb1
  clear hv hb1 hcO
  go_wp2
  go_loopg [4] N0 (fun gg s4 wr => ∃ (s : σ) (l : List Int), Aside0 (Kd.Q (Kd.int .i64) 3 wr w.heap.size (fun _ => True) s4 l) ∧ Aside0 (R s wr) ∧ Aside0 (w.grownBy wr (some M)) ∧ Aside0 (spreadF tell g gg l s = fin) ∧ Aside0 (l.length + μ s ≤ gg ∧ gg ≤ N0) ∧ Aside0 (∀ k ∈ l, 0 ≤ k ∧ k < (g.length : Int)))
  case atStart => exact ⟨s0, orderG g, ⟨HV.out⟩, ⟨HH.out.keep s0 w w1 none HR0.out (grown_of_below HB1.out _) (fun k e => by cases e)⟩, ⟨grown_of_below HB1.out _⟩, ⟨HF.out⟩, ⟨by have := HN0.out; omega, Nat.le_refl _⟩, ⟨HOrd.out⟩⟩
  case round =>
    obtain ⟨s, l, QL, RS, GW, FN, LE, VL⟩ := hrel
    obtain ⟨A4, c4, e4, hl4⟩ := Kd.Q_slice QL.out
    subst e4
    have hmaxl := (Kd.Q_reads' QL.out).2.2.2.1
    cases l with
    | nil =>
      go_wp2
      go_end0
      have h := FN.out
      rw [spreadF_nil] at h
      exact ⟨rfl, h ▸ RS.out, GW.out⟩
    | cons a l =>
      have HA := VL.out a (by simp)
      obtain ⟨ha0, ha1⟩ := HA
      have hzA : a.toNat < g.length := by omega
      have hQ0 := QL.out
      obtain ⟨gb, ob, cap, eA, hgb0, hgb1, _⟩ := Kd.Q_form hQ0 (by simp)
      injection eA with eA1 eA2 eA3
      subst eA1 eA3
      have hcell := (Kd.Q_cell (0 : Int) hQ0 0 (by omega) (by simp)).1
      have hcut := cut_from (P := Tryd.prog) 22 3 .i64 Tryd.underlying22 (info_parts info3).choose_spec.1 1 (info_parts info3).choose_spec.2.2.1 (some ⟨gb, ob, none⟩) (a :: l).length c4 1 (by omega) (by simp; omega)
      have hdrop := Kd.Q_drop (k := 1) hQ0 (by simp)
      obtain ⟨ad, A3, c3, e, q0, q1, q2, q3, l3, g3⟩ := at_T34 HR.out a ha0 (by omega)
      subst e
      have HK3 : ∀ k ∈ (rd_T34 g a).f3, 0 ≤ k ∧ k < (g.length : Int) := HKid.out _ (by unfold rd_T34; rw [getD_lt _ _ hzA]; exact List.getElem_mem _)
      have HK3 := Aside0.mk HK3
      have q3 := ((HBW.out wr GW.out).cell (World.block_lt_of_cell? w00 _ q3)).trans q3
      have HG3 := Aside0.mk g3
      have hkmax : (rd_T34 g a).f3.length ≤ 9223372036854775807 := g3.2.1
      obtain ⟨f, rfl⟩ : ∃ f, gk = f + 1 := ⟨gk - 1, by have := LE.out; simp only [List.length_cons] at this; omega⟩
      rw [show (a :: l).length - 1 = l.length from rfl, show List.drop 1 (a :: l) = l from rfl] at hdrop
      rw [show ((a :: l).length - (1 : Int).toNat) = l.length from rfl, show (1 : Int).toNat = 1 from rfl] at hcut
      rw [show (Int.toNat 0) = 0 from rfl, Nat.add_zero, show rdOf 0 (a :: l) 0 = a from rfl] at hcell
      obtain ⟨A5, hA5⟩ : ∃ A5, A5 = (if c4 = 1 then some (⟨gb, ob, none⟩ : Addr) else Option.map (fun (x : Addr) => x.add (1 * 1)) (some (⟨gb, ob, none⟩ : Addr))) := ⟨_, rfl⟩
      rw [show (Kd.int IntKind.i64).sz = 1 from rfl, ← hA5] at hdrop
      rw [← hA5, List.length_cons] at hcut
      clear hA5
      have QD := Aside0.mk hdrop
      clear q0 q1 q2 g3 hQ0 hdrop
      have FN2 : Aside0 (spreadF tell g f (kidsF tell a (rd_T34 g a).f3 0 s l).2 (kidsF tell a (rd_T34 g a).f3 0 s l).1 = fin) := ⟨FN.out⟩
      have LE2 : Aside0 (l.length + μ s ≤ f ∧ f + 1 ≤ N0) := ⟨by have := LE.out; simp only [List.length_cons] at this; omega⟩
      have VL2 : Aside0 (∀ k ∈ l, 0 ≤ k ∧ k < (g.length : Int)) := ⟨fun k hk => VL.out k (List.mem_cons_of_mem _ hk)⟩
      have HX := Aside0.mk (show (rd_T34 g a).f3 = (rd_T34 g a).f3 from rfl)
      generalize hks : (rd_T34 g a).f3 = ks at *
      have HKS := Aside0.mk hks
      generalize hr9 : kidsF tell a ks 0 s l = r9 at *
      have HR9 := Aside0.mk hr9
      clear hks hr9 hmaxl FN LE VL HX
      go_wp2
      go_loopg [4, 24] ks.length (fun ig s4 s24 wi => ∃ (p : Nat) (s' : σ) (l' : List Int), p ≤ ks.length ∧ ks.length - p ≤ ig ∧ s24 = .int .i64 p ∧ Aside0 (Kd.Q (Kd.int .i64) 3 wi w.heap.size (fun _ => True) s4 l') ∧ Aside0 (R s' wi) ∧ Aside0 (w.grownBy wi (some M)) ∧ Aside0 (kidsF tell a (ks.drop p) p s' l' = r9) ∧ Aside0 (l'.length + μ s' ≤ f) ∧ Aside0 (∀ k ∈ l', 0 ≤ k ∧ k < (g.length : Int)))
      case atStart => exact ⟨0, s, l, Nat.zero_le _, by omega, rfl, ⟨QD.out⟩, ⟨RS.out⟩, ⟨GW.out⟩, ⟨by rw [List.drop_zero]; exact HR9.out⟩, ⟨LE2.out.1⟩, ⟨VL2.out⟩⟩
      case round =>
        clear q3 hcell hcut
        obtain ⟨p, s', l', hp, hpg, rfl, QI, RI, GI, FI, LI, VI⟩ := hrel
        by_cases hpl : p < ks.length
        · have hpz : (p : Int) < (ks.length : Int) := by omega
          have hC := Kd.C_below HG3.out (HBW.out _ GI.out)
          obtain ⟨ad3, e3, p3⟩ := Kd.at_int hC (p : Int) (by omega) hpz
          cases e3
          have hkp : ks[p]? = some (rd ks (p : Int)) := by rw [rd_get _ p hpl, List.getElem?_eq_getElem hpl]
          have HKP := Aside0.mk (show (rd_T34 g a).f3[p]? = some (rd ks (p : Int)) by rw [HKS.out]; exact hkp)
          have HKR := Aside0.mk (HK3.out (rd ks (p : Int)) (by rw [rd_get _ p hpl]; exact List.getElem_mem _))
          have HD := Aside0.mk (show ks.drop p = rd ks (p : Int) :: ks.drop (p + 1) by rw [rd_get _ p hpl]; exact List.drop_eq_getElem_cons hpl)
          rw [Int.toNat_natCast] at p3
          clear hC hkp
          generalize rd ks (p : Int) = k at *
          cases htl : tell s' a k p with
          | none =>
            have HC := Aside0.mk (HH.out.no s' _ a k p RI.out GI.out ha0 ha1 HKP.out htl)
            have HN := Aside0.mk (kidsF_none tell (ks := ks.drop (p + 1)) (l := l') htl)
            clear htl
            go_wp2_with fail
            refine HC.out.mono ?_
            rintro e w9 ⟨rfl, R9, G9⟩
            have R9 := Aside0.mk R9
            have G9 := Aside0.mk G9
            clear HC
            go_wp2
            go_roundg (ks.length - (p + 1))
            case measure => omega
            case rel =>
              exact ⟨p + 1, s', l', by omega, by omega, by go_num, ⟨Q_keepM QI.out G9.out hM⟩, ⟨R9.out⟩, ⟨GI.out.trans G9.out⟩, ⟨by have h := FI.out; rw [HD.out, HN.out] at h; exact h⟩, ⟨LI.out⟩, ⟨VI.out⟩⟩
          | some s2 =>
            have HC := Aside0.mk (HH.out.yes s' _ a k p s2 RI.out GI.out ha0 ha1 HKP.out htl)
            have HLS := Aside0.mk (HH.out.less s' _ a k p s2 RI.out ha0 ha1 HKP.out htl)
            have HN := Aside0.mk (kidsF_some tell (ks := ks.drop (p + 1)) (l := l') htl)
            clear htl
            go_wp2_with fail
            refine HC.out.mono ?_
            rintro e w9 ⟨rfl, R9, G9⟩
            have R9 := Aside0.mk R9
            have G9 := Aside0.mk G9
            have Q9 := Aside0.mk (Q_keepM QI.out G9.out hM)
            have G09 := Aside0.mk (GI.out.trans G9.out)
            clear HC
            go_wp2_with ((with_reducible refine gate_builtin (b := .append) (xs := #[.tmp 34, .tmp 36]) rfl ?_); at_builtin; go_loud (refine Kd.Q_append (Kd.int .i64) (w0 := w9) w.heap.size rfl (.tmp 34) (.tmp 36) 22 3 (.int .i64 0) 8 rfl Tryd.underlying22 info3 rfl (by decide) (by omega) u4 l' k [.int .i64 k] (fun _ => True) (fun _ => False) rfl rfl ?aP (fun _ hk => hk.elim) ?aF ?aO ?aB ?aS ?aL ?_); go_loud ((case aP => exact rfl); (case aB => exact Below.refl _ _); (case aF => exact (fun _ _ => trivial)); (case aO => exact Q9.out); (case aS => exact G09.out.size); (case aL => (have h1 := LI.out; have h2 := LE2.out.2; have h3 := HBIG.out; omega)); intro v5 w5 ho hb hg2 hat; have HO5 := Aside0.mk ho; have HG5 := Aside0.mk hg2; clear ho hb hg2 hat))
            go_roundg (ks.length - (p + 1))
            case measure => omega
            case rel =>
              have hrow : ∀ j, u4.ownBlock = some j → w.heap.size ≤ j := Kd.Q_base Q9.out
              exact ⟨p + 1, s2, l' ++ [k], by omega, by omega, by go_num, ⟨HO5.out⟩, ⟨HH.out.keep s2 w9 w5 _ R9.out HG5.out hrow⟩, ⟨grown_then G09.out HG5.out hrow⟩, ⟨by have h := FI.out; rw [HD.out, HN.out] at h; exact h⟩, ⟨by have h1 := LI.out; have h2 := HLS.out; simp only [List.length_append, List.length_cons, List.length_nil]; omega⟩, ⟨fun j hj => by (rcases List.mem_append.1 hj with h | h); exact VI.out j h; rw [List.mem_singleton.1 h]; exact HKR.out⟩⟩
        · have hpz : ¬ (p : Int) < (ks.length : Int) := by omega
          go_wp2
          go_roundg f
          case measure => omega
          case rel =>
            have h := FI.out
            rw [List.drop_eq_nil_iff.2 (by omega)] at h
            have h2 := FN2.out
            rw [← h] at h2
            exact ⟨s', l', ⟨QI.out⟩, ⟨RI.out⟩, ⟨GI.out⟩, ⟨h2⟩, ⟨LI.out, by have := LE2.out.2; omega⟩, ⟨VI.out⟩⟩
end
end Go.Proofs.YtpbkdeelkpjccaaDoor.G

namespace Go.Proofs.YtpbkdeelkpjccaaDoor.G
open Go.RowKit Go.Proofs.YtpbkdeelkpjccaaDoorW.PrintWords
set_option linter.unusedVariables false
set_option linter.unusedSimpArgs false
theorem infoWord : ∃ i, Tryd.prog.info? 44 = some i := Option.isSome_iff_exists.1 (by kernel_rfl)
theorem cellsWord : Tryd.prog.cellsOf 44 = 1 := by kernel_rfl
theorem part_word {a : List Nat} (ha : OkW a) {j : Nat} (hj : j < 8) (w : World) : (part 44 (setCells a) (j * 1)).run Tryd.prog w = .ok (wordV (a.getD j 0)) w := by
  have h := setCells_get (ws := a) (i := j) (by rw [ha.len]; exact hj)
  rw [Nat.mul_one]
  have hagg : (isAgg 44).run Tryd.prog w = .ok false w := by
    unfold isAgg
    rw [Sem.run_bind, run_underlying Tryd.underlying44 w]
    rfl
  unfold part
  rw [Sem.run_bind, hagg]
  simp only [Result.andThen_ok, Bool.false_eq_true, if_false, h]
  rfl
theorem eqItems_sets {a b : List Nat} (ha : OkW a) (hb : OkW b) (d : Nat) : ∀ (is : List Nat), (∀ j ∈ is, j < 8) → ∀ (w : World), (Op.eqItems (d + 1) 44 1 (setCells a) (setCells b) is).run Tryd.prog w = .ok (is.all fun j => a.getD j 0 == b.getD j 0) w
  | [], _, w => rfl
  | j :: is, h, w => by
    have hj := h j List.mem_cons_self
    rw [Op.eqItems]
    simp only [Sem.run_bind, part_word ha hj, part_word hb hj, Result.andThen_ok]
    unfold wordV
    rw [run_equalIn_int w d 44 .u64 .u64 _ _ Tryd.underlying44]
    simp only [Result.andThen_ok, List.all_cons]
    have e : ((a.getD j 0 : Nat) : Int) = (b.getD j 0 : Nat) ↔ a.getD j 0 = b.getD j 0 := by omega
    have ih := fun (_ : True) => eqItems_sets ha hb d is (fun i hi => h i (List.mem_cons_of_mem _ hi)) w
    generalize a.getD j 0 = x at e ⊢
    generalize b.getD j 0 = y at e ⊢
    by_cases hq : x = y
    · subst hq
      simp only [beq_self_eq_true, Bool.not_true, Bool.false_eq_true, if_false, Bool.true_and]
      exact ih trivial
    · rw [beq_eq_false_iff_ne.2 (fun h => hq (e.1 h)), beq_eq_false_iff_ne.2 hq]
      simp
set_option maxRecDepth 20000 in
theorem eq_sets {a b : List Nat} (ha : OkW a) (hb : OkW b) (w : World) : (Op.equalIn 10000 67 (.agg (setCells a)) (.agg (setCells b))).run Tryd.prog w = .ok (decide (a = b)) w := by
  obtain ⟨i, hi⟩ := infoWord
  rw [show (10000 : Nat) = 9999 + 1 from rfl, run_equalIn_array w 9999 (setCells a) (setCells b) Tryd.underlying67 hi, cellsWord, eqItems_sets ha hb 9998 _ (fun j hj => List.mem_range.1 hj) w]
  congr 1
  rw [Bool.eq_iff_iff]
  simp only [List.all_eq_true, List.mem_range, beq_iff_eq, decide_eq_true_eq]
  constructor
  · intro h
    apply List.ext_getElem
    · rw [ha.len, hb.len]
    · intro j h1 h2
      have := h j (by rw [ha.len] at h1; exact h1)
      rwa [getD_lt _ _ h1, getD_lt _ _ h2] at this
  · rintro rfl j _; rfl
end Go.Proofs.YtpbkdeelkpjccaaDoor.G
