/- Merged by merge.py out of: Hlattice, GlatticeMay, Ppolicy, Hpolicy. -/
import Derived.Test.YtpbkdeelkpjccaaDoorM12
import Derived.Test.YtpbkdeelkpjccaaDoorM07
import Derived.StringKeys
import Derived.Test.YtpbkdeelkpjccaaDoorM03
import Derived.Test.YtpbkdeelkpjccaaDoorM23
import Derived.Test.YtpbkdeelkpjccaaDoorM19
import Derived.Test.YtpbkdeelkpjccaaDoorM21
import Derived.Test.YtpbkdeelkpjccaaDoorM11
import Derived.Test.YtpbkdeelkpjccaaDoorM15
namespace Go.Proofs.YtpbkdeelkpjccaaDoor.G
open Go.RowKit Go.Proofs.YtpbkdeelkpjccaaDoorW.PrintWords Go.Maps Go.WideMaps
set_option linter.unusedVariables false
set_option linter.unusedSimpArgs false
def namesFrom : List ByteArray → List (List UInt8) → Bool
  | [], _ => true
  | s :: r, seen => if nameB s = false then false else if s.data.toList ∈ seen then false else namesFrom r (s.data.toList :: seen)
def namesB (l : List ByteArray) : Bool := namesFrom l []
theorem namesFrom_bad {s : ByteArray} {r : List ByteArray} {seen : List (List UInt8)} (h : nameB s = false) : namesFrom (s :: r) seen = false := by simp [namesFrom, h]
theorem namesFrom_seen {s : ByteArray} {r : List ByteArray} {seen : List (List UInt8)} (h : nameB s = true) (h1 : s.data.toList ∈ seen) : namesFrom (s :: r) seen = false := by simp [namesFrom, h, h1]
theorem namesFrom_new {s : ByteArray} {r : List ByteArray} {seen : List (List UInt8)} (h : nameB s = true) (h1 : s.data.toList ∉ seen) : namesFrom (s :: r) seen = namesFrom r (s.data.toList :: seen) := by simp [namesFrom, h, h1]
def strOf (p : List UInt8) : Value := .string ⟨p.toArray⟩
theorem strOf_data (s : ByteArray) : strOf s.data.toList = .string s := rfl
theorem mem_strs (l : List (List UInt8)) (s : ByteArray) : (Value.string s) ∈ l.map strOf ↔ s.data.toList ∈ l := by
  rw [List.mem_map]
  constructor
  · rintro ⟨p, hp, e⟩; injection e with e; rw [← e]; exact hp
  · intro h; exact ⟨_, h, rfl⟩
theorem keyedStr : Keyed Tryd.prog 9 := string_keyed Tryd.underlying9
theorem keyStr (s : ByteArray) (hs : s.size ≤ maxLen) : keyOf Tryd.prog 9 (.string s) = some (.string s.data.toList) := keyOf_string_mk Tryd.underlying9 hs
set_option maxHeartbeats 4000000 in
set_option maxRecDepth 100000 in
theorem names_any (l : List ByteArray) (A : Option Addr) (c : Nat) (w : World) (hr : Kd.string.C w A l.length l) (hfit : ∀ s ∈ l, s.size ≤ maxLen) :
    Calls Tryd.prog 50 #[.slice A l.length c] w fun e w' => e = .returned (.bool (namesB l)) ∧ Below w.heap.size w w' := by
  have HX := Aside0.mk hr
  have HF := Aside0.mk hfit
  have hbig : l.length ≤ 9223372036854775807 := hr.2.1
  have HNB := Aside0.mk (show namesFrom l [] = namesB l from rfl)
  generalize namesB l = R at HNB ⊢
  clear hr hfit
  have hmm := @run_makeMap Tryd.prog
  have HM0 := Aside0.mk (HasMap.made w Tryd.prog 9)
  go_enter Tryd.func50, Tryd.ntmps50
  go_wp2
  go_loopg [9] l.length (fun gg s9 wr => ∃ (kk : Nat) (seen : List (List UInt8)) (n : Nat), kk ≤ l.length ∧ l.length - kk ≤ gg ∧ s9 = .int .i64 kk ∧ Aside0 (Below w.heap.size w wr) ∧ Aside0 (namesFrom (l.drop kk) seen = R) ∧ Aside0 (HasMap Tryd.prog 9 wr w.heap.size n (cntOf (seen.map strOf))))
  case atStart => exact ⟨0, [], 0, Nat.zero_le _, by omega, rfl, ⟨below_alloc (Below.refl _ w) _⟩, ⟨HNB.out⟩, ⟨by rw [List.map_nil, cntOf_nil]; exact HM0.out⟩⟩
  case round =>
    obtain ⟨kk, seen, n, hkk, hg, rfl, BW, HD, HM⟩ := hrel
    by_cases hlt : kk < l.length
    · have hltz : (kk : Int) < (l.length : Int) := by omega
      obtain ⟨ad, e, q0⟩ := Kd.at_string HX.out (kk : Int) (by omega) hltz
      cases e
      rw [Int.toNat_natCast] at q0
      replace q0 := (BW.out.cell (World.block_lt_of_cell? w _ q0)).trans q0
      have hrd : rdOf ByteArray.empty l (kk : Int) = l[kk] := by unfold rdOf; rw [Int.toNat_natCast, getD_lt _ _ hlt]
      have HDr := Aside0.mk (show l.drop kk = rdOf ByteArray.empty l (kk : Int) :: l.drop (kk + 1) by rw [hrd, List.drop_eq_getElem_cons hlt])
      have HSF := Aside0.mk (HF.out (rdOf ByteArray.empty l (kk : Int)) (by rw [hrd]; exact List.getElem_mem _))
      clear hrd
      generalize rdOf ByteArray.empty l (kk : Int) = s at q0 HDr HSF
      have KK := Aside0.mk (keyStr s HSF.out)
      have hname := fun W => name_any s W
      cases hb : nameB s with
      | false =>
        rw [hb] at hname
        have HB := Aside0.mk hb
        clear hb
        obtain ⟨v0, hv0⟩ : ∃ v0 : Int, (cntOf (seen.map strOf) (.string s)).getD 0 = v0 := ⟨_, rfl⟩
        have HV0 := Aside0.mk hv0
        clear hv0
        go_wp2_with (first
          | (at_lookup; refine wpList_lookV rfl _ _ 127 rfl 9 3 keyedStr Tryd.underlying127 (zeroInt _) w.heap.size n (cntOf (seen.map strOf)) rfl ?o1 (.string s) _ rfl KK.out v0 HV0.out ?_; (case o1 => exact HM.out))
          | (at_mapUpdate; refine wpList_upd rfl _ _ _ 127 rfl 9 3 keyedStr Tryd.underlying127 w.heap.size n (cntOf (seen.map strOf)) rfl ?o1 (.string s) _ _ rfl rfl KK.out ?_; (case o1 => exact HM.out); intro w6 hm6 hg6; have BI6 := Aside0.mk (pw_below_grown BW.out (some w.heap.size) (by have := BW.out.size; simpa using this) hg6 (by rintro b ⟨⟩; omega)); clear hm6 hg6)
          | (go_at_call 73; refine (hname _).mono ?_; rintro e w7 ⟨rfl, hb7⟩))
        go_ret
        refine ⟨?_, below_then BI6.out BI6.out.size hb7⟩
        have hd := HD.out
        rw [HDr.out, namesFrom_bad HB.out] at hd
        rw [← hd]; rfl
      | true =>
        rw [hb] at hname
        have HB := Aside0.mk hb
        clear hb
        by_cases hs : s.data.toList ∈ seen
        · have HS := Aside0.mk hs
          clear hs
          have hc1 := Aside0.mk (cntOf_in ((mem_strs seen s).2 HS.out))
          go_wp2_with (first
            | (at_lookup; refine wpList_lookV rfl _ _ 127 rfl 9 3 keyedStr Tryd.underlying127 (zeroInt _) w.heap.size n (cntOf (seen.map strOf)) rfl ?o1 (.string s) _ rfl KK.out 1 hc1.out ?_; (case o1 => exact HM.out))
            | (at_mapUpdate; refine wpList_upd rfl _ _ _ 127 rfl 9 3 keyedStr Tryd.underlying127 w.heap.size n (cntOf (seen.map strOf)) rfl ?o1 (.string s) 2 _ rfl rfl KK.out ?_; (case o1 => exact HM.out); intro w6 hm6 hg6; have BI6 := Aside0.mk (pw_below_grown BW.out (some w.heap.size) (by have := BW.out.size; simpa using this) hg6 (by rintro b ⟨⟩; omega)); have M6 := Aside0.mk hm6; clear hm6 hg6)
            | (go_at_call 73; refine (hname _).mono ?_; rintro e w7 ⟨rfl, hb7⟩; have M7 := Aside0.mk (M6.out.below hb7))
            | (at_lookup; refine gate_guard (by rfl) ?_; dsimp only; refine wpList_lookV rfl _ _ 127 rfl 9 3 keyedStr Tryd.underlying127 (zeroInt _) w.heap.size (n + 1) (upd (cntOf (seen.map strOf)) (.string s) 2) rfl ?o1 (.string s) _ rfl KK.out 2 (by rw [upd_same]; rfl) ?_; (case o1 => exact M7.out)))
          go_ret
          refine ⟨?_, below_then BI6.out BI6.out.size hb7⟩
          have hd := HD.out
          rw [HDr.out, namesFrom_seen HB.out HS.out] at hd
          rw [← hd]; rfl
        · have HS := Aside0.mk hs
          clear hs
          have hc1 := Aside0.mk (cntOf_no (fun h => HS.out ((mem_strs seen s).1 h)))
          go_wp2_with (first
            | (at_lookup; refine wpList_lookV rfl _ _ 127 rfl 9 3 keyedStr Tryd.underlying127 (zeroInt _) w.heap.size n (cntOf (seen.map strOf)) rfl ?o1 (.string s) _ rfl KK.out 0 hc1.out ?_; (case o1 => exact HM.out))
            | (at_mapUpdate; refine wpList_upd rfl _ _ _ 127 rfl 9 3 keyedStr Tryd.underlying127 w.heap.size n (cntOf (seen.map strOf)) rfl ?o1 (.string s) 1 _ rfl rfl KK.out ?_; (case o1 => exact HM.out); intro w6 hm6 hg6; have BI6 := Aside0.mk (pw_below_grown BW.out (some w.heap.size) (by have := BW.out.size; simpa using this) hg6 (by rintro b ⟨⟩; omega)); have M6 := Aside0.mk hm6; clear hm6 hg6)
            | (go_at_call 73; refine (hname _).mono ?_; rintro e w7 ⟨rfl, hb7⟩; have M7 := Aside0.mk (M6.out.below hb7))
            | (at_lookup; refine gate_guard (by rfl) ?_; dsimp only; refine wpList_lookV rfl _ _ 127 rfl 9 3 keyedStr Tryd.underlying127 (zeroInt _) w.heap.size (n + 1) (upd (cntOf (seen.map strOf)) (.string s) 1) rfl ?o1 (.string s) _ rfl KK.out 1 (by rw [upd_same]; rfl) ?_; (case o1 => exact M7.out)))
          go_roundg (l.length - (kk + 1))
          case measure => omega
          case rel => exact ⟨kk + 1, s.data.toList :: seen, n + 1, by omega, by omega, by go_num, ⟨below_then BI6.out BI6.out.size hb7⟩, ⟨by rw [← HD.out, HDr.out, namesFrom_new HB.out HS.out]⟩, ⟨by rw [List.map_cons, strOf_data, ← cntOf_upd]; exact M7.out⟩⟩
    · have hltz : decide ((kk : Int) < (l.length : Int)) = false := decide_eq_false (by omega)
      have HK := Aside0.mk (show kk = l.length by omega)
      go_wp2
      go_ret
      refine ⟨?_, BW.out⟩
      have hd := HD.out
      rw [HK.out, List.drop_length] at hd
      rw [← hd]; rfl
def fitS (l : List ByteArray) : Bool := l.all fun s => decide (s.size ≤ maxLen)
def lattice_right.f (l0 : List ByteArray) : Option Bool := if fitS l0 = true then some (namesB l0) else none
theorem lattice_right.calls (A0 : Option Addr) (c0 : Nat) (l0 : List ByteArray) (r : Bool) (w : World) (hr0 : Kd.string.C w A0 l0.length l0) (hc0 : l0.length ≤ c0) (h : lattice_right.f l0 = some r) :
    Calls Tryd.prog 50 #[.slice A0 l0.length c0] w fun e w' => e = .returned (.bool r) ∧ Below w.heap.size w w' := by
  unfold lattice_right.f at h
  split at h
  · rename_i hs; obtain rfl := Option.some.inj h
    exact names_any l0 A0 c0 w hr0 (fun s hs' => by have := List.all_eq_true.1 hs s hs'; simpa using this)
  · cases h
end Go.Proofs.YtpbkdeelkpjccaaDoor.G

-- Laid by xprint.py (this work's own driver of the kit's printer).
namespace Go.Proofs.YtpbkdeelkpjccaaDoor.G
open Go.RowKit Go.Proofs.YtpbkdeelkpjccaaDoorW.PrintWords Go.Proofs.YtpbkdeelkpjccaaDoorW.PrintLast Go.Proofs.YtpbkdeelkpjccaaDoorW.PrintMore
attribute [local go_sem] max2_int min2_int max_two min_two max_three min_three max_four min_four   -- for this text's walks alone
set_option linter.unusedVariables false
set_option linter.unusedSimpArgs false
def lattice_May.f (l0_0 : List ByteArray) (l0_1 : List ByteArray) : Option (Bool) := if (l0_0.length : Int) ≥ 1 then (if (l0_0.length : Int) ≤ 10 then (if (l0_1.length : Int) ≤ 64 then ((lattice_right.f l0_0).bind fun t2 => (if t2 = true then ((lattice_right.f l0_1).bind fun t3 => (some t3)) else (some false))) else (some false)) else (some false)) else (some false)
set_option maxHeartbeats 8000000 in
set_option maxRecDepth 100000 in
theorem lattice_May.calls (A0_0 : Option Addr) (c0_0 : Nat) (l0_0 : List ByteArray) (A0_1 : Option Addr) (c0_1 : Nat) (l0_1 : List ByteArray) (r : Bool) (w : World) (hr0_0 : Kd.C Kd.string w A0_0 l0_0.length l0_0) (hc0_0 : l0_0.length ≤ c0_0) (hr0_1 : Kd.C Kd.string w A0_1 l0_1.length l0_1) (hc0_1 : l0_1.length ≤ c0_1) (h : lattice_May.f l0_0 l0_1 = some r) :
    Calls Tryd.prog 23 #[.agg #[.slice A0_0 l0_0.length c0_0, .slice A0_1 l0_1.length c0_1]] w fun e w' => e = .returned (.bool r) ∧ Below w.heap.size w w' := by
  have hu38 := Tryd.underlying38
  have HR0_0 := Aside0.mk hr0_0
  have HC0_0 := Aside0.mk hc0_0
  clear hr0_0 hc0_0
  have HR0_1 := Aside0.mk hr0_1
  have HC0_1 := Aside0.mk hc0_1
  clear hr0_1 hc0_1
  have HB := Aside0.mk (Below.refl w.heap.size w)
  have H : (if (l0_0.length : Int) ≥ 1 then (if (l0_0.length : Int) ≤ 10 then (if (l0_1.length : Int) ≤ 64 then ((lattice_right.f l0_0).bind fun t2 => (if t2 = true then ((lattice_right.f l0_1).bind fun t3 => (some t3)) else (some false))) else (some false)) else (some false)) else (some false)) = some r := h
  clear h
  by_cases c2 : (l0_0.length : Int) ≥ 1
  · rw [if_pos c2] at H
    have c2b0 : decide (1 ≤ (l0_0.length : Int)) = true := decide_eq_true c2
    have c2b1 : decide (1 ≤ l0_0.length) = true := decide_eq_true (by omega)
    clear c2
    by_cases c3 : (l0_0.length : Int) ≤ 10
    · rw [if_pos c3] at H
      have c3b0 : decide ((l0_0.length : Int) ≤ 10) = true := decide_eq_true c3
      have c3b1 : decide (l0_0.length ≤ 10) = true := decide_eq_true (by omega)
      clear c3
      by_cases c4 : (l0_1.length : Int) ≤ 64
      · rw [if_pos c4] at H
        have c4b0 : decide ((l0_1.length : Int) ≤ 64) = true := decide_eq_true c4
        have c4b1 : decide (l0_1.length ≤ 64) = true := decide_eq_true (by omega)
        clear c4
        replace H := Option.bind_eq_some_iff.mp H
        obtain ⟨t2, A50, H⟩ := H
        replace H : (if t2 = true then ((lattice_right.f l0_1).bind fun t3 => (some t3)) else (some false)) = some r := H
        have A5 := Aside0.mk A50
        clear A50
        by_cases c6 : t2 = true
        · subst c6
          have H1 : ((lattice_right.f l0_1).bind fun t3 => (some t3)) = some r := by rw [if_pos rfl] at H; exact H
          clear H
          have H := H1
          clear H1
          replace H := Option.bind_eq_some_iff.mp H
          obtain ⟨t3, A70, H⟩ := H
          replace H : (some t3) = some r := H
          have A7 := Aside0.mk A70
          clear A70
          obtain rfl := Option.some.inj H
          go_enter Tryd.func23, Tryd.ntmps23
          go_wp2_with (first | ((with_reducible refine gate_dst (N := 1) rfl ?_); (try (refine gate_guard (by rfl) ?_; dsimp only)); refine box_event ?hg (N := 1) ?hd (cs := #[.slice A0_0 l0_0.length c0_0, .slice A0_1 l0_1.length c0_1]) (t := 38) ?hr ?_; (case hd => rfl); (case hg => rfl); (case hr => first | (go_simp; done) | (go_simp; rfl)); intro gb1 hg w8 hbox hb; have n0_ := Aside0.mk (below_step (by repeat (first | (with_reducible first | exact HB.out | apply below_alloc | apply pw_below_drewN | apply below_drew1) | exact HB.out)) hb); have n1_ := Aside0.mk (hbox); have n2_ := Aside0.mk ((by rw [hg]; exact (below_size (by repeat (first | (with_reducible first | exact HB.out | apply below_alloc | apply pw_below_drewN | apply below_drew1) | exact HB.out))) : w.heap.size ≤ gb1)); have n3_ := Aside0.mk ((by rw [hg]; exact (below_size (by repeat (first | (with_reducible first | exact HB.out | apply below_alloc | apply pw_below_drewN | apply below_drew1) | exact HB.out))) : w.heap.size ≤ gb1)); clear HB; have HB := n0_; have BK1 := n1_; have GW1 := n2_; have GE1 := n3_; clear n0_ n1_ n2_ n3_; clear hb hbox hg; have hcz9_0 : w8.cell? ⟨gb1, 0, none⟩ = some (.slice A0_0 l0_0.length c0_0) := (blk_cell BK1.out 0).trans rfl; have hcz9_1 : w8.cell? ⟨gb1, 1, none⟩ = some (.slice A0_1 l0_1.length c0_1) := (blk_cell BK1.out 1).trans rfl; have hfz9_0 := blk_frozen BK1.out 0; have hfz9_1 := blk_frozen BK1.out 1) | (go_at_call 50; (with_reducible refine (lattice_right.calls _ _ l0_0 true _ ?side1 ?side2 A5.out).mono ?_); (case side1 => repeat (first | exact (Kd.C_below HR0_0.out HB.out) | (with_reducible refine Kd.C_alloc ?_ _) | (with_reducible refine Kd.C_drewN ?_ _) | (with_reducible refine Kd.C_drew ?_))); (case side2 => exact HC0_0.out); rintro e w10 ⟨rfl, hb⟩; have n0_ := Aside0.mk (blk_below (g := gb1) (o := .cells #[.slice A0_0 l0_0.length c0_0, .slice A0_1 l0_1.length c0_1] 38 (0, 0)) (by (with_reducible repeat (first | refine blk_drewN ?_ _ | refine blk_drew ?_ | refine blk_alloc ?_ _)); exact BK1.out) hb); have n1_ := Aside0.mk (below_step (by repeat (first | (with_reducible first | exact HB.out | apply below_alloc | apply pw_below_drewN | apply below_drew1 | refine below_set ?_ GE1.out) | exact HB.out)) hb); clear BK1; clear HB; have BK1 := n0_; have HB := n1_; clear n0_ n1_; (try clear hb); (try clear hb2); (try clear hk); (try clear hi); have hcz11_0 : w10.cell? ⟨gb1, 0, none⟩ = some (.slice A0_0 l0_0.length c0_0) := (blk_cell BK1.out 0).trans rfl; have hcz11_1 : w10.cell? ⟨gb1, 1, none⟩ = some (.slice A0_1 l0_1.length c0_1) := (blk_cell BK1.out 1).trans rfl; have hfz11_0 := blk_frozen BK1.out 0; have hfz11_1 := blk_frozen BK1.out 1) | (go_at_call 50; (with_reducible refine (lattice_right.calls _ _ l0_1 t3 _ ?side1 ?side2 A7.out).mono ?_); (case side1 => repeat (first | exact (Kd.C_below HR0_1.out HB.out) | (with_reducible refine Kd.C_alloc ?_ _) | (with_reducible refine Kd.C_drewN ?_ _) | (with_reducible refine Kd.C_drew ?_))); (case side2 => exact HC0_1.out); rintro e w12 ⟨rfl, hb⟩; have n0_ := Aside0.mk (blk_below (g := gb1) (o := .cells #[.slice A0_0 l0_0.length c0_0, .slice A0_1 l0_1.length c0_1] 38 (0, 0)) (by (with_reducible repeat (first | refine blk_drewN ?_ _ | refine blk_drew ?_ | refine blk_alloc ?_ _)); exact BK1.out) hb); have n1_ := Aside0.mk (below_step (by repeat (first | (with_reducible first | exact HB.out | apply below_alloc | apply pw_below_drewN | apply below_drew1 | refine below_set ?_ GE1.out) | exact HB.out)) hb); clear BK1; clear HB; have BK1 := n0_; have HB := n1_; clear n0_ n1_; (try clear hb); (try clear hb2); (try clear hk); (try clear hi)))
          go_ret
          exact ⟨by first | rfl | (simp [errW_none, errW_some] <;> rfl) | (simp [*, errW_none, errW_some] <;> rfl), by repeat (first | (with_reducible first | exact HB.out | apply below_alloc | apply pw_below_drewN | apply below_drew1 | refine below_set ?_ GE1.out) | exact HB.out)⟩
        · replace c6 := Bool.eq_false_iff.mpr c6
          subst c6
          have H1 : (some false) = some r := by rw [if_neg (show ¬ (false = true) by decide)] at H; exact H
          clear H
          have H := H1
          clear H1
          obtain rfl := Option.some.inj H
          go_enter Tryd.func23, Tryd.ntmps23
          go_wp2_with (first | ((with_reducible refine gate_dst (N := 1) rfl ?_); (try (refine gate_guard (by rfl) ?_; dsimp only)); refine box_event ?hg (N := 1) ?hd (cs := #[.slice A0_0 l0_0.length c0_0, .slice A0_1 l0_1.length c0_1]) (t := 38) ?hr ?_; (case hd => rfl); (case hg => rfl); (case hr => first | (go_simp; done) | (go_simp; rfl)); intro gb1 hg w13 hbox hb; have n0_ := Aside0.mk (below_step (by repeat (first | (with_reducible first | exact HB.out | apply below_alloc | apply pw_below_drewN | apply below_drew1) | exact HB.out)) hb); have n1_ := Aside0.mk (hbox); have n2_ := Aside0.mk ((by rw [hg]; exact (below_size (by repeat (first | (with_reducible first | exact HB.out | apply below_alloc | apply pw_below_drewN | apply below_drew1) | exact HB.out))) : w.heap.size ≤ gb1)); have n3_ := Aside0.mk ((by rw [hg]; exact (below_size (by repeat (first | (with_reducible first | exact HB.out | apply below_alloc | apply pw_below_drewN | apply below_drew1) | exact HB.out))) : w.heap.size ≤ gb1)); clear HB; have HB := n0_; have BK1 := n1_; have GW1 := n2_; have GE1 := n3_; clear n0_ n1_ n2_ n3_; clear hb hbox hg; have hcz14_0 : w13.cell? ⟨gb1, 0, none⟩ = some (.slice A0_0 l0_0.length c0_0) := (blk_cell BK1.out 0).trans rfl; have hcz14_1 : w13.cell? ⟨gb1, 1, none⟩ = some (.slice A0_1 l0_1.length c0_1) := (blk_cell BK1.out 1).trans rfl; have hfz14_0 := blk_frozen BK1.out 0; have hfz14_1 := blk_frozen BK1.out 1) | (go_at_call 50; (with_reducible refine (lattice_right.calls _ _ l0_0 false _ ?side1 ?side2 A5.out).mono ?_); (case side1 => repeat (first | exact (Kd.C_below HR0_0.out HB.out) | (with_reducible refine Kd.C_alloc ?_ _) | (with_reducible refine Kd.C_drewN ?_ _) | (with_reducible refine Kd.C_drew ?_))); (case side2 => exact HC0_0.out); rintro e w15 ⟨rfl, hb⟩; have n0_ := Aside0.mk (blk_below (g := gb1) (o := .cells #[.slice A0_0 l0_0.length c0_0, .slice A0_1 l0_1.length c0_1] 38 (0, 0)) (by (with_reducible repeat (first | refine blk_drewN ?_ _ | refine blk_drew ?_ | refine blk_alloc ?_ _)); exact BK1.out) hb); have n1_ := Aside0.mk (below_step (by repeat (first | (with_reducible first | exact HB.out | apply below_alloc | apply pw_below_drewN | apply below_drew1 | refine below_set ?_ GE1.out) | exact HB.out)) hb); clear BK1; clear HB; have BK1 := n0_; have HB := n1_; clear n0_ n1_; (try clear hb); (try clear hb2); (try clear hk); (try clear hi)))
          go_ret
          exact ⟨by first | rfl | (simp [errW_none, errW_some] <;> rfl) | (simp [*, errW_none, errW_some] <;> rfl), by repeat (first | (with_reducible first | exact HB.out | apply below_alloc | apply pw_below_drewN | apply below_drew1 | refine below_set ?_ GE1.out) | exact HB.out)⟩
      · rw [if_neg c4] at H
        have c4b0 : decide ((l0_1.length : Int) ≤ 64) = false := decide_eq_false c4
        have c4b1 : decide (l0_1.length ≤ 64) = false := decide_eq_false (by omega)
        clear c4
        obtain rfl := Option.some.inj H
        go_enter Tryd.func23, Tryd.ntmps23
        go_wp2_with (first | ((with_reducible refine gate_dst (N := 1) rfl ?_); (try (refine gate_guard (by rfl) ?_; dsimp only)); refine box_event ?hg (N := 1) ?hd (cs := #[.slice A0_0 l0_0.length c0_0, .slice A0_1 l0_1.length c0_1]) (t := 38) ?hr ?_; (case hd => rfl); (case hg => rfl); (case hr => first | (go_simp; done) | (go_simp; rfl)); intro gb1 hg w16 hbox hb; have n0_ := Aside0.mk (below_step (by repeat (first | (with_reducible first | exact HB.out | apply below_alloc | apply pw_below_drewN | apply below_drew1) | exact HB.out)) hb); have n1_ := Aside0.mk (hbox); have n2_ := Aside0.mk ((by rw [hg]; exact (below_size (by repeat (first | (with_reducible first | exact HB.out | apply below_alloc | apply pw_below_drewN | apply below_drew1) | exact HB.out))) : w.heap.size ≤ gb1)); have n3_ := Aside0.mk ((by rw [hg]; exact (below_size (by repeat (first | (with_reducible first | exact HB.out | apply below_alloc | apply pw_below_drewN | apply below_drew1) | exact HB.out))) : w.heap.size ≤ gb1)); clear HB; have HB := n0_; have BK1 := n1_; have GW1 := n2_; have GE1 := n3_; clear n0_ n1_ n2_ n3_; clear hb hbox hg; have hcz17_0 : w16.cell? ⟨gb1, 0, none⟩ = some (.slice A0_0 l0_0.length c0_0) := (blk_cell BK1.out 0).trans rfl; have hcz17_1 : w16.cell? ⟨gb1, 1, none⟩ = some (.slice A0_1 l0_1.length c0_1) := (blk_cell BK1.out 1).trans rfl; have hfz17_0 := blk_frozen BK1.out 0; have hfz17_1 := blk_frozen BK1.out 1))
        go_ret
        exact ⟨by first | rfl | (simp [errW_none, errW_some] <;> rfl) | (simp [*, errW_none, errW_some] <;> rfl), by repeat (first | (with_reducible first | exact HB.out | apply below_alloc | apply pw_below_drewN | apply below_drew1 | refine below_set ?_ GE1.out) | exact HB.out)⟩
    · rw [if_neg c3] at H
      have c3b0 : decide ((l0_0.length : Int) ≤ 10) = false := decide_eq_false c3
      have c3b1 : decide (l0_0.length ≤ 10) = false := decide_eq_false (by omega)
      clear c3
      obtain rfl := Option.some.inj H
      go_enter Tryd.func23, Tryd.ntmps23
      go_wp2_with (first | ((with_reducible refine gate_dst (N := 1) rfl ?_); (try (refine gate_guard (by rfl) ?_; dsimp only)); refine box_event ?hg (N := 1) ?hd (cs := #[.slice A0_0 l0_0.length c0_0, .slice A0_1 l0_1.length c0_1]) (t := 38) ?hr ?_; (case hd => rfl); (case hg => rfl); (case hr => first | (go_simp; done) | (go_simp; rfl)); intro gb1 hg w18 hbox hb; have n0_ := Aside0.mk (below_step (by repeat (first | (with_reducible first | exact HB.out | apply below_alloc | apply pw_below_drewN | apply below_drew1) | exact HB.out)) hb); have n1_ := Aside0.mk (hbox); have n2_ := Aside0.mk ((by rw [hg]; exact (below_size (by repeat (first | (with_reducible first | exact HB.out | apply below_alloc | apply pw_below_drewN | apply below_drew1) | exact HB.out))) : w.heap.size ≤ gb1)); have n3_ := Aside0.mk ((by rw [hg]; exact (below_size (by repeat (first | (with_reducible first | exact HB.out | apply below_alloc | apply pw_below_drewN | apply below_drew1) | exact HB.out))) : w.heap.size ≤ gb1)); clear HB; have HB := n0_; have BK1 := n1_; have GW1 := n2_; have GE1 := n3_; clear n0_ n1_ n2_ n3_; clear hb hbox hg; have hcz19_0 : w18.cell? ⟨gb1, 0, none⟩ = some (.slice A0_0 l0_0.length c0_0) := (blk_cell BK1.out 0).trans rfl; have hcz19_1 : w18.cell? ⟨gb1, 1, none⟩ = some (.slice A0_1 l0_1.length c0_1) := (blk_cell BK1.out 1).trans rfl; have hfz19_0 := blk_frozen BK1.out 0; have hfz19_1 := blk_frozen BK1.out 1))
      go_ret
      exact ⟨by first | rfl | (simp [errW_none, errW_some] <;> rfl) | (simp [*, errW_none, errW_some] <;> rfl), by repeat (first | (with_reducible first | exact HB.out | apply below_alloc | apply pw_below_drewN | apply below_drew1 | refine below_set ?_ GE1.out) | exact HB.out)⟩
  · rw [if_neg c2] at H
    have c2b0 : decide (1 ≤ (l0_0.length : Int)) = false := decide_eq_false c2
    have c2b1 : decide (1 ≤ l0_0.length) = false := decide_eq_false (by omega)
    clear c2
    obtain rfl := Option.some.inj H
    go_enter Tryd.func23, Tryd.ntmps23
    go_wp2_with (first | ((with_reducible refine gate_dst (N := 1) rfl ?_); (try (refine gate_guard (by rfl) ?_; dsimp only)); refine box_event ?hg (N := 1) ?hd (cs := #[.slice A0_0 l0_0.length c0_0, .slice A0_1 l0_1.length c0_1]) (t := 38) ?hr ?_; (case hd => rfl); (case hg => rfl); (case hr => first | (go_simp; done) | (go_simp; rfl)); intro gb1 hg w20 hbox hb; have n0_ := Aside0.mk (below_step (by repeat (first | (with_reducible first | exact HB.out | apply below_alloc | apply pw_below_drewN | apply below_drew1) | exact HB.out)) hb); have n1_ := Aside0.mk (hbox); have n2_ := Aside0.mk ((by rw [hg]; exact (below_size (by repeat (first | (with_reducible first | exact HB.out | apply below_alloc | apply pw_below_drewN | apply below_drew1) | exact HB.out))) : w.heap.size ≤ gb1)); have n3_ := Aside0.mk ((by rw [hg]; exact (below_size (by repeat (first | (with_reducible first | exact HB.out | apply below_alloc | apply pw_below_drewN | apply below_drew1) | exact HB.out))) : w.heap.size ≤ gb1)); clear HB; have HB := n0_; have BK1 := n1_; have GW1 := n2_; have GE1 := n3_; clear n0_ n1_ n2_ n3_; clear hb hbox hg; have hcz21_0 : w20.cell? ⟨gb1, 0, none⟩ = some (.slice A0_0 l0_0.length c0_0) := (blk_cell BK1.out 0).trans rfl; have hcz21_1 : w20.cell? ⟨gb1, 1, none⟩ = some (.slice A0_1 l0_1.length c0_1) := (blk_cell BK1.out 1).trans rfl; have hfz21_0 := blk_frozen BK1.out 0; have hfz21_1 := blk_frozen BK1.out 1))
    go_ret
    exact ⟨by first | rfl | (simp [errW_none, errW_some] <;> rfl) | (simp [*, errW_none, errW_some] <;> rfl), by repeat (first | (with_reducible first | exact HB.out | apply below_alloc | apply pw_below_drewN | apply below_drew1 | refine below_set ?_ GE1.out) | exact HB.out)⟩
end Go.Proofs.YtpbkdeelkpjccaaDoor.G

namespace Go.Proofs.YtpbkdeelkpjccaaDoor.G
open Go.RowKit Go.Proofs.YtpbkdeelkpjccaaDoorW.PrintWords
set_option linter.unusedVariables false
set_option linter.unusedSimpArgs false
def mayB (lev cats : List ByteArray) : Bool := decide (1 ≤ lev.length) && decide (lev.length ≤ 10) && decide (cats.length ≤ 64) && namesB lev && namesB cats
theorem may_f (lev cats : List ByteArray) (h1 : fitS lev = true) (h2 : fitS cats = true) : lattice_May.f lev cats = some (mayB lev cats) := by
  unfold lattice_May.f mayB lattice_right.f
  rw [if_pos h1, if_pos h2]
  simp only [Option.bind_some]
  by_cases a : 1 ≤ lev.length
  · rw [if_pos (by omega), decide_eq_true a]
    by_cases b : lev.length ≤ 10
    · rw [if_pos (by omega), decide_eq_true b]
      by_cases c : cats.length ≤ 64
      · rw [if_pos (by omega), decide_eq_true c]
        cases namesB lev <;> simp
      · rw [if_neg (by omega), decide_eq_false c]; rfl
    · rw [if_neg (by omega), decide_eq_false b]; rfl
  · rw [if_neg (by omega), decide_eq_false a]; rfl
def labB (l : S46) (a b : Nat) : Bool := decide (0 ≤ l.f0) && decide (l.f0 < (a : Int)) && decide (Lib.bitLen l.f1.toNat ≤ (b : Int))
theorem lab_f (l : S46) (a b : Nat) (h0 : 0 ≤ l.f1) (h1 : l.f1 ≤ 18446744073709551615) : lattice_Right.f l.f0 l.f1 (a : Int) (b : Int) = some (labB l a b) := by
  have hb : bits_Len64.f l.f1 = some ((Lib.bitLen l.f1.toNat : Nat) : Int) := by unfold bits_Len64.f; rw [if_pos ⟨h0, h1⟩]
  unfold lattice_Right.f labB
  rw [hb]
  simp only [Option.bind_some]
  have hm : mx (b : Int) 0 = (b : Int) := by unfold mx; split <;> omega
  rw [hm]
  by_cases x : 0 ≤ l.f0
  · rw [if_pos (by omega), decide_eq_true x]
    by_cases y : l.f0 < (a : Int)
    · rw [if_pos y, decide_eq_true y]; simp
    · rw [if_neg y, decide_eq_false y]; rfl
  · rw [if_neg (by omega), decide_eq_false x]; rfl
def ruleB (lev cats : List ByteArray) (x : S50) : Bool := pathB x.f0 && labB x.f2 lev.length cats.length && (x.f1.toList.isEmpty || x.f0.isEmpty && tagB x.f1)
def fitR (x : S50) : Bool := fitP x.f0 && decide (x.f1.size ≤ 140737488355328) && decide (0 ≤ x.f2.f1) && decide (x.f2.f1 ≤ 18446744073709551615)
theorem rule_f (lev cats : List ByteArray) (x : S50) (h : fitR x = true) : policy_Rule_right.f x.f0 x.f1 x.f2.f0 x.f2.f1 x.f3 lev cats = some (ruleB lev cats x) := by
  simp only [fitR, Bool.and_eq_true, decide_eq_true_eq] at h
  unfold policy_Rule_right.f ruleB path_Right.f
  rw [if_pos h.1.1.1, lab_f _ _ _ h.1.2 h.2]
  simp only [Option.bind_some]
  cases pathB x.f0
  · rw [if_neg (by decide)]; rfl
  · rw [if_pos rfl]
    cases labB x.f2 lev.length cats.length
    · rw [if_neg (by decide)]; rfl
    · rw [if_pos rfl]
      by_cases e : x.f1.toList = []
      · rw [if_pos e, e]; rfl
      · rw [if_neg e]
        have e2 : x.f1.toList.isEmpty = false := by cases hq : x.f1.toList with | nil => exact absurd hq e | cons a r => rfl
        rw [e2]
        by_cases z : x.f0 = []
        · rw [z, if_pos (by rfl), tagRight_f]; simp
        · rw [if_neg (by cases hq : x.f0 with | nil => exact absurd hq z | cons a r => simp; omega)]
          have z2 : x.f0.isEmpty = false := by cases hq : x.f0 with | nil => exact absurd hq z | cons a r => rfl
          rw [z2]; rfl
def patsFrom : List S50 → Nat → List (List S71) × List Int
  | [], _ => ([], [])
  | x :: r, i => if x.f1.toList.isEmpty then (x.f0 :: (patsFrom r (i + 1)).1, (i : Int) :: (patsFrom r (i + 1)).2) else patsFrom r (i + 1)
def patsL (rules : List S50) : List (List S71) × List Int := patsFrom rules 0
theorem patsFrom_len : ∀ (l : List S50) (i : Nat), (patsFrom l i).1.length ≤ l.length ∧ (patsFrom l i).2.length = (patsFrom l i).1.length
  | [], i => by simp [patsFrom]
  | x :: r, i => by
    have := patsFrom_len r (i + 1)
    unfold patsFrom
    split
    · simp; omega
    · simp; omega
theorem patterns_l0 (rules : List S50) (hl : rules.length ≤ 5864062014805) (d : Nat) : ∀ (k i : Nat) (a : List (List S71)) (b : List Int), rules.length - i ≤ d → d < k → i ≤ rules.length → a.length ≤ i → b.length ≤ i →
    policy_Patterns.l0 k a b rules (rules.length : Int) (i : Int) = some (a ++ (patsFrom (rules.drop i) i).1, b ++ (patsFrom (rules.drop i) i).2) := by
  induction d with
  | zero =>
    intro k i a b h1 h2 h3 h4 h5
    obtain ⟨k, rfl⟩ : ∃ k', k = k' + 1 := ⟨k - 1, by omega⟩
    have : i = rules.length := by omega
    subst this
    unfold policy_Patterns.l0
    rw [if_neg (by omega), List.drop_length]
    simp [patsFrom]
  | succ d ih =>
    intro k i a b h1 h2 h3 h4 h5
    obtain ⟨k, rfl⟩ : ∃ k', k = k' + 1 := ⟨k - 1, by omega⟩
    unfold policy_Patterns.l0
    by_cases hi : i < rules.length
    · rw [if_pos (by omega), if_pos (by omega), if_pos (by omega)]
      have hw : wrap64 ((i : Int) + 1) = ((i + 1 : Nat) : Int) := by rw [IntWalk.wrap64_in _ (by omega)]; omega
      have hx : rd_T50 rules (i : Int) = rules[i] := by unfold rd_T50; rw [Int.toNat_natCast, getD_lt _ _ hi]
      rw [hw, hx, List.drop_eq_getElem_cons hi]
      by_cases e : rules[i].f1.toList = []
      · rw [if_pos e, if_pos (by omega), if_pos (by omega), ih k (i + 1) _ _ (by omega) (by omega) (by omega) (by simp; omega) (by simp; omega)]
        rw [show patsFrom (rules[i] :: rules.drop (i + 1)) i = (rules[i].f0 :: (patsFrom (rules.drop (i + 1)) (i + 1)).1, (i : Int) :: (patsFrom (rules.drop (i + 1)) (i + 1)).2) by rw [patsFrom, e]; rfl]
        simp
      · have e2 : rules[i].f1.toList.isEmpty = false := by cases hq : rules[i].f1.toList with | nil => exact absurd hq e | cons a r => rfl
        rw [if_neg e, ih k (i + 1) _ _ (by omega) (by omega) (by omega) (by omega) (by omega)]
        rw [show patsFrom (rules[i] :: rules.drop (i + 1)) i = patsFrom (rules.drop (i + 1)) (i + 1) by rw [patsFrom, e2]; rfl]
    · rw [if_neg (by omega), List.drop_eq_nil_iff.2 (by omega)]
      simp [patsFrom]
theorem patterns_f (lev cats : List ByteArray) (mask : ByteArray) (rules : List S50) (hl : rules.length ≤ 5864062014805) : policy_Patterns.f (rules.length + 1) lev cats mask rules = some ((patsL rules).1, (patsL rules).2) := by
  unfold policy_Patterns.f patsL
  have := patterns_l0 rules hl rules.length (rules.length + 1) 0 [] [] (by omega) (by omega) (by omega) (by simp) (by simp)
  simpa using this
def beginsFrom : List (List S71) → Int → List Int
  | [], _ => []
  | p :: r, a => a :: beginsFrom r (a + ((p.length : Int) + 1))
def manyFrom : List (List S71) → Int → Int
  | [], a => a
  | p :: r, a => manyFrom r (a + ((p.length : Int) + 1))
def makeL (l : List (List S71)) : List (List S71) × List Int × Int × Int :=
  if l.all pathB = false then ([], [], 0, 5) else if manyFrom l 0 > 512 then ([], [], 0, 4) else (l, beginsFrom l 0, manyFrom l 0, 0)
theorem make_l1 (l : List (List S71)) (hl : l.length ≤ 5864062014804) (hf : ∀ p ∈ l, p.length ≤ 20) (d : Nat) : ∀ (k i : Nat) (a : List (List S71)) (b : List Int) (m : Int), l.length - i ≤ d → d < k → i ≤ l.length → a.length ≤ i → b.length ≤ i → 0 ≤ m → m ≤ 21 * (i : Int) →
    nfa_Make.l1 k l (l.length : Int) (i : Int) a b m = some (if manyFrom (l.drop i) m > 512 then ([], [], 0, 4) else (a ++ l.drop i, b ++ beginsFrom (l.drop i) m, manyFrom (l.drop i) m, 0)) := by
  induction d with
  | zero =>
    intro k i a b m h1 h2 h3 h4 h5 h6 h7
    obtain ⟨k, rfl⟩ : ∃ k', k = k' + 1 := ⟨k - 1, by omega⟩
    have : i = l.length := by omega
    subst this
    unfold nfa_Make.l1
    rw [if_neg (by omega), List.drop_length]
    simp only [manyFrom, beginsFrom, List.append_nil]
    by_cases e : m > 512
    · rw [if_pos e, if_pos e]
    · rw [if_neg e, if_neg e]
  | succ d ih =>
    intro k i a b m h1 h2 h3 h4 h5 h6 h7
    obtain ⟨k, rfl⟩ : ∃ k', k = k' + 1 := ⟨k - 1, by omega⟩
    unfold nfa_Make.l1
    by_cases hi : i < l.length
    · rw [if_pos (by omega), if_pos (by omega), if_pos (by omega)]
      have hw : wrap64 ((i : Int) + 1) = ((i + 1 : Nat) : Int) := by rw [IntWalk.wrap64_in _ (by omega)]; omega
      have hx : rd_L7 l (i : Int) = l[i] := by unfold rd_L7; rw [Int.toNat_natCast, getD_lt _ _ hi]
      have hp := hf _ (List.getElem_mem hi)
      have hc : clonePart.f l[i] = some l[i] := by unfold clonePart.f; rw [if_pos (by omega)]
      have hw2 : wrap64 (m + wrap64 ((l[i].length : Int) + 1)) = m + ((l[i].length : Int) + 1) := by rw [IntWalk.wrap64_in ((l[i].length : Int) + 1) (by omega), IntWalk.wrap64_in _ (by omega)]
      rw [hw, hx, hc, hw2, List.drop_eq_getElem_cons hi]
      simp only [Option.bind_some]
      rw [if_pos (by omega), if_pos (by omega), ih k (i + 1) _ _ _ (by omega) (by omega) (by omega) (by simp; omega) (by simp; omega) (by omega) (by omega)]
      simp [manyFrom, beginsFrom]
    · rw [if_neg (by omega), List.drop_eq_nil_iff.2 (by omega)]
      simp only [manyFrom, beginsFrom, List.append_nil]
      by_cases e : m > 512
      · rw [if_pos e, if_pos e]
      · rw [if_neg e, if_neg e]
theorem pathB_len {p : List S71} (h : pathB p = true) : p.length ≤ 20 := by
  unfold pathB at h
  simp only [Bool.and_eq_true, decide_eq_true_eq] at h
  exact h.1
theorem make_l0 (l : List (List S71)) (hl : l.length ≤ 5864062014804) (hf : ∀ p ∈ l, fitP p = true) (d : Nat) : ∀ (k i : Nat), l.length - i ≤ d → d + l.length + 1 < k → i ≤ l.length → ((l.take i).all pathB = true) →
    nfa_Make.l0 k l l (l.length : Int) (i : Int) [] [] 0 = some (makeL l) := by
  have fin : ∀ k, l.length < k → l.all pathB = true → nfa_Make.l1 k l (l.length : Int) 0 [] [] 0 = some (makeL l) := by
    intro k hk ha
    have := make_l1 l hl (fun p hp => pathB_len (List.all_eq_true.1 ha p hp)) l.length k 0 [] [] 0 (by omega) hk (by omega) (by simp) (by simp) (by omega) (by omega)
    rw [show ((0 : Nat) : Int) = 0 from rfl] at this
    rw [this, List.drop_zero]
    have hm : makeL l = if manyFrom l 0 > 512 then ([], [], 0, 4) else (l, beginsFrom l 0, manyFrom l 0, 0) := by unfold makeL; rw [ha]; rfl
    rw [hm]
    rfl
  induction d with
  | zero =>
    intro k i h1 h2 h3 h4
    obtain ⟨k, rfl⟩ : ∃ k', k = k' + 1 := ⟨k - 1, by omega⟩
    have : i = l.length := by omega
    subst this
    unfold nfa_Make.l0
    rw [if_neg (by omega)]
    exact fin k (by omega) (by simpa using h4)
  | succ d ih =>
    intro k i h1 h2 h3 h4
    obtain ⟨k, rfl⟩ : ∃ k', k = k' + 1 := ⟨k - 1, by omega⟩
    unfold nfa_Make.l0
    by_cases hi : i < l.length
    · rw [if_pos (by omega), if_pos (by omega), if_pos (by omega)]
      have hw : wrap64 ((i : Int) + 1) = ((i + 1 : Nat) : Int) := by rw [IntWalk.wrap64_in _ (by omega)]; omega
      have hx : rd_L7 l (i : Int) = l[i] := by unfold rd_L7; rw [Int.toNat_natCast, getD_lt _ _ hi]
      rw [hw, hx]
      unfold path_Right.f
      rw [if_pos (hf _ (List.getElem_mem hi))]
      simp only [Option.bind_some]
      cases hb : pathB l[i]
      · rw [if_neg (by decide)]
        unfold makeL
        rw [if_pos (by rw [List.all_eq_false]; exact ⟨l[i], List.getElem_mem hi, by rw [hb]; decide⟩)]
      · rw [if_pos rfl]
        exact ih k (i + 1) (by omega) (by omega) (by omega) (by rw [← List.take_append_getElem hi, List.all_append, h4]; simp [hb])
    · rw [if_neg (by omega)]
      exact fin k (by omega) (by rw [List.take_of_length_le (by omega)] at h4; exact h4)
theorem make_f (l : List (List S71)) (hl : l.length ≤ 5864062014804) (hf : ∀ p ∈ l, fitP p = true) : nfa_Make.f (2 * l.length + 2) l = some (makeL l) := by
  unfold nfa_Make.f
  exact make_l0 l hl hf l.length _ 0 (by omega) (by omega) (by omega) (by simp)
end Go.Proofs.YtpbkdeelkpjccaaDoor.G

namespace Go.Proofs.YtpbkdeelkpjccaaDoor.G
open Go.RowKit Go.Proofs.YtpbkdeelkpjccaaDoorW.PrintWords
set_option linter.unusedVariables false
set_option linter.unusedSimpArgs false
structure PolV where
  lev : List ByteArray
  cats : List ByteArray
  mask : ByteArray
  rules : List S50
def polB (p : PolV) : Bool := mayB p.lev p.cats && validB p.mask && decide (p.mask.size ≤ 200) && decide (p.rules.length ≤ 100) && p.rules.all (ruleB p.lev p.cats) && (makeL (patsL p.rules).1).2.2.2 == 0
def fitPol (p : PolV) : Bool := fitS p.lev && fitS p.cats && decide (p.mask.size ≤ 140737488355328) && p.rules.all fitR
section
variable (p : PolV) (A0 : Option Addr) (c0 : Nat) (A1 : Option Addr) (c1 : Nat) (A3 : Option Addr) (c3 : Nat)
structure PolAt (w : World) : Prop where
  hT : Tabs w
  h0 : Kd.C Kd.string w A0 p.lev.length p.lev
  l0 : p.lev.length ≤ c0
  h1 : Kd.C Kd.string w A1 p.cats.length p.cats
  l1 : p.cats.length ≤ c1
  h3 : Kd.C k50 w A3 p.rules.length p.rules
  l3 : p.rules.length ≤ c3
  fit : fitPol p = true
theorem PolAt.below {w w' : World} (h : PolAt p A0 c0 A1 c1 A3 c3 w) (hb : Below w.heap.size w w') : PolAt p A0 c0 A1 c1 A3 c3 w' :=
  ⟨h.hT.below hb, Kd.C_below h.h0 hb, h.l0, Kd.C_below h.h1 hb, h.l1, Kd.C_below h.h3 hb, h.l3, h.fit⟩
theorem fitPol_parts {p : PolV} (h : fitPol p = true) : fitS p.lev = true ∧ fitS p.cats = true ∧ p.mask.size ≤ 140737488355328 ∧ ∀ x ∈ p.rules, fitR x = true := by
  simp only [fitPol, Bool.and_eq_true, decide_eq_true_eq] at h
  exact ⟨h.1.1.1, h.1.1.2, h.1.2, fun x hx => List.all_eq_true.1 h.2 x hx⟩
theorem polRight1 (w : World) (H : PolAt p A0 c0 A1 c1 A3 c3 w) (B : Nat) (hB0 : w.cell? ⟨B, 0, none⟩ = some (.slice A0 p.lev.length c0)) (hB1 : w.cell? ⟨B, 1, none⟩ = some (.slice A1 p.cats.length c1)) :
    TellsK Tryd.prog 21 #[.pointer (some ⟨B, 0, none⟩)] k50 z50 p.rules (fun j => !ruleB p.lev p.cats (p.rules.getD j z50)) w := by
  intro j W cs hj hb hk
  show Calls _ _ _ W fun e w' => e = .returned (.bool (!ruleB p.lev p.cats (p.rules.getD j z50))) ∧ Below W.heap.size W w'
  have hx : fitR (p.rules.getD j z50) = true := (fitPol_parts H.fit).2.2.2 _ (by rw [getD_lt _ _ hj]; exact List.getElem_mem _)
  generalize p.rules.getD j z50 = x at hk hx ⊢
  obtain ⟨A9, c9, rfl, l9, g9⟩ := k50_open hk
  have hW := H.below p A0 c0 A1 c1 A3 c3 hb
  have g9' := Kd.C_below g9 hb
  have hB0' := pw_cell_below hb hB0
  have hB1' := pw_cell_below hb hB1
  have hB0'' := pw_cell_below (below_alloc (Below.refl W.heap.size W) (.cells #[.slice A9 x.f0.length c9, .string x.f1, .int .i64 x.f2.f0, .int .u64 x.f2.f1, .bool x.f3] 50)) hB0'
  have hB1'' := pw_cell_below (below_alloc (Below.refl W.heap.size W) (.cells #[.slice A9 x.f0.length c9, .string x.f1, .int .i64 x.f2.f0, .int .u64 x.f2.f1, .bool x.f3] 50)) hB1'
  have hcall : ∀ W2, Below W.heap.size W W2 → _ := fun W2 h2 => policy_Rule_right.calls A9 c9 x.f0 x.f1 x.f2.f0 x.f2.f1 x.f3 A0 c0 p.lev A1 c1 p.cats (ruleB p.lev p.cats x) W2 ((hW.hT).below h2) (Kd.C_below g9' h2) l9 (Kd.C_below hW.h0 h2) hW.l0 (Kd.C_below hW.h1 h2) hW.l1 (rule_f p.lev p.cats x hx)
  generalize ruleB p.lev p.cats x = b at hcall ⊢
  have HC := Aside0.mk hcall
  have hu38 := Tryd.underlying38
  have hu50 := Tryd.underlying50
  clear hcall hW hk g9 g9' hb hj H hB0 hB1 hB0' hB1'
  generalize p.lev.length = n0 at *
  generalize p.cats.length = n1 at *
  generalize x.f0.length = n9 at *
  go_enter Tryd.func21, Tryd.ntmps21
  go_wp2_with (go_at_call 22; refine (HC.out _ ?hb).mono ?_; (case hb => exact below_alloc (Below.refl _ _) _); rintro e w' ⟨rfl, hb'⟩)
  go_ret
  exact ⟨rfl, below_then (below_alloc (Below.refl _ _) _) (by simp) hb'⟩
end
end Go.Proofs.YtpbkdeelkpjccaaDoor.G
