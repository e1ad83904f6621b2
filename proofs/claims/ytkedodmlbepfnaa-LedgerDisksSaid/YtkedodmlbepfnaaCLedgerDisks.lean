/- LedgerDisks: for every number and every list of operations the law returns true, and its arguments read afterwards as before. No condition. -/
import Derived.Test.YtkedodmlbepfnaaRows
import Derived.WalkKit
import Derived.ProofKit
import Derived.OpenShut
import Derived.ShutString
import Derived.ChangeOld
import Derived.Below
import Derived.SizedLaws
import Derived.Carry
import Derived.Test.YtkedodmlbepfnaaD4
import Derived.Deep.RegionHeld
set_option linter.unusedSimpArgs false
set_option linter.unusedVariables false
namespace Go.Proofs.Ytkedodmlbepfnaa.Lg
open Go.RowKit Go.Proofs.YtkedodmlbepfnaaW.PrintWords Go.Proofs.YtkedodmlbepfnaaW.PrintLast Go.Proofs.YtkedodmlbepfnaaW.PrintMore Go.Proofs.Ytkedodmlbepfnaa.Rg
set_option maxHeartbeats 8000000 in
set_option maxRecDepth 100000 in
theorem disks_a (n : Int) (l : List S23) (A : Option Addr) (c : Nat) (w : World) (hr0 : Kd.C k23 w A l.length l) (hc0 : l.length ≤ c) (hmx : ∀ y ∈ l, y.f1 ≤ 9223372036854775807) (h8 : 8 < n) (h4 : n ≤ 4096) : Calls Try.prog 7 #[.int .i64 n, .slice A l.length c] w fun e w' => e = .returned (.bool true) ∧ Below w.heap.size w w' := by
  have b1 : decide ((8 : Int) < n) = true := decide_eq_true h8
  have b2 : decide (n ≤ (4096 : Int)) = true := decide_eq_true h4
  have HB := Aside0.mk (Below.refl w.heap.size w)
  clear hr0 hmx
  go_enter Try.func7, Try.ntmps7
  go_wp2_with (first
    | (go_at_call 10; (with_reducible refine (sane_calls _).mono ?_); rintro e w1 ⟨rfl, hb⟩; have n1_ := Aside0.mk (below_step HB.out hb); clear HB hb; have HB := n1_; clear n1_))
  go_ret
  exact ⟨rfl, HB.out⟩
set_option maxHeartbeats 8000000 in
set_option maxRecDepth 100000 in
theorem disks_b (n : Int) (l : List S23) (A : Option Addr) (c : Nat) (w : World) (hr0 : Kd.C k23 w A l.length l) (hc0 : l.length ≤ c) (hmx : ∀ y ∈ l, y.f1 ≤ 9223372036854775807) (h8 : 4096 < n) (hl : 60 < l.length) : Calls Try.prog 7 #[.int .i64 n, .slice A l.length c] w fun e w' => e = .returned (.bool true) ∧ Below w.heap.size w w' := by
  have b1 : decide ((8 : Int) < n) = true := decide_eq_true (by omega)
  have b2 : decide (n ≤ (4096 : Int)) = false := decide_eq_false (by omega)
  have b3 : decide ((60 : Int) < (l.length : Int)) = true := decide_eq_true (by omega)
  have b4 : decide (60 < l.length) = true := decide_eq_true hl
  have HB := Aside0.mk (Below.refl w.heap.size w)
  clear hr0 hmx
  go_enter Try.func7, Try.ntmps7
  go_wp2_with (first
    | (go_at_call 10; (with_reducible refine (sane_calls _).mono ?_); rintro e w1 ⟨rfl, hb⟩; have n1_ := Aside0.mk (below_step HB.out hb); clear HB hb; have HB := n1_; clear n1_))
  go_ret
  exact ⟨rfl, HB.out⟩
set_option maxHeartbeats 8000000 in
set_option maxRecDepth 100000 in
theorem disks_c (n : Int) (l : List S23) (A : Option Addr) (c : Nat) (w : World) (hr0 : Kd.C k23 w A l.length l) (hc0 : l.length ≤ c) (hmx : ∀ y ∈ l, y.f1 ≤ 9223372036854775807) (h8 : 4096 < n) (hl : ¬ 60 < l.length) : Calls Try.prog 7 #[.int .i64 n, .slice A l.length c] w fun e w' => e = .returned (.bool true) ∧ Below w.heap.size w w' := by
  have b1 : decide ((8 : Int) < n) = true := decide_eq_true (by omega)
  have b2 : decide (n ≤ (4096 : Int)) = false := decide_eq_false (by omega)
  have b3 : decide ((60 : Int) < (l.length : Int)) = false := decide_eq_false (by omega)
  have b4 : decide (60 < l.length) = false := decide_eq_false (by omega)
  have HB := Aside0.mk (Below.refl w.heap.size w)
  clear hr0 hmx
  go_enter Try.func7, Try.ntmps7
  go_wp2_with (first
    | (go_at_call 10; (with_reducible refine (sane_calls _).mono ?_); rintro e w1 ⟨rfl, hb⟩; have n1_ := Aside0.mk (below_step HB.out hb); clear HB hb; have HB := n1_; clear n1_)
    | (go_at_call 29; (with_reducible refine (bad_new n (by omega) _).mono ?_); rintro e w1 ⟨rfl, hb⟩; have n1_ := Aside0.mk (below_step HB.out hb); clear HB hb; have HB := n1_; clear n1_)
    | (go_at_call 30; (with_reducible refine (rbad_new n (by omega) _).mono ?_); rintro e w1 ⟨rfl, hb⟩; have n1_ := Aside0.mk (below_step HB.out hb); clear HB hb; have HB := n1_; clear n1_))
  go_ret
  exact ⟨rfl, HB.out⟩
set_option maxHeartbeats 8000000 in
set_option maxRecDepth 100000 in
theorem disks_d (n : Int) (l : List S23) (A : Option Addr) (c : Nat) (w : World) (hr0 : Kd.C k23 w A l.length l) (hc0 : l.length ≤ c) (hmx : ∀ y ∈ l, y.f1 ≤ 9223372036854775807) (h8 : n ≤ 8) (hl : 60 < l.length) : Calls Try.prog 7 #[.int .i64 n, .slice A l.length c] w fun e w' => e = .returned (.bool true) ∧ Below w.heap.size w w' := by
  have b1 : decide ((8 : Int) < n) = false := decide_eq_false (by omega)
  have b3 : decide ((60 : Int) < (l.length : Int)) = true := decide_eq_true (by omega)
  have b4 : decide (60 < l.length) = true := decide_eq_true hl
  have HB := Aside0.mk (Below.refl w.heap.size w)
  clear hr0 hmx
  go_enter Try.func7, Try.ntmps7
  go_wp2_with (first
    | (go_at_call 10; (with_reducible refine (sane_calls _).mono ?_); rintro e w1 ⟨rfl, hb⟩; have n1_ := Aside0.mk (below_step HB.out hb); clear HB hb; have HB := n1_; clear n1_))
  go_ret
  exact ⟨rfl, HB.out⟩
set_option maxHeartbeats 8000000 in
set_option maxRecDepth 100000 in
theorem disks_e (n : Int) (l : List S23) (A : Option Addr) (c : Nat) (w : World) (hr0 : Kd.C k23 w A l.length l) (hc0 : l.length ≤ c) (hmx : ∀ y ∈ l, y.f1 ≤ 9223372036854775807) (h8 : n < 1) (hl : ¬ 60 < l.length) : Calls Try.prog 7 #[.int .i64 n, .slice A l.length c] w fun e w' => e = .returned (.bool true) ∧ Below w.heap.size w w' := by
  have b1 : decide ((8 : Int) < n) = false := decide_eq_false (by omega)
  have b3 : decide ((60 : Int) < (l.length : Int)) = false := decide_eq_false (by omega)
  have b4 : decide (60 < l.length) = false := decide_eq_false (by omega)
  have HB := Aside0.mk (Below.refl w.heap.size w)
  clear hr0 hmx
  go_enter Try.func7, Try.ntmps7
  go_wp2_with (first
    | (go_at_call 10; (with_reducible refine (sane_calls _).mono ?_); rintro e w1 ⟨rfl, hb⟩; have n1_ := Aside0.mk (below_step HB.out hb); clear HB hb; have HB := n1_; clear n1_)
    | (go_at_call 29; (with_reducible refine (bad_new n (by omega) _).mono ?_); rintro e w1 ⟨rfl, hb⟩; have n1_ := Aside0.mk (below_step HB.out hb); clear HB hb; have HB := n1_; clear n1_)
    | (go_at_call 30; (with_reducible refine (rbad_new n (by omega) _).mono ?_); rintro e w1 ⟨rfl, hb⟩; have n1_ := Aside0.mk (below_step HB.out hb); clear HB hb; have HB := n1_; clear n1_))
  go_ret
  exact ⟨rfl, HB.out⟩
set_option maxHeartbeats 8000000 in
set_option maxRecDepth 100000 in
theorem disks_main (n : Int) (l : List S23) (A : Option Addr) (c : Nat) (w : World) (hr0 : Kd.C k23 w A l.length l) (hc0 : l.length ≤ c) (hmx : ∀ y ∈ l, y.f1 ≤ 9223372036854775807) (h1 : 1 ≤ n) (h8 : n ≤ 8) (hl : ¬ 60 < l.length) : Calls Try.prog 7 #[.int .i64 n, .slice A l.length c] w fun e w' => e = .returned (.bool true) ∧ Below w.heap.size w w' := by
  obtain ⟨m, rfl⟩ := Int.eq_ofNat_of_zero_le (show 0 ≤ n by omega)
  have b1 : decide ((8 : Int) < (m : Int)) = false := decide_eq_false (by omega)
  have b3 : decide ((60 : Int) < (l.length : Int)) = false := decide_eq_false (by omega)
  have b4 : decide (60 < l.length) = false := decide_eq_false (by omega)
  have hm1 : 1 ≤ m := by omega
  have hm2 : m ≤ 4096 := by omega
  have HB := Aside0.mk (Below.refl w.heap.size w)
  have HR := Aside0.mk hr0
  have HMX := Aside0.mk hmx
  have hl60 : l.length ≤ 60 := by omega
  clear hr0 hmx
  go_enter Try.func7, Try.ntmps7
  go_wp2_with (first
    | (go_at_call 10; (with_reducible refine (sane_calls _).mono ?_); rintro e w1 ⟨rfl, hb⟩; have n1_ := Aside0.mk (below_step HB.out hb); clear HB hb; have HB := n1_; clear n1_)
    | (go_at_call 29; (with_reducible refine (newDisk_calls m _ hm1 hm2).mono ?_); rintro e w1 ⟨g, vs, vn, vw, rfl, hd, hb⟩; have HD := Aside0.mk hd; have HB1 := Aside0.mk hb; clear hd hb)
    | (go_at_call 30; (with_reducible refine (rnew_calls m _ hm1 hm2).mono ?_); rintro e w2 ⟨g2, us, un, uw, rfl, hr, hb⟩; have HT0 := Aside0.mk (Two.make HB.out HD.out HB1.out (Below.refl _ _) hr hb); clear hr hb))
  clear HD HB1 HB b1 b3 b4
  go_loopw [56] (fun v W => ∃ j : Nat, v = .int .i64 (j : Int) ∧ j ≤ l.length ∧ ∃ d : DS, Aside0 (Two w W g g2 d d) ∧ Aside0 (Far d j)) (fun v _ => l.length - (intOf v).toNat)
  case atStart => exact ⟨0, rfl, Nat.zero_le _, _, HT0, Aside0.mk (Far.new m)⟩
  case round =>
    clear HT0
    obtain ⟨j, rfl, hj, d, HT, HFar⟩ := hrel
    by_cases hlt : j < l.length
    · have l1 : (j : Int) < (l.length : Int) := by omega
      have l2 : decide ((j : Int) < (l.length : Int)) = true := decide_eq_true l1
      have l3 : decide (j < l.length) = true := decide_eq_true hlt
      obtain ⟨ad, e0, hx0, hx1, hx2⟩ := at_T23 (Kd.C_below HR.out HT.out.below) (j : Int) (by omega) l1
      cases e0
      have hrd : rd_T23 l (j : Int) = l[j] := by simp [rd_T23, List.getD_eq_getElem?_getD, hlt]
      rw [hrd] at hx0 hx1 hx2
      simp only [Int.toNat_natCast] at hx0 hx1 hx2
      clear hrd
      have HM := Aside0.mk (HMX.out l[j] (List.getElem_mem hlt))
      generalize l[j].f0 = q at *
      generalize l[j].f1 = x1 at *
      generalize l[j].f2 = x2 at *
      have hk1 : j ≤ 1000 := by omega
      have hB := below_alloc (Below.refl wr.heap.size wr) (.cells #[.int .i64 q, .int .i64 x1, .string x2] 52)
      have n1_ := Aside0.mk (HT.out.later hB).1
      clear HT
      have HT := n1_
      clear n1_
      have HX := Aside0.mk (blk_new wr (.cells #[.int .i64 q, .int .i64 x1, .string x2] 52))
      have b1 : (wr.alloc (.cells #[.int .i64 q, .int .i64 x1, .string x2] 52)).cell? ⟨wr.heap.size, 1, none⟩ = some (.int .i64 x1) := (blk_cell HX.out 1).trans rfl
      have b2 : (wr.alloc (.cells #[.int .i64 q, .int .i64 x1, .string x2] 52)).cell? ⟨wr.heap.size, 2, none⟩ = some (.string x2) := (blk_cell HX.out 2).trans rfl
      skip
      by_cases q0 : q = 0
      · subst q0
        go_wp2
        have n1_ := Aside0.mk (HT.out.later (below_drew (Below.refl _ _))).1
        clear HT
        have HT := n1_
        clear n1_
        go_region_held (fun w' => w'.cell? ⟨wr.heap.size, 1, none⟩ = some (.int .i64 x1) ∧ w'.cell? ⟨wr.heap.size, 2, none⟩ = some (.string x2)) (first | exact ⟨b1, b2⟩ | go_keep) (first
          | (go_at_call 32; (with_reducible refine (c32 HT.out x2).mono ?_); rintro x W1 ⟨rfl, ht, hx⟩; have n1_ := Aside0.mk ht; have n2_ := Aside0.mk (hx _ _ HX.out); clear ht hx HT HX; try clear b1; try clear b2; have HT := n1_; have HX := n2_; clear n1_ n2_; have b1 : W1.cell? ⟨wr.heap.size, 1, none⟩ = some (.int .i64 x1) := (blk_cell HX.out 1).trans rfl; have b2 : W1.cell? ⟨wr.heap.size, 2, none⟩ = some (.string x2) := (blk_cell HX.out 2).trans rfl)
          | (go_at_call 31; (with_reducible refine (HT.out.c31 HFar.out hk1 x1 _).mono ?_); rintro x W1 ⟨rfl, ht, hx⟩; have n1_ := Aside0.mk ht; have n2_ := Aside0.mk (hx _ _ HX.out); clear ht hx HT HX; try clear b1; try clear b2; have HT := n1_; have HX := n2_; clear n1_ n2_; have b1 : W1.cell? ⟨wr.heap.size, 1, none⟩ = some (.int .i64 x1) := (blk_cell HX.out 1).trans rfl; have b2 : W1.cell? ⟨wr.heap.size, 2, none⟩ = some (.string x2) := (blk_cell HX.out 2).trans rfl)
          | (go_at_call 33; (with_reducible refine (HT.out.c33 HFar.out hk1 x1 _).mono ?_); rintro x W1 ⟨rfl, ht, hx⟩; have n1_ := Aside0.mk ht; have n2_ := Aside0.mk (hx _ _ HX.out); clear ht hx HT HX; try clear b1; try clear b2; have HT := n1_; have HX := n2_; clear n1_ n2_; have b1 : W1.cell? ⟨wr.heap.size, 1, none⟩ = some (.int .i64 x1) := (blk_cell HX.out 1).trans rfl; have b2 : W1.cell? ⟨wr.heap.size, 2, none⟩ = some (.string x2) := (blk_cell HX.out 2).trans rfl))
        all_goals go_wp2_with (first
          | (go_at_call 42; (with_reducible refine (HT.out.c42).mono ?_); rintro x W1 ⟨rfl, ht, hx⟩; have n1_ := Aside0.mk ht; have n2_ := Aside0.mk (hx _ _ HX.out); clear ht hx HT HX; try clear b1; try clear b2; have HT := n1_; have HX := n2_; clear n1_ n2_; have b1 : W1.cell? ⟨wr.heap.size, 1, none⟩ = some (.int .i64 x1) := (blk_cell HX.out 1).trans rfl; have b2 : W1.cell? ⟨wr.heap.size, 2, none⟩ = some (.string x2) := (blk_cell HX.out 2).trans rfl)
          | (go_at_call 43; (with_reducible refine (HT.out.c43).mono ?_); rintro x W1 ⟨rfl, ht, hx⟩; have n1_ := Aside0.mk ht; have n2_ := Aside0.mk (hx _ _ HX.out); clear ht hx HT HX; try clear b1; try clear b2; have HT := n1_; have HX := n2_; clear n1_ n2_; have b1 : W1.cell? ⟨wr.heap.size, 1, none⟩ = some (.int .i64 x1) := (blk_cell HX.out 1).trans rfl; have b2 : W1.cell? ⟨wr.heap.size, 2, none⟩ = some (.string x2) := (blk_cell HX.out 2).trans rfl)
          | (go_at_call 44; (with_reducible refine (HT.out.c44).mono ?_); rintro x W1 ⟨rfl, ht, hx⟩; have n1_ := Aside0.mk ht; have n2_ := Aside0.mk (hx _ _ HX.out); clear ht hx HT HX; try clear b1; try clear b2; have HT := n1_; have HX := n2_; clear n1_ n2_; have b1 : W1.cell? ⟨wr.heap.size, 1, none⟩ = some (.int .i64 x1) := (blk_cell HX.out 1).trans rfl; have b2 : W1.cell? ⟨wr.heap.size, 2, none⟩ = some (.string x2) := (blk_cell HX.out 2).trans rfl)
          | (go_at_call 45; (with_reducible refine (HT.out.c45).mono ?_); rintro x W1 ⟨rfl, ht, hx⟩; have n1_ := Aside0.mk ht; have n2_ := Aside0.mk (hx _ _ HX.out); clear ht hx HT HX; try clear b1; try clear b2; have HT := n1_; have HX := n2_; clear n1_ n2_; have b1 : W1.cell? ⟨wr.heap.size, 1, none⟩ = some (.int .i64 x1) := (blk_cell HX.out 1).trans rfl; have b2 : W1.cell? ⟨wr.heap.size, 2, none⟩ = some (.string x2) := (blk_cell HX.out 2).trans rfl))
        go_roundw
        case rel => exact ⟨j + 1, by go_num, by omega, _, HT, Aside0.mk (HFar.out.write x1 ((acreagelaw09_sector.f x2).getD x2))⟩
        case measure => simp [intOf]; omega
      · have z0 : (q == 0) = false := by rw [beq_eq_false_iff_ne]; exact q0
        by_cases q1 : q = 1
        · subst q1
          go_wp2_with (first
            | (go_at_call 34; (with_reducible refine (HT.out.c34 HFar.out hk1).mono ?_); rintro x W1 ⟨rfl, ht, hx⟩; have n1_ := Aside0.mk ht; have n2_ := Aside0.mk (hx _ _ HX.out); clear ht hx HT HX; try clear b1; try clear b2; have HT := n1_; have HX := n2_; clear n1_ n2_; have b1 : W1.cell? ⟨wr.heap.size, 1, none⟩ = some (.int .i64 x1) := (blk_cell HX.out 1).trans rfl; have b2 : W1.cell? ⟨wr.heap.size, 2, none⟩ = some (.string x2) := (blk_cell HX.out 2).trans rfl)
            | (go_at_call 35; (with_reducible refine (HT.out.c35 HFar.out hk1).mono ?_); rintro x W1 ⟨rfl, ht, hx⟩; have n1_ := Aside0.mk ht; have n2_ := Aside0.mk (hx _ _ HX.out); clear ht hx HT HX; try clear b1; try clear b2; have HT := n1_; have HX := n2_; clear n1_ n2_; have b1 : W1.cell? ⟨wr.heap.size, 1, none⟩ = some (.int .i64 x1) := (blk_cell HX.out 1).trans rfl; have b2 : W1.cell? ⟨wr.heap.size, 2, none⟩ = some (.string x2) := (blk_cell HX.out 2).trans rfl)
            | (go_at_call 42; (with_reducible refine (HT.out.c42).mono ?_); rintro x W1 ⟨rfl, ht, hx⟩; have n1_ := Aside0.mk ht; have n2_ := Aside0.mk (hx _ _ HX.out); clear ht hx HT HX; try clear b1; try clear b2; have HT := n1_; have HX := n2_; clear n1_ n2_; have b1 : W1.cell? ⟨wr.heap.size, 1, none⟩ = some (.int .i64 x1) := (blk_cell HX.out 1).trans rfl; have b2 : W1.cell? ⟨wr.heap.size, 2, none⟩ = some (.string x2) := (blk_cell HX.out 2).trans rfl)
            | (go_at_call 43; (with_reducible refine (HT.out.c43).mono ?_); rintro x W1 ⟨rfl, ht, hx⟩; have n1_ := Aside0.mk ht; have n2_ := Aside0.mk (hx _ _ HX.out); clear ht hx HT HX; try clear b1; try clear b2; have HT := n1_; have HX := n2_; clear n1_ n2_; have b1 : W1.cell? ⟨wr.heap.size, 1, none⟩ = some (.int .i64 x1) := (blk_cell HX.out 1).trans rfl; have b2 : W1.cell? ⟨wr.heap.size, 2, none⟩ = some (.string x2) := (blk_cell HX.out 2).trans rfl)
            | (go_at_call 44; (with_reducible refine (HT.out.c44).mono ?_); rintro x W1 ⟨rfl, ht, hx⟩; have n1_ := Aside0.mk ht; have n2_ := Aside0.mk (hx _ _ HX.out); clear ht hx HT HX; try clear b1; try clear b2; have HT := n1_; have HX := n2_; clear n1_ n2_; have b1 : W1.cell? ⟨wr.heap.size, 1, none⟩ = some (.int .i64 x1) := (blk_cell HX.out 1).trans rfl; have b2 : W1.cell? ⟨wr.heap.size, 2, none⟩ = some (.string x2) := (blk_cell HX.out 2).trans rfl)
            | (go_at_call 45; (with_reducible refine (HT.out.c45).mono ?_); rintro x W1 ⟨rfl, ht, hx⟩; have n1_ := Aside0.mk ht; have n2_ := Aside0.mk (hx _ _ HX.out); clear ht hx HT HX; try clear b1; try clear b2; have HT := n1_; have HX := n2_; clear n1_ n2_; have b1 : W1.cell? ⟨wr.heap.size, 1, none⟩ = some (.int .i64 x1) := (blk_cell HX.out 1).trans rfl; have b2 : W1.cell? ⟨wr.heap.size, 2, none⟩ = some (.string x2) := (blk_cell HX.out 2).trans rfl))
          go_roundw
          case rel => exact ⟨j + 1, by go_num, by omega, _, HT, Aside0.mk (HFar.out.sync)⟩
          case measure => simp [intOf]; omega
        · have z1 : (q == 1) = false := by rw [beq_eq_false_iff_ne]; exact q1
          by_cases q2 : q = 2
          · subst q2
            go_wp2_with (first
              | (go_at_call 36; (with_reducible refine (HT.out.c36 x1).mono ?_); rintro x W1 ⟨rfl, ht, hx⟩; have n1_ := Aside0.mk ht; have n2_ := Aside0.mk (hx _ _ HX.out); clear ht hx HT HX; try clear b1; try clear b2; have HT := n1_; have HX := n2_; clear n1_ n2_; have b1 : W1.cell? ⟨wr.heap.size, 1, none⟩ = some (.int .i64 x1) := (blk_cell HX.out 1).trans rfl; have b2 : W1.cell? ⟨wr.heap.size, 2, none⟩ = some (.string x2) := (blk_cell HX.out 2).trans rfl)
              | (go_at_call 37; (with_reducible refine (HT.out.c37 x1).mono ?_); rintro x W1 ⟨rfl, ht, hx⟩; have n1_ := Aside0.mk ht; have n2_ := Aside0.mk (hx _ _ HX.out); clear ht hx HT HX; try clear b1; try clear b2; have HT := n1_; have HX := n2_; clear n1_ n2_; have b1 : W1.cell? ⟨wr.heap.size, 1, none⟩ = some (.int .i64 x1) := (blk_cell HX.out 1).trans rfl; have b2 : W1.cell? ⟨wr.heap.size, 2, none⟩ = some (.string x2) := (blk_cell HX.out 2).trans rfl)
              | (go_at_call 42; (with_reducible refine (HT.out.c42).mono ?_); rintro x W1 ⟨rfl, ht, hx⟩; have n1_ := Aside0.mk ht; have n2_ := Aside0.mk (hx _ _ HX.out); clear ht hx HT HX; try clear b1; try clear b2; have HT := n1_; have HX := n2_; clear n1_ n2_; have b1 : W1.cell? ⟨wr.heap.size, 1, none⟩ = some (.int .i64 x1) := (blk_cell HX.out 1).trans rfl; have b2 : W1.cell? ⟨wr.heap.size, 2, none⟩ = some (.string x2) := (blk_cell HX.out 2).trans rfl)
              | (go_at_call 43; (with_reducible refine (HT.out.c43).mono ?_); rintro x W1 ⟨rfl, ht, hx⟩; have n1_ := Aside0.mk ht; have n2_ := Aside0.mk (hx _ _ HX.out); clear ht hx HT HX; try clear b1; try clear b2; have HT := n1_; have HX := n2_; clear n1_ n2_; have b1 : W1.cell? ⟨wr.heap.size, 1, none⟩ = some (.int .i64 x1) := (blk_cell HX.out 1).trans rfl; have b2 : W1.cell? ⟨wr.heap.size, 2, none⟩ = some (.string x2) := (blk_cell HX.out 2).trans rfl)
              | (go_at_call 44; (with_reducible refine (HT.out.c44).mono ?_); rintro x W1 ⟨rfl, ht, hx⟩; have n1_ := Aside0.mk ht; have n2_ := Aside0.mk (hx _ _ HX.out); clear ht hx HT HX; try clear b1; try clear b2; have HT := n1_; have HX := n2_; clear n1_ n2_; have b1 : W1.cell? ⟨wr.heap.size, 1, none⟩ = some (.int .i64 x1) := (blk_cell HX.out 1).trans rfl; have b2 : W1.cell? ⟨wr.heap.size, 2, none⟩ = some (.string x2) := (blk_cell HX.out 2).trans rfl)
              | (go_at_call 45; (with_reducible refine (HT.out.c45).mono ?_); rintro x W1 ⟨rfl, ht, hx⟩; have n1_ := Aside0.mk ht; have n2_ := Aside0.mk (hx _ _ HX.out); clear ht hx HT HX; try clear b1; try clear b2; have HT := n1_; have HX := n2_; clear n1_ n2_; have b1 : W1.cell? ⟨wr.heap.size, 1, none⟩ = some (.int .i64 x1) := (blk_cell HX.out 1).trans rfl; have b2 : W1.cell? ⟨wr.heap.size, 2, none⟩ = some (.string x2) := (blk_cell HX.out 2).trans rfl))
            go_roundw
            case rel => exact ⟨j + 1, by go_num, by omega, _, HT, Aside0.mk (HFar.out.more)⟩
            case measure => simp [intOf]; omega
          · have z2 : (q == 2) = false := by rw [beq_eq_false_iff_ne]; exact q2
            by_cases q3 : q = 3
            · subst q3
              go_wp2_with (first
                | (go_at_call 38; (with_reducible refine (HT.out.c38 x1 HM.out).mono ?_); rintro x W1 ⟨rfl, ht, hx⟩; have n1_ := Aside0.mk ht; have n2_ := Aside0.mk (hx _ _ HX.out); clear ht hx HT HX; try clear b1; try clear b2; have HT := n1_; have HX := n2_; clear n1_ n2_; have b1 : W1.cell? ⟨wr.heap.size, 1, none⟩ = some (.int .i64 x1) := (blk_cell HX.out 1).trans rfl; have b2 : W1.cell? ⟨wr.heap.size, 2, none⟩ = some (.string x2) := (blk_cell HX.out 2).trans rfl)
                | (go_at_call 39; (with_reducible refine (HT.out.c39 x1 HM.out).mono ?_); rintro x W1 ⟨rfl, ht, hx⟩; have n1_ := Aside0.mk ht; have n2_ := Aside0.mk (hx _ _ HX.out); clear ht hx HT HX; try clear b1; try clear b2; have HT := n1_; have HX := n2_; clear n1_ n2_; have b1 : W1.cell? ⟨wr.heap.size, 1, none⟩ = some (.int .i64 x1) := (blk_cell HX.out 1).trans rfl; have b2 : W1.cell? ⟨wr.heap.size, 2, none⟩ = some (.string x2) := (blk_cell HX.out 2).trans rfl)
                | (go_at_call 42; (with_reducible refine (HT.out.c42).mono ?_); rintro x W1 ⟨rfl, ht, hx⟩; have n1_ := Aside0.mk ht; have n2_ := Aside0.mk (hx _ _ HX.out); clear ht hx HT HX; try clear b1; try clear b2; have HT := n1_; have HX := n2_; clear n1_ n2_; have b1 : W1.cell? ⟨wr.heap.size, 1, none⟩ = some (.int .i64 x1) := (blk_cell HX.out 1).trans rfl; have b2 : W1.cell? ⟨wr.heap.size, 2, none⟩ = some (.string x2) := (blk_cell HX.out 2).trans rfl)
                | (go_at_call 43; (with_reducible refine (HT.out.c43).mono ?_); rintro x W1 ⟨rfl, ht, hx⟩; have n1_ := Aside0.mk ht; have n2_ := Aside0.mk (hx _ _ HX.out); clear ht hx HT HX; try clear b1; try clear b2; have HT := n1_; have HX := n2_; clear n1_ n2_; have b1 : W1.cell? ⟨wr.heap.size, 1, none⟩ = some (.int .i64 x1) := (blk_cell HX.out 1).trans rfl; have b2 : W1.cell? ⟨wr.heap.size, 2, none⟩ = some (.string x2) := (blk_cell HX.out 2).trans rfl)
                | (go_at_call 44; (with_reducible refine (HT.out.c44).mono ?_); rintro x W1 ⟨rfl, ht, hx⟩; have n1_ := Aside0.mk ht; have n2_ := Aside0.mk (hx _ _ HX.out); clear ht hx HT HX; try clear b1; try clear b2; have HT := n1_; have HX := n2_; clear n1_ n2_; have b1 : W1.cell? ⟨wr.heap.size, 1, none⟩ = some (.int .i64 x1) := (blk_cell HX.out 1).trans rfl; have b2 : W1.cell? ⟨wr.heap.size, 2, none⟩ = some (.string x2) := (blk_cell HX.out 2).trans rfl)
                | (go_at_call 45; (with_reducible refine (HT.out.c45).mono ?_); rintro x W1 ⟨rfl, ht, hx⟩; have n1_ := Aside0.mk ht; have n2_ := Aside0.mk (hx _ _ HX.out); clear ht hx HT HX; try clear b1; try clear b2; have HT := n1_; have HX := n2_; clear n1_ n2_; have b1 : W1.cell? ⟨wr.heap.size, 1, none⟩ = some (.int .i64 x1) := (blk_cell HX.out 1).trans rfl; have b2 : W1.cell? ⟨wr.heap.size, 2, none⟩ = some (.string x2) := (blk_cell HX.out 2).trans rfl))
              go_roundw
              case rel => exact ⟨j + 1, by go_num, by omega, _, HT, Aside0.mk (HFar.out.arm _)⟩
              case measure => simp [intOf]; omega
            · have z3 : (q == 3) = false := by rw [beq_eq_false_iff_ne]; exact q3
              by_cases q4 : q = 4
              · subst q4
                go_wp2_with (first
                  | (go_at_call 40; (with_reducible refine (HT.out.c40 HFar.out hk1 x2).mono ?_); rintro x W1 ⟨rfl, ht, hx⟩; have n1_ := Aside0.mk ht; have n2_ := Aside0.mk (hx _ _ HX.out); clear ht hx HT HX; try clear b1; try clear b2; have HT := n1_; have HX := n2_; clear n1_ n2_; have b1 : W1.cell? ⟨wr.heap.size, 1, none⟩ = some (.int .i64 x1) := (blk_cell HX.out 1).trans rfl; have b2 : W1.cell? ⟨wr.heap.size, 2, none⟩ = some (.string x2) := (blk_cell HX.out 2).trans rfl)
                  | (go_at_call 41; (with_reducible refine (HT.out.c41 HFar.out hk1 x2).mono ?_); rintro x W1 ⟨rfl, ht, hx⟩; have n1_ := Aside0.mk ht; have n2_ := Aside0.mk (hx _ _ HX.out); clear ht hx HT HX; try clear b1; try clear b2; have HT := n1_; have HX := n2_; clear n1_ n2_; have b1 : W1.cell? ⟨wr.heap.size, 1, none⟩ = some (.int .i64 x1) := (blk_cell HX.out 1).trans rfl; have b2 : W1.cell? ⟨wr.heap.size, 2, none⟩ = some (.string x2) := (blk_cell HX.out 2).trans rfl)
                  | (go_at_call 42; (with_reducible refine (HT.out.c42).mono ?_); rintro x W1 ⟨rfl, ht, hx⟩; have n1_ := Aside0.mk ht; have n2_ := Aside0.mk (hx _ _ HX.out); clear ht hx HT HX; try clear b1; try clear b2; have HT := n1_; have HX := n2_; clear n1_ n2_; have b1 : W1.cell? ⟨wr.heap.size, 1, none⟩ = some (.int .i64 x1) := (blk_cell HX.out 1).trans rfl; have b2 : W1.cell? ⟨wr.heap.size, 2, none⟩ = some (.string x2) := (blk_cell HX.out 2).trans rfl)
                  | (go_at_call 43; (with_reducible refine (HT.out.c43).mono ?_); rintro x W1 ⟨rfl, ht, hx⟩; have n1_ := Aside0.mk ht; have n2_ := Aside0.mk (hx _ _ HX.out); clear ht hx HT HX; try clear b1; try clear b2; have HT := n1_; have HX := n2_; clear n1_ n2_; have b1 : W1.cell? ⟨wr.heap.size, 1, none⟩ = some (.int .i64 x1) := (blk_cell HX.out 1).trans rfl; have b2 : W1.cell? ⟨wr.heap.size, 2, none⟩ = some (.string x2) := (blk_cell HX.out 2).trans rfl)
                  | (go_at_call 44; (with_reducible refine (HT.out.c44).mono ?_); rintro x W1 ⟨rfl, ht, hx⟩; have n1_ := Aside0.mk ht; have n2_ := Aside0.mk (hx _ _ HX.out); clear ht hx HT HX; try clear b1; try clear b2; have HT := n1_; have HX := n2_; clear n1_ n2_; have b1 : W1.cell? ⟨wr.heap.size, 1, none⟩ = some (.int .i64 x1) := (blk_cell HX.out 1).trans rfl; have b2 : W1.cell? ⟨wr.heap.size, 2, none⟩ = some (.string x2) := (blk_cell HX.out 2).trans rfl)
                  | (go_at_call 45; (with_reducible refine (HT.out.c45).mono ?_); rintro x W1 ⟨rfl, ht, hx⟩; have n1_ := Aside0.mk ht; have n2_ := Aside0.mk (hx _ _ HX.out); clear ht hx HT HX; try clear b1; try clear b2; have HT := n1_; have HX := n2_; clear n1_ n2_; have b1 : W1.cell? ⟨wr.heap.size, 1, none⟩ = some (.int .i64 x1) := (blk_cell HX.out 1).trans rfl; have b2 : W1.cell? ⟨wr.heap.size, 2, none⟩ = some (.string x2) := (blk_cell HX.out 2).trans rfl))
                go_roundw
                case rel => exact ⟨j + 1, by go_num, by omega, _, HT, Aside0.mk (HFar.out.restart x2)⟩
                case measure => simp [intOf]; omega
              · have z4 : (q == 4) = false := by rw [beq_eq_false_iff_ne]; exact q4
                go_wp2_with (first
                  | (go_at_call 42; (with_reducible refine (HT.out.c42).mono ?_); rintro x W1 ⟨rfl, ht, hx⟩; have n1_ := Aside0.mk ht; have n2_ := Aside0.mk (hx _ _ HX.out); clear ht hx HT HX; try clear b1; try clear b2; have HT := n1_; have HX := n2_; clear n1_ n2_; have b1 : W1.cell? ⟨wr.heap.size, 1, none⟩ = some (.int .i64 x1) := (blk_cell HX.out 1).trans rfl; have b2 : W1.cell? ⟨wr.heap.size, 2, none⟩ = some (.string x2) := (blk_cell HX.out 2).trans rfl)
                  | (go_at_call 43; (with_reducible refine (HT.out.c43).mono ?_); rintro x W1 ⟨rfl, ht, hx⟩; have n1_ := Aside0.mk ht; have n2_ := Aside0.mk (hx _ _ HX.out); clear ht hx HT HX; try clear b1; try clear b2; have HT := n1_; have HX := n2_; clear n1_ n2_; have b1 : W1.cell? ⟨wr.heap.size, 1, none⟩ = some (.int .i64 x1) := (blk_cell HX.out 1).trans rfl; have b2 : W1.cell? ⟨wr.heap.size, 2, none⟩ = some (.string x2) := (blk_cell HX.out 2).trans rfl)
                  | (go_at_call 44; (with_reducible refine (HT.out.c44).mono ?_); rintro x W1 ⟨rfl, ht, hx⟩; have n1_ := Aside0.mk ht; have n2_ := Aside0.mk (hx _ _ HX.out); clear ht hx HT HX; try clear b1; try clear b2; have HT := n1_; have HX := n2_; clear n1_ n2_; have b1 : W1.cell? ⟨wr.heap.size, 1, none⟩ = some (.int .i64 x1) := (blk_cell HX.out 1).trans rfl; have b2 : W1.cell? ⟨wr.heap.size, 2, none⟩ = some (.string x2) := (blk_cell HX.out 2).trans rfl)
                  | (go_at_call 45; (with_reducible refine (HT.out.c45).mono ?_); rintro x W1 ⟨rfl, ht, hx⟩; have n1_ := Aside0.mk ht; have n2_ := Aside0.mk (hx _ _ HX.out); clear ht hx HT HX; try clear b1; try clear b2; have HT := n1_; have HX := n2_; clear n1_ n2_; have b1 : W1.cell? ⟨wr.heap.size, 1, none⟩ = some (.int .i64 x1) := (blk_cell HX.out 1).trans rfl; have b2 : W1.cell? ⟨wr.heap.size, 2, none⟩ = some (.string x2) := (blk_cell HX.out 2).trans rfl))
                go_roundw
                case rel => exact ⟨j + 1, by go_num, by omega, _, HT, Aside0.mk (HFar.out.more)⟩
                case measure => simp [intOf]; omega
    · have l2 : decide ((j : Int) < (l.length : Int)) = false := decide_eq_false (by omega)
      have l3 : decide (j < l.length) = false := decide_eq_false hlt
      go_wp2_with (go_at_call 46; (with_reducible refine (HT.out.c46).mono ?_); rintro x W1 ⟨rfl, hb⟩; have HZ := Aside0.mk hb; clear hb)
      go_ret
      exact ⟨rfl, HZ.out⟩
theorem disks_walk (n : Int) (l : List S23) (A : Option Addr) (c : Nat) (w : World) (hr0 : Kd.C k23 w A l.length l) (hc0 : l.length ≤ c) (hmx : ∀ y ∈ l, y.f1 ≤ 9223372036854775807) : Calls Try.prog 7 #[.int .i64 n, .slice A l.length c] w fun e w' => e = .returned (.bool true) ∧ Below w.heap.size w w' := by
  by_cases h8 : n ≤ 8
  · by_cases hl : 60 < l.length
    · exact disks_d n l A c w hr0 hc0 hmx h8 hl
    · by_cases h1 : n < 1
      · exact disks_e n l A c w hr0 hc0 hmx h1 hl
      · exact disks_main n l A c w hr0 hc0 hmx (by omega) h8 hl
  · by_cases h4 : n ≤ 4096
    · exact disks_a n l A c w hr0 hc0 hmx (by omega) h4
    · by_cases hl : 60 < l.length
      · exact disks_b n l A c w hr0 hc0 hmx (by omega) hl
      · exact disks_c n l A c w hr0 hc0 hmx (by omega) hl
end Go.Proofs.Ytkedodmlbepfnaa.Lg
set_option linter.unusedSimpArgs false
set_option linter.unusedVariables false
namespace Go.Proofs.Ytkedodmlbepfnaa.Lg
open Go.RowKit Go.Proofs.YtkedodmlbepfnaaW.PrintWords Go.Proofs.YtkedodmlbepfnaaW.PrintLast Go.Proofs.YtkedodmlbepfnaaW.PrintMore Go.Proofs.Ytkedodmlbepfnaa.Rg
open Go.ChangeShapes Go.WideShapes
theorem cells52 : Try.prog.cellsOf 52 = 3 := by kernel_rfl
set_option maxRecDepth 100000 in
theorem diskop_of {H : Type} {enc : TypeId × Value → H} {w : World} {base : Nat} {spare : Nat → Bool} {held : Bool} {n : Nat} {cs : List Value} {x : DataW H × List MemPlace}
    (h : DataW.trod enc Try.prog w base spare held n 52 cs = some x) : ∃ e : S23, cs = [.int .i64 e.f0, .int .i64 e.f1, .string e.f2] ∧ e.f1 ≤ 9223372036854775807 := by
  obtain ⟨y0, y1, y2, m, _, hl, h0, h1, h2⟩ := Deep.trod_struct3 Try.underlying52 h
  obtain ⟨a, ha, _⟩ := DataW.trod_int Try.underlying3 h0
  obtain ⟨b, hb, _, hwf⟩ := DataW.trod_int Try.underlying3 h1
  obtain ⟨s, hs, _⟩ := DataW.trod_string Try.underlying9 h2
  simp only [cells3] at ha hb
  simp only [cells9] at hs
  simp only [cells52] at hl
  match cs, hl with
  | [c0, c1, c2], _ =>
    simp at ha hb hs
    subst ha hb hs
    refine ⟨⟨a, b, s⟩, rfl, ?_⟩
    simp only [Lit.wf, Bool.and_eq_true, decide_eq_true_eq] at hwf
    have h2 : (IntKind.max .i64) = 9223372036854775807 := rfl
    show b ≤ _
    omega
theorem diskops_of {H : Type} {enc : TypeId × Value → H} {w : World} {spare : Nat → Bool} {held : Bool} {a : Option Addr} {len cap : Nat} {d : DataW H} {ps : List MemPlace}
    (h : DataW.Trod enc Try.prog w 0 spare held 44 (.slice a len cap) d ps) : ∃ l : List S23, len = l.length ∧ l.length ≤ cap ∧ Kd.C k23 w a l.length l ∧ ∀ y ∈ l, y.f1 ≤ 9223372036854775807 := by
  obtain ⟨fuel, hf⟩ := h
  rcases Deep.open_slice Try.underlying44 hf with ⟨hcs, _⟩ | ⟨ad, l, c, m, n, D, Pl, hcs, _, hl, hm, hmm, _, hall⟩
  · simp [Value.cells] at hcs
    obtain ⟨rfl, rfl, rfl⟩ := hcs
    exact ⟨[], rfl, Nat.le_refl _, Kd.C_nil _ _, fun y hy => by cases hy⟩
  · simp [Value.cells] at hcs
    obtain ⟨rfl, rfl, rfl⟩ := hcs
    simp only [cells52] at hall
    have hlm : len ≤ m := by rw [hmm]; split <;> omega
    haveI : Inhabited S23 := ⟨z23⟩
    obtain ⟨F, hF⟩ := Deep.choose_lt (n := len) (p := fun i (e : S23) => w.cells? 0 (ad.add (i * 3)) 3 = some [.int .i64 e.f0, .int .i64 e.f1, .string e.f2] ∧ e.f1 ≤ 9223372036854775807) (fun i hi => by
      obtain ⟨cs', h1, h2⟩ := hall i (by omega)
      obtain ⟨e, rfl, hm⟩ := diskop_of h2
      exact ⟨e, h1, hm⟩)
    refine ⟨(List.range len).map F, by simp, by simpa using hl, ⟨by simp, by simp only [maxLen] at hm; simp; omega, fun _ => ⟨ad, rfl, fun j p hj => ?_⟩⟩, fun y hy => ?_⟩
    · rw [List.getElem?_map] at hj
      obtain ⟨i, hi, rfl⟩ := Option.map_eq_some_iff.1 hj
      obtain ⟨hlt, rfl⟩ := List.getElem?_eq_some_iff.1 hi
      simp at hlt
      simp only [List.getElem_range]
      refine ⟨_, rfl, k23_mk w (F j), fun i u hu => ?_⟩
      have hc := World.cells?_some (hF j hlt).1
      have hi3 : i < 3 := by
        rcases Nat.lt_or_ge i 3 with h | h
        · exact h
        · rw [List.getElem?_eq_none (by simpa using h)] at hu; cases hu
      have h2 := hc.2.2 i hi3
      rw [hu, Deep.add_add] at h2
      exact h2
    · obtain ⟨i, hi, rfl⟩ := List.mem_map.1 hy
      exact (hF i (List.mem_range.1 hi)).2
end Go.Proofs.Ytkedodmlbepfnaa.Lg
namespace Go.Proofs.Ytkedodmlbepfnaa.ledgerDisks
open Go.ChangeShapes Go.WideShapes Go.ChangeAt Go.RowKit
open Go.ChangeMaps (open_string shut_string)
set_option linter.unusedVariables false
theorem own : ownKnob Try.prog.godebug = none := by kernel_rfl
theorem laidOut : laidOutB Try.prog = true := by kernel_rfl
set_option maxRecDepth 100000 in
theorem lifted (os : Os) (started : os.Started) (H : Type) (enc : TypeId × Value → H) :
    ReturnsInHanded {} Try.checked os 7 .any (Rows.ledgerDisksSpec.pre6 enc Try.prog Try.f7 Rows.ledgerDisksRow.domain false) (Rows.ledgerDisksSpec.post enc Try.prog Try.f7 false true false false) := by
  refine returnsInHanded_of_change_sized (C := Try.checked) own started (by kernel_rfl) Try.func7
    (ChangeSpec.witness6 (enc := enc) (C := Try.checked) false ⟨#[], #[.int .i64 0, .slice none 0 0], []⟩ 8 (by kernel_rfl) (by kernel_rfl) (by kernel_rfl) (by kernel_rfl)) ?_
  intro W base args ds gs before hval0 hW hcnd hsz0 _
  have hval : ∀ (j : Nat) t v, Try.f7.params[j]? = some t → args[j]? = some v → Value.okWide Try.prog W .any base t v := hval0
  have hW' := hW
  obtain ⟨p, q, hA0, hV, rfl, hfz, hnd⟩ := hW
  have hA : DataW.TrodAll enc Try.prog W 0 (fun _ => true) true Try.f7.params.toList args.toList ds p := hA0
  rw [Try.params7] at hA hval
  obtain ⟨v0, vs0, d0, ds0, p0, q0, hargs, rfl, rfl, h0, r0⟩ := trodAll_cons hA
  obtain ⟨v1, vs1, d1, ds1, p1, q1, rfl, rfl, rfl, h1, r1⟩ := trodAll_cons r0
  obtain ⟨rfl, rfl, rfl⟩ := trodAll_nil r1
  obtain rfl : args = #[v0, v1] := by cases args; simp_all
  obtain ⟨rfl, rfl⟩ := trodVars_none hV
  obtain ⟨a0, rfl, rfl, rfl, w0⟩ := open_int Try.underlying3 (hval 0 3 v0 rfl rfl) h0
  obtain ⟨a1, len1, cap1, rfl⟩ := okWide_slice Try.underlying44 (hval 1 44 v1 rfl rfl)
  have k1 := h1
  have lt1 : ∀ x ∈ p1, x.block < W.heap.size := by obtain ⟨m, hm⟩ := k1; exact DataW.trod_lt m _ _ _ hm
  obtain ⟨z1, rfl, c1, w1, u1⟩ := Lg.diskops_of h1
  clear hA0 hval0 hsz0
  refine (Lg.disks_walk a0 z1 a1 cap1 W w1 c1 u1).mono fun e W' ⟨he, bel⟩ => ?_
  subst he
  exact ⟨_, rfl, _, _, _, [], _, [], hW', trodAll_mk1 (shut_bool Try.underlying4 _), (trodAll_cons_mk (shut_int Try.underlying3 w0) (trodAll_cons_mk (Below.trod laidOut (by kernel_rfl) (of_decide_eq_true (by kernel_rfl)) k1 bel lt1) trodAll_mk0)), rfl, bel.frame _, fun h => by cases h⟩
theorem over : Rows.ledgerDisksRow.holds Try.pinned (OpenSpec.ofChange Rows.ledgerDisksSpec) :=
  OpenClaim.holds_of_wide 7 Try.f7 rfl rfl rfl rfl rfl rfl rfl ⟨rfl, rfl, rfl, rfl, rfl⟩ rfl rfl rfl rfl rfl (by kernel_rfl) Try.func7 (by kernel_rfl)
    (of_decide_eq_true (by kernel_rfl)) (by unfold Func.isWrapper; first | (rw [if_pos (by decide +kernel)]; kernel_rfl) | (rw [if_neg (by decide +kernel)]; exact ⟨rfl, rfl⟩))
    (fun os started H enc _ => lifted os started H enc)
theorem proved : Rows.LedgerDisksSaid := over
#print axioms proved
end Go.Proofs.Ytkedodmlbepfnaa.ledgerDisks
namespace Go.Proofs.Ytkedodmlbepfnaa
/-- The row, under a short name, for the claim. -/
theorem ledgerDisks_holds : Rows.LedgerDisksSaid := ledgerDisks.proved
end Go.Proofs.Ytkedodmlbepfnaa
