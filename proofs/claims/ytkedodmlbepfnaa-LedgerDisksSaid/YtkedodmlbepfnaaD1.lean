/- Contracts of the ledger's functions (part 1): what each of them answers and leaves, merged by program out of the session's working texts. No condition beyond those that stand in each. -/
import Derived.Test.YtkedodmlbepfnaaProg
import Derived.Below
import Derived.Deep.Draws
import Derived.Deep.AppendLies
import Derived.Maps.AppendAt
import Derived.OwnWalk
import Derived.Laws.BytesArg
import Derived.Laws.MakeOwn
import Derived.Laws.OwnMore
import Derived.Deep.OwnRows
import Derived.Tactics
import Derived.Lib.ConvBytes
import Derived.Laws.Slices
import Derived.WalkKit
import Derived.KernelRfl
import Derived.RowKit3
import Derived.Deep.LoopGhost
import Derived.Deep.QuietTactic
import Derived.BigQuiet
import Derived.WideLaws
import Derived.Deep.DeepCutAuto
import Derived.Deep.CutBlock
import Derived.Deep.RegionHeld3
import Derived.Laws.Rows
import Derived.Lib.AppendStr
import Derived.ArgAppend
import Derived.Laws.IdiomCopy
import Derived.OrdersHeld
import Derived.Laws.BitsLemmas
import Derived.RowKit
import Derived.Test.YtkedodmlbepfnaaWWords
import Derived.Test.YtkedodmlbepfnaaWLast
import Derived.Test.YtkedodmlbepfnaaWTab
import Derived.Test.YtkedodmlbepfnaaWFour
import Derived.Test.YtkedodmlbepfnaaWQPut
import Derived.Test.YtkedodmlbepfnaaWApart
import Derived.Test.YtkedodmlbepfnaaWArr
import Derived.Test.YtkedodmlbepfnaaWZeros
import Derived.Test.YtkedodmlbepfnaaWFoot
import Derived.Test.YtkedodmlbepfnaaWKept
import Derived.Test.YtkedodmlbepfnaaWShare
import Derived.Test.YtkedodmlbepfnaaWN
import Derived.Test.YtkedodmlbepfnaaWFootNe
import Derived.Test.YtkedodmlbepfnaaWAt
import Derived.Test.YtkedodmlbepfnaaWEqStruct
import Derived.Test.YtkedodmlbepfnaaWRepsOne
import Derived.Test.YtkedodmlbepfnaaWInv
import Derived.Test.YtkedodmlbepfnaaWInvWords
import Derived.Test.YtkedodmlbepfnaaWGuard
import Derived.Test.YtkedodmlbepfnaaWNEv
import Derived.Test.YtkedodmlbepfnaaWMore
import Derived.Deep.Onto
import Derived.Deep.MidRow
import Derived.Laws.CopyRow
import Derived.Great.BuildSlice
import Derived.Great.FillDense
import Derived.Lib.SliceRun
import Derived.Lib.Walk
import Derived.Defers
import Derived.Recover
import Derived.BigRegion
import Derived.Deep.WholeRow
import Derived.Deep.RegionHeld
import Derived.WideMake
import Derived.Laws.StructEq
import Derived.LoopN
import Derived.Laws.AppendOwnNone
import Derived.Deep.Slices
import Derived.Deep.Strs
import Derived.ProofKit
-- from the working text Lg0
namespace Go.Proofs.Ytkedodmlbepfnaa.Lg
open Go.RowKit Go.Proofs.YtkedodmlbepfnaaW.PrintWords Go.Proofs.YtkedodmlbepfnaaW.PrintLast Go.Proofs.YtkedodmlbepfnaaW.PrintMore
attribute [local go_sem] max2_int min2_int max_two min_two max_three min_three max_four min_four   -- for this text's walks alone
set_option linter.unusedVariables false
set_option linter.unusedSimpArgs false
def errW : Option Int → Value
  | none => .nilIface
  | some c => .iface 0 (.int .i64 c)
theorem errW_none : errW none = .nilIface := rfl
theorem errW_some (c : Int) : errW (some c) = .iface 0 (.int .i64 c) := rfl
theorem info5 : (Try.prog.info? 5).map (fun i => (i.zero, i.size, i.bytes)) = some (some (.int .u8 0), 1, 1) := by kernel_rfl
theorem info23 : (Try.prog.info? 23).map (fun i => (i.zero, i.size, i.bytes)) = some (some (.agg #[(.int .i64 0), (.int .i64 0), (.string ⟨#[]⟩)]), 3, 32) := by kernel_rfl
theorem info25 : (Try.prog.info? 25).map (fun i => (i.zero, i.size, i.bytes)) = some (some (.int .u64 0), 1, 8) := by kernel_rfl
structure S23 where
  f0 : Int
  f1 : Int
  f2 : ByteArray
def z23 : S23 := ⟨(0 : Int), (0 : Int), (⟨#[]⟩ : ByteArray)⟩
def k23 : Kd S23 := Kd.iso (Kd.pair (Kd.int .i64) (Kd.pair (Kd.int .i64) Kd.string)) (fun x : S23 => (x.f0, x.f1, x.f2))
theorem k23_open {w : World} {x : S23} {cs : List Value} (h : k23.K w x cs) : cs = [.int .i64 x.f0, .int .i64 x.f1, .string x.f2] := by
  obtain ⟨_, _, rfl, rfl, ⟨_, _, rfl, rfl, rfl⟩⟩ := h
  exact rfl
theorem k23_mk (w : World) (x : S23)  : k23.K w x [.int .i64 x.f0, .int .i64 x.f1, .string x.f2] := ⟨[.int .i64 x.f0], [.int .i64 x.f1, .string x.f2], rfl, rfl, ⟨[.int .i64 x.f1], [.string x.f2], rfl, rfl, rfl⟩⟩
theorem k23_mkM (w : World) (base : Nat) (ok : Nat → Prop) (x : S23)  : k23.M w base ok x [.int .i64 x.f0, .int .i64 x.f1, .string x.f2] := ⟨[.int .i64 x.f0], [.int .i64 x.f1, .string x.f2], rfl, rfl, ⟨[.int .i64 x.f1], [.string x.f2], rfl, rfl, rfl⟩⟩
def rd_T23 (xs : List S23) (i : Int) : S23 := xs.getD i.toNat z23
theorem at_T23 {w : World} {A : Option Addr} {n : Nat} {xs : List S23} (h : Kd.C k23 w A n xs) (i : Int) (h0 : 0 ≤ i) (h1 : i < n) : ∃ ad , A = some ad ∧ w.cell? (ad.add (i.toNat * 3)) = some (.int .i64 (rd_T23 xs i).f0) ∧ w.cell? ⟨(ad.add (i.toNat * 3)).block, (ad.add (i.toNat * 3)).off + 1, none⟩ = some (.int .i64 (rd_T23 xs i).f1) ∧ w.cell? ⟨(ad.add (i.toNat * 3)).block, (ad.add (i.toNat * 3)).off + 2, none⟩ = some (.string (rd_T23 xs i).f2) := by
  obtain ⟨ad, c, e, _, hK, hc0⟩ := Kd.C_get h z23 i h0 h1
  have hc : ∀ j u, c[j]? = some u → w.cell? (ad.add (i.toNat * 3 + j)) = some u := hc0
  obtain rfl := k23_open hK
  exact ⟨ad, e, hc 0 _ rfl, by rw [← add_field _ _ 1 (by omega)]; exact hc 1 _ rfl, by rw [← add_field _ _ 2 (by omega)]; exact hc 2 _ rfl⟩
structure S126 where
  f0 : Int
  f1 : ByteArray
def k126 : Kd S126 := Kd.iso (Kd.pair (Kd.int .i64) Kd.string) (fun x : S126 => (x.f0, x.f1))
end Go.Proofs.Ytkedodmlbepfnaa.Lg

-- from the working text Lg1
namespace Go.Proofs.Ytkedodmlbepfnaa.Lg
open Go.RowKit Go.Proofs.YtkedodmlbepfnaaW.PrintWords Go.Proofs.YtkedodmlbepfnaaW.PrintLast Go.Proofs.YtkedodmlbepfnaaW.PrintMore
attribute [local go_sem] max2_int min2_int max_two min_two max_three min_three max_four min_four   -- for this text's walks alone
set_option linter.unusedVariables false
set_option linter.unusedSimpArgs false
def ledger_CheckEntry.f (a0_0 : Int) (a0_1 : Int) (a0_2 : ByteArray) : Option (Int) := if a0_0 < 0 then (some 90) else (if a0_0 ≥ 8 then (some 90) else (if a0_1 < 0 then (some 90) else (if a0_1 ≥ 64 then (some 90) else (if (a0_2.size : Int) > 2400 then (some 90) else (some 0)))))
set_option maxHeartbeats 8000000 in
set_option maxRecDepth 100000 in
theorem ledger_CheckEntry.calls (a0_0 : Int) (a0_1 : Int) (a0_2 : ByteArray) (r : Int) (w : World) (h : ledger_CheckEntry.f a0_0 a0_1 a0_2 = some r) :
    Calls Try.prog 16 #[.agg #[.int .i64 a0_0, .int .i64 a0_1, .string a0_2]] w fun e w' => e = .returned (.int .i64 r) ∧ Below w.heap.size w w' := by
  have hu23 := Try.underlying23
  have HB := Aside0.mk (Below.refl w.heap.size w)
  have H : (if a0_0 < 0 then (some 90) else (if a0_0 ≥ 8 then (some 90) else (if a0_1 < 0 then (some 90) else (if a0_1 ≥ 64 then (some 90) else (if (a0_2.size : Int) > 2400 then (some 90) else (some 0)))))) = some r := h
  clear h
  by_cases c2 : a0_0 < 0
  · rw [if_pos c2] at H
    have c2b0 : decide (a0_0 < 0) = true := decide_eq_true c2
    clear c2
    obtain rfl := Option.some.inj H
    go_enter Try.func16, Try.ntmps16
    go_wp2_with (first | ((with_reducible refine gate_dst (N := 1) rfl ?_); (try (refine gate_guard (by rfl) ?_; dsimp only)); refine box_event ?hg (N := 1) ?hd (cs := #[.int .i64 a0_0, .int .i64 a0_1, .string a0_2]) (t := 23) ?hr ?_; (case hd => rfl); (case hg => rfl); (case hr => first | (go_simp; done) | (go_simp; rfl)); intro gb101 hg w3 hbox hb; have n0_ := Aside0.mk (below_step (by repeat (first | (with_reducible first | exact HB.out | apply below_alloc | apply pw_below_drewN | apply below_drew1) | exact HB.out)) hb); have n1_ := Aside0.mk (hbox); have n2_ := Aside0.mk ((by rw [hg]; exact (below_size (by repeat (first | (with_reducible first | exact HB.out | apply below_alloc | apply pw_below_drewN | apply below_drew1) | exact HB.out))) : w.heap.size ≤ gb101)); have n3_ := Aside0.mk ((by rw [hg]; exact (below_size (by repeat (first | (with_reducible first | exact HB.out | apply below_alloc | apply pw_below_drewN | apply below_drew1) | exact HB.out))) : w.heap.size ≤ gb101)); clear HB; have HB := n0_; have BK101 := n1_; have GW101 := n2_; have GE101 := n3_; clear n0_ n1_ n2_ n3_; clear hb hbox hg; have hcz4_0 : w3.cell? ⟨gb101, 0, none⟩ = some (.int .i64 a0_0) := (blk_cell BK101.out 0).trans rfl; have hcz4_1 : w3.cell? ⟨gb101, 1, none⟩ = some (.int .i64 a0_1) := (blk_cell BK101.out 1).trans rfl; have hcz4_2 : w3.cell? ⟨gb101, 2, none⟩ = some (.string a0_2) := (blk_cell BK101.out 2).trans rfl; have hfz4_0 := blk_frozen BK101.out 0; have hfz4_1 := blk_frozen BK101.out 1; have hfz4_2 := blk_frozen BK101.out 2))
    go_ret
    exact ⟨by first | rfl | (simp [errW_none, errW_some] <;> rfl) | (simp [*, errW_none, errW_some] <;> rfl), by repeat (first | (with_reducible first | exact HB.out | apply below_alloc | apply pw_below_drewN | apply below_drew1 | refine below_set ?_ GE101.out) | exact HB.out)⟩
  · rw [if_neg c2] at H
    have c2b0 : decide (a0_0 < 0) = false := decide_eq_false c2
    clear c2
    by_cases c5 : a0_0 ≥ 8
    · rw [if_pos c5] at H
      have c5b0 : decide (8 ≤ a0_0) = true := decide_eq_true c5
      clear c5
      obtain rfl := Option.some.inj H
      go_enter Try.func16, Try.ntmps16
      go_wp2_with (first | ((with_reducible refine gate_dst (N := 1) rfl ?_); (try (refine gate_guard (by rfl) ?_; dsimp only)); refine box_event ?hg (N := 1) ?hd (cs := #[.int .i64 a0_0, .int .i64 a0_1, .string a0_2]) (t := 23) ?hr ?_; (case hd => rfl); (case hg => rfl); (case hr => first | (go_simp; done) | (go_simp; rfl)); intro gb101 hg w6 hbox hb; have n0_ := Aside0.mk (below_step (by repeat (first | (with_reducible first | exact HB.out | apply below_alloc | apply pw_below_drewN | apply below_drew1) | exact HB.out)) hb); have n1_ := Aside0.mk (hbox); have n2_ := Aside0.mk ((by rw [hg]; exact (below_size (by repeat (first | (with_reducible first | exact HB.out | apply below_alloc | apply pw_below_drewN | apply below_drew1) | exact HB.out))) : w.heap.size ≤ gb101)); have n3_ := Aside0.mk ((by rw [hg]; exact (below_size (by repeat (first | (with_reducible first | exact HB.out | apply below_alloc | apply pw_below_drewN | apply below_drew1) | exact HB.out))) : w.heap.size ≤ gb101)); clear HB; have HB := n0_; have BK101 := n1_; have GW101 := n2_; have GE101 := n3_; clear n0_ n1_ n2_ n3_; clear hb hbox hg; have hcz7_0 : w6.cell? ⟨gb101, 0, none⟩ = some (.int .i64 a0_0) := (blk_cell BK101.out 0).trans rfl; have hcz7_1 : w6.cell? ⟨gb101, 1, none⟩ = some (.int .i64 a0_1) := (blk_cell BK101.out 1).trans rfl; have hcz7_2 : w6.cell? ⟨gb101, 2, none⟩ = some (.string a0_2) := (blk_cell BK101.out 2).trans rfl; have hfz7_0 := blk_frozen BK101.out 0; have hfz7_1 := blk_frozen BK101.out 1; have hfz7_2 := blk_frozen BK101.out 2))
      go_ret
      exact ⟨by first | rfl | (simp [errW_none, errW_some] <;> rfl) | (simp [*, errW_none, errW_some] <;> rfl), by repeat (first | (with_reducible first | exact HB.out | apply below_alloc | apply pw_below_drewN | apply below_drew1 | refine below_set ?_ GE101.out) | exact HB.out)⟩
    · rw [if_neg c5] at H
      have c5b0 : decide (8 ≤ a0_0) = false := decide_eq_false c5
      clear c5
      by_cases c8 : a0_1 < 0
      · rw [if_pos c8] at H
        have c8b0 : decide (a0_1 < 0) = true := decide_eq_true c8
        clear c8
        obtain rfl := Option.some.inj H
        go_enter Try.func16, Try.ntmps16
        go_wp2_with (first | ((with_reducible refine gate_dst (N := 1) rfl ?_); (try (refine gate_guard (by rfl) ?_; dsimp only)); refine box_event ?hg (N := 1) ?hd (cs := #[.int .i64 a0_0, .int .i64 a0_1, .string a0_2]) (t := 23) ?hr ?_; (case hd => rfl); (case hg => rfl); (case hr => first | (go_simp; done) | (go_simp; rfl)); intro gb101 hg w9 hbox hb; have n0_ := Aside0.mk (below_step (by repeat (first | (with_reducible first | exact HB.out | apply below_alloc | apply pw_below_drewN | apply below_drew1) | exact HB.out)) hb); have n1_ := Aside0.mk (hbox); have n2_ := Aside0.mk ((by rw [hg]; exact (below_size (by repeat (first | (with_reducible first | exact HB.out | apply below_alloc | apply pw_below_drewN | apply below_drew1) | exact HB.out))) : w.heap.size ≤ gb101)); have n3_ := Aside0.mk ((by rw [hg]; exact (below_size (by repeat (first | (with_reducible first | exact HB.out | apply below_alloc | apply pw_below_drewN | apply below_drew1) | exact HB.out))) : w.heap.size ≤ gb101)); clear HB; have HB := n0_; have BK101 := n1_; have GW101 := n2_; have GE101 := n3_; clear n0_ n1_ n2_ n3_; clear hb hbox hg; have hcz10_0 : w9.cell? ⟨gb101, 0, none⟩ = some (.int .i64 a0_0) := (blk_cell BK101.out 0).trans rfl; have hcz10_1 : w9.cell? ⟨gb101, 1, none⟩ = some (.int .i64 a0_1) := (blk_cell BK101.out 1).trans rfl; have hcz10_2 : w9.cell? ⟨gb101, 2, none⟩ = some (.string a0_2) := (blk_cell BK101.out 2).trans rfl; have hfz10_0 := blk_frozen BK101.out 0; have hfz10_1 := blk_frozen BK101.out 1; have hfz10_2 := blk_frozen BK101.out 2))
        go_ret
        exact ⟨by first | rfl | (simp [errW_none, errW_some] <;> rfl) | (simp [*, errW_none, errW_some] <;> rfl), by repeat (first | (with_reducible first | exact HB.out | apply below_alloc | apply pw_below_drewN | apply below_drew1 | refine below_set ?_ GE101.out) | exact HB.out)⟩
      · rw [if_neg c8] at H
        have c8b0 : decide (a0_1 < 0) = false := decide_eq_false c8
        clear c8
        by_cases c11 : a0_1 ≥ 64
        · rw [if_pos c11] at H
          have c11b0 : decide (64 ≤ a0_1) = true := decide_eq_true c11
          clear c11
          obtain rfl := Option.some.inj H
          go_enter Try.func16, Try.ntmps16
          go_wp2_with (first | ((with_reducible refine gate_dst (N := 1) rfl ?_); (try (refine gate_guard (by rfl) ?_; dsimp only)); refine box_event ?hg (N := 1) ?hd (cs := #[.int .i64 a0_0, .int .i64 a0_1, .string a0_2]) (t := 23) ?hr ?_; (case hd => rfl); (case hg => rfl); (case hr => first | (go_simp; done) | (go_simp; rfl)); intro gb101 hg w12 hbox hb; have n0_ := Aside0.mk (below_step (by repeat (first | (with_reducible first | exact HB.out | apply below_alloc | apply pw_below_drewN | apply below_drew1) | exact HB.out)) hb); have n1_ := Aside0.mk (hbox); have n2_ := Aside0.mk ((by rw [hg]; exact (below_size (by repeat (first | (with_reducible first | exact HB.out | apply below_alloc | apply pw_below_drewN | apply below_drew1) | exact HB.out))) : w.heap.size ≤ gb101)); have n3_ := Aside0.mk ((by rw [hg]; exact (below_size (by repeat (first | (with_reducible first | exact HB.out | apply below_alloc | apply pw_below_drewN | apply below_drew1) | exact HB.out))) : w.heap.size ≤ gb101)); clear HB; have HB := n0_; have BK101 := n1_; have GW101 := n2_; have GE101 := n3_; clear n0_ n1_ n2_ n3_; clear hb hbox hg; have hcz13_0 : w12.cell? ⟨gb101, 0, none⟩ = some (.int .i64 a0_0) := (blk_cell BK101.out 0).trans rfl; have hcz13_1 : w12.cell? ⟨gb101, 1, none⟩ = some (.int .i64 a0_1) := (blk_cell BK101.out 1).trans rfl; have hcz13_2 : w12.cell? ⟨gb101, 2, none⟩ = some (.string a0_2) := (blk_cell BK101.out 2).trans rfl; have hfz13_0 := blk_frozen BK101.out 0; have hfz13_1 := blk_frozen BK101.out 1; have hfz13_2 := blk_frozen BK101.out 2))
          go_ret
          exact ⟨by first | rfl | (simp [errW_none, errW_some] <;> rfl) | (simp [*, errW_none, errW_some] <;> rfl), by repeat (first | (with_reducible first | exact HB.out | apply below_alloc | apply pw_below_drewN | apply below_drew1 | refine below_set ?_ GE101.out) | exact HB.out)⟩
        · rw [if_neg c11] at H
          have c11b0 : decide (64 ≤ a0_1) = false := decide_eq_false c11
          clear c11
          by_cases c14 : (a0_2.size : Int) > 2400
          · rw [if_pos c14] at H
            have c14b0 : decide (2400 < (a0_2.size : Int)) = true := decide_eq_true c14
            have c14b1 : decide (2400 < a0_2.size) = true := decide_eq_true (by omega)
            clear c14
            obtain rfl := Option.some.inj H
            go_enter Try.func16, Try.ntmps16
            go_wp2_with (first | ((with_reducible refine gate_dst (N := 1) rfl ?_); (try (refine gate_guard (by rfl) ?_; dsimp only)); refine box_event ?hg (N := 1) ?hd (cs := #[.int .i64 a0_0, .int .i64 a0_1, .string a0_2]) (t := 23) ?hr ?_; (case hd => rfl); (case hg => rfl); (case hr => first | (go_simp; done) | (go_simp; rfl)); intro gb101 hg w15 hbox hb; have n0_ := Aside0.mk (below_step (by repeat (first | (with_reducible first | exact HB.out | apply below_alloc | apply pw_below_drewN | apply below_drew1) | exact HB.out)) hb); have n1_ := Aside0.mk (hbox); have n2_ := Aside0.mk ((by rw [hg]; exact (below_size (by repeat (first | (with_reducible first | exact HB.out | apply below_alloc | apply pw_below_drewN | apply below_drew1) | exact HB.out))) : w.heap.size ≤ gb101)); have n3_ := Aside0.mk ((by rw [hg]; exact (below_size (by repeat (first | (with_reducible first | exact HB.out | apply below_alloc | apply pw_below_drewN | apply below_drew1) | exact HB.out))) : w.heap.size ≤ gb101)); clear HB; have HB := n0_; have BK101 := n1_; have GW101 := n2_; have GE101 := n3_; clear n0_ n1_ n2_ n3_; clear hb hbox hg; have hcz16_0 : w15.cell? ⟨gb101, 0, none⟩ = some (.int .i64 a0_0) := (blk_cell BK101.out 0).trans rfl; have hcz16_1 : w15.cell? ⟨gb101, 1, none⟩ = some (.int .i64 a0_1) := (blk_cell BK101.out 1).trans rfl; have hcz16_2 : w15.cell? ⟨gb101, 2, none⟩ = some (.string a0_2) := (blk_cell BK101.out 2).trans rfl; have hfz16_0 := blk_frozen BK101.out 0; have hfz16_1 := blk_frozen BK101.out 1; have hfz16_2 := blk_frozen BK101.out 2))
            go_ret
            exact ⟨by first | rfl | (simp [errW_none, errW_some] <;> rfl) | (simp [*, errW_none, errW_some] <;> rfl), by repeat (first | (with_reducible first | exact HB.out | apply below_alloc | apply pw_below_drewN | apply below_drew1 | refine below_set ?_ GE101.out) | exact HB.out)⟩
          · rw [if_neg c14] at H
            have c14b0 : decide (2400 < (a0_2.size : Int)) = false := decide_eq_false c14
            have c14b1 : decide (2400 < a0_2.size) = false := decide_eq_false (by omega)
            clear c14
            obtain rfl := Option.some.inj H
            go_enter Try.func16, Try.ntmps16
            go_wp2_with (first | ((with_reducible refine gate_dst (N := 1) rfl ?_); (try (refine gate_guard (by rfl) ?_; dsimp only)); refine box_event ?hg (N := 1) ?hd (cs := #[.int .i64 a0_0, .int .i64 a0_1, .string a0_2]) (t := 23) ?hr ?_; (case hd => rfl); (case hg => rfl); (case hr => first | (go_simp; done) | (go_simp; rfl)); intro gb101 hg w17 hbox hb; have n0_ := Aside0.mk (below_step (by repeat (first | (with_reducible first | exact HB.out | apply below_alloc | apply pw_below_drewN | apply below_drew1) | exact HB.out)) hb); have n1_ := Aside0.mk (hbox); have n2_ := Aside0.mk ((by rw [hg]; exact (below_size (by repeat (first | (with_reducible first | exact HB.out | apply below_alloc | apply pw_below_drewN | apply below_drew1) | exact HB.out))) : w.heap.size ≤ gb101)); have n3_ := Aside0.mk ((by rw [hg]; exact (below_size (by repeat (first | (with_reducible first | exact HB.out | apply below_alloc | apply pw_below_drewN | apply below_drew1) | exact HB.out))) : w.heap.size ≤ gb101)); clear HB; have HB := n0_; have BK101 := n1_; have GW101 := n2_; have GE101 := n3_; clear n0_ n1_ n2_ n3_; clear hb hbox hg; have hcz18_0 : w17.cell? ⟨gb101, 0, none⟩ = some (.int .i64 a0_0) := (blk_cell BK101.out 0).trans rfl; have hcz18_1 : w17.cell? ⟨gb101, 1, none⟩ = some (.int .i64 a0_1) := (blk_cell BK101.out 1).trans rfl; have hcz18_2 : w17.cell? ⟨gb101, 2, none⟩ = some (.string a0_2) := (blk_cell BK101.out 2).trans rfl; have hfz18_0 := blk_frozen BK101.out 0; have hfz18_1 := blk_frozen BK101.out 1; have hfz18_2 := blk_frozen BK101.out 2))
            go_ret
            exact ⟨by first | rfl | (simp [errW_none, errW_some] <;> rfl) | (simp [*, errW_none, errW_some] <;> rfl), by repeat (first | (with_reducible first | exact HB.out | apply below_alloc | apply pw_below_drewN | apply below_drew1 | refine below_set ?_ GE101.out) | exact HB.out)⟩
def ledger_hash_add.l0 : Nat → Int → List Int → Int → Int → Option (Int)
  | 0, _, _, _, _ => none
  | k + 1, x0, x7, x8, x9 => if x9 < x8 then (if 0 ≤ x9 then (if x9 < (x7.length : Int) then (ledger_hash_add.l0 k (IntKind.u64.wrap ((Go.bits .xor .u64 x0 (IntKind.u64.wrap (rd x7 x9))) * 1099511628211)) x7 x8 (wrap64 (x9 + 1))) else (none)) else (none)) else (some x0)
def ledger_hash_add.f (k : Nat) (a0 : Int) (l1 : List Int) : Option (Int) := ledger_hash_add.l0 k a0 l1 (l1.length : Int) 0
set_option maxHeartbeats 8000000 in
set_option maxRecDepth 100000 in
theorem ledger_hash_add.calls (k : Nat) (a0 : Int) (A1 : Option Addr) (c1 : Nat) (l1 : List Int) (r : Int) (w : World) (hr1 : Kd.C (Kd.int .u8) w A1 l1.length l1) (hc1 : l1.length ≤ c1) (h : ledger_hash_add.f k a0 l1 = some r) :
    Calls Try.prog 72 #[.int .u64 a0, .slice A1 l1.length c1] w fun e w' => e = .returned (.int .u64 r) ∧ Drawn0 w w' := by
  have HR1 := Aside0.mk hr1
  have HC1 := Aside0.mk hc1
  clear hr1 hc1
  have H : (ledger_hash_add.l0 k a0 l1 (l1.length : Int) 0) = some r := h
  clear h
  have H' := Aside0.mk H
  clear H
  go_enter Try.func72, Try.ntmps72
  go_wp2
  go_loopg [0, 9] k (fun kq v0 v9 w' => ∃ (x0_1 : Int) (x9_1 : Int), v0 = .int .u64 x0_1 ∧ v9 = .int .i64 x9_1 ∧ Aside0 (ledger_hash_add.l0 kq x0_1 l1 (l1.length : Int) x9_1 = some r) ∧ Aside0 (kq ≤ k) ∧ Drawn0 w w')
  case atStart => exact ⟨(a0), (0), (by first | rfl | (simp; done) | (simp [*]; done)), (by first | rfl | (simp; done) | (simp [*]; done)), H', ⟨Nat.le_refl _⟩, by repeat (first | exact Drawn0.refl _ | apply Drawn0.step)⟩
  case round =>
    clear H'
    try clear c1
    try clear p2
    obtain ⟨x0_1, x9_1, rfl, rfl, HA, HK1, ⟨m1, rfl⟩⟩ := hrel
    cases gk with
    | zero => exact absurd HA.out (by simp [ledger_hash_add.l0])
    | succ k1 =>
      have H := HA.out
      clear HA
      simp only [ledger_hash_add.l0] at H
      by_cases c3 : x9_1 < (l1.length : Int)
      · rw [if_pos c3] at H
        have c3b0 : decide (x9_1 < (l1.length : Int)) = true := decide_eq_true c3
        clear c3
        by_cases c4 : 0 ≤ x9_1
        · rw [if_pos c4] at H
          have c4b0 : decide (0 ≤ x9_1) = true := decide_eq_true c4
          clear c4
          by_cases c5 : x9_1 < (l1.length : Int)
          · rw [if_pos c5] at H
            have c5b0 : decide (x9_1 < (l1.length : Int)) = true := decide_eq_true c5
            clear c5
            have H' := Aside0.mk H
            clear H
            have p102 : 0 ≤ (x9_1 : Int) := of_decide_eq_true (by first | (with_reducible assumption) | assumption)
            have q102 : x9_1 < (l1.length : Int) := of_decide_eq_true (by first | (with_reducible assumption) | assumption)
            obtain ⟨ad102, e102, hx102_0⟩ := Kd.at_int HR1.out x9_1 p102 q102
            cases e102
            replace p102 := eq_true p102
            replace q102 := eq_true q102
            go_wp2
            go_roundg k1
            case measure => have := HK1.out; omega
            case rel => exact ⟨(IntKind.u64.wrap ((Go.bits .xor .u64 x0_1 (IntKind.u64.wrap (rd l1 x9_1))) * 1099511628211)), (wrap64 (x9_1 + 1)), (by first | rfl | (simp; done) | (simp [*]; done)), (by first | rfl | (simp; done) | (simp [*]; done)), H', ⟨by have := HK1.out; omega⟩, by repeat (first | exact Drawn0.refl _ | apply Drawn0.step)⟩
          · rw [if_neg c5] at H
            exact absurd H (by simp)
        · rw [if_neg c4] at H
          exact absurd H (by simp)
      · rw [if_neg c3] at H
        have c3b0 : decide (x9_1 < (l1.length : Int)) = false := decide_eq_false c3
        clear c3
        obtain rfl := Option.some.inj H
        go_wp2
        go_ret
        exact ⟨by first | rfl | (simp; done) | (simp [*]; done), by repeat (first | exact Drawn0.refl _ | apply Drawn0.step)⟩
def ledger_checkList.l0 : Nat → List (S23) → Int → Int → Option (Int)
  | 0, _, _, _ => none
  | k + 1, x9, x10, x11 => if x11 < x10 then (if 0 ≤ x11 then (if x11 < (x9.length : Int) then ((ledger_CheckEntry.f ((rd_T23 x9 x11).f0) ((rd_T23 x9 x11).f1) ((rd_T23 x9 x11).f2)).bind fun t112 => (if t112 = 0 then (ledger_checkList.l0 k x9 x10 (wrap64 (x11 + 1))) else (some t112))) else (none)) else (none)) else (some 0)
def ledger_checkList.f (k : Nat) (l0 : List (S23)) : Option (Int) := if (l0.length : Int) > 512 then (some 2) else (ledger_checkList.l0 k l0 (l0.length : Int) 0)
set_option maxHeartbeats 8000000 in
set_option maxRecDepth 100000 in
theorem ledger_checkList.calls (k : Nat) (A0 : Option Addr) (c0 : Nat) (l0 : List (S23)) (r : Int) (w : World) (hr0 : Kd.C k23 w A0 l0.length l0) (hc0 : l0.length ≤ c0) (h : ledger_checkList.f k l0 = some r) :
    Calls Try.prog 68 #[.slice A0 l0.length c0] w fun e w' => e = .returned (.int .i64 r) ∧ Below w.heap.size w w' := by
  have hu23 := Try.underlying23
  have HR0 := Aside0.mk hr0
  have HC0 := Aside0.mk hc0
  clear hr0 hc0
  have HB := Aside0.mk (Below.refl w.heap.size w)
  have H : (if (l0.length : Int) > 512 then (some 2) else (ledger_checkList.l0 k l0 (l0.length : Int) 0)) = some r := h
  clear h
  by_cases c2 : (l0.length : Int) > 512
  · rw [if_pos c2] at H
    have c2b0 : decide (512 < (l0.length : Int)) = true := decide_eq_true c2
    have c2b1 : decide (512 < l0.length) = true := decide_eq_true (by omega)
    clear c2
    obtain rfl := Option.some.inj H
    go_enter Try.func68, Try.ntmps68
    go_wp2
    go_ret
    exact ⟨by first | rfl | (simp [errW_none, errW_some] <;> rfl) | (simp [*, errW_none, errW_some] <;> rfl), by repeat (first | (with_reducible first | exact HB.out | apply below_alloc | apply pw_below_drewN | apply below_drew1) | exact HB.out)⟩
  · rw [if_neg c2] at H
    have c2b0 : decide (512 < (l0.length : Int)) = false := decide_eq_false c2
    have c2b1 : decide (512 < l0.length) = false := decide_eq_false (by omega)
    clear c2
    have H' := Aside0.mk H
    clear H
    go_enter Try.func68, Try.ntmps68
    go_wp2
    go_loopg [11] k (fun kq v11 w' => ∃ (x11_1 : Int), v11 = .int .i64 x11_1 ∧ Aside0 (ledger_checkList.l0 kq l0 (l0.length : Int) x11_1 = some r) ∧ Aside0 (kq ≤ k) ∧ Aside0 (Below w.heap.size w w'))
    case atStart => exact ⟨(0), (by first | rfl | (simp; done) | (simp [*]; done)), H', ⟨Nat.le_refl _⟩, ⟨by repeat (first | (with_reducible first | exact HB.out | apply below_alloc | apply pw_below_drewN | apply below_drew1) | exact HB.out)⟩⟩
    case round =>
      clear H'
      try clear c2
      try clear c2b0
      try clear c2b1
      try clear p2
      obtain ⟨x11_1, rfl, HA, HK1, HB⟩ := hrel
      cases gk with
      | zero => exact absurd HA.out (by simp [ledger_checkList.l0])
      | succ k1 =>
        have H := HA.out
        clear HA
        simp only [ledger_checkList.l0] at H
        by_cases c3 : x11_1 < (l0.length : Int)
        · rw [if_pos c3] at H
          have c3b0 : decide (x11_1 < (l0.length : Int)) = true := decide_eq_true c3
          clear c3
          by_cases c4 : 0 ≤ x11_1
          · rw [if_pos c4] at H
            have c4b0 : decide (0 ≤ x11_1) = true := decide_eq_true c4
            clear c4
            by_cases c5 : x11_1 < (l0.length : Int)
            · rw [if_pos c5] at H
              have c5b0 : decide (x11_1 < (l0.length : Int)) = true := decide_eq_true c5
              clear c5
              replace H := Option.bind_eq_some_iff.mp H
              obtain ⟨t112, A60, H⟩ := H
              replace H : (if t112 = 0 then (ledger_checkList.l0 k1 l0 (l0.length : Int) (wrap64 (x11_1 + 1))) else (some t112)) = some r := H
              have A6 := Aside0.mk A60
              clear A60
              by_cases c7 : t112 = 0
              · rw [if_pos c7] at H
                have c7b0 : (t112 == 0) = true := beq_iff_eq.mpr c7
                have c7b1 : (t112 != 0) = false := bne_eq_false_iff_eq.mpr c7
                clear c7
                have H' := Aside0.mk H
                clear H
                have p110 : 0 ≤ (x11_1 : Int) := of_decide_eq_true (by first | (with_reducible assumption) | assumption)
                have q110 : x11_1 < (l0.length : Int) := of_decide_eq_true (by first | (with_reducible assumption) | assumption)
                obtain ⟨ad110, e110, hx110_0, hx110_1, hx110_2⟩ := at_T23 HR0.out x11_1 p110 q110
                cases e110
                replace hx110_0 := (HB.out.cell (World.block_lt_of_cell? w _ hx110_0)).trans hx110_0
                replace hx110_1 := (HB.out.cell (World.block_lt_of_cell? w _ hx110_1)).trans hx110_1
                replace hx110_2 := (HB.out.cell (World.block_lt_of_cell? w _ hx110_2)).trans hx110_2
                replace p110 := eq_true p110
                replace q110 := eq_true q110
                go_wp2_with (first | ((with_reducible refine gate_dst (N := 4) rfl ?_); refine box_event ?hg (N := 4) ?hd (cs := #[.int .i64 0, .int .i64 0, .string (⟨#[]⟩ : ByteArray)]) (t := 23) ?hr ?_; (case hd => rfl); (case hg => rfl); (case hr => first | (go_simp; done) | (go_simp; rfl)); intro gb111 hg w8 hbox hb; have n0_ := Aside0.mk (below_step (by repeat (first | (with_reducible first | exact HB.out | apply below_alloc | apply pw_below_drewN | apply below_drew1) | exact HB.out)) hb); have n1_ := Aside0.mk (hbox); have n2_ := Aside0.mk ((by rw [hg]; exact (below_size (by repeat (first | (with_reducible first | exact HB.out | apply below_alloc | apply pw_below_drewN | apply below_drew1) | exact HB.out))) : w.heap.size ≤ gb111)); have n3_ := Aside0.mk ((by rw [hg]; exact (below_size (by repeat (first | (with_reducible first | exact HB.out | apply below_alloc | apply pw_below_drewN | apply below_drew1) | exact HB.out))) : w.heap.size ≤ gb111)); clear HB; have HB := n0_; have BK111 := n1_; have GW111 := n2_; have GE111 := n3_; clear n0_ n1_ n2_ n3_; clear hb hbox hg; have hcz9_0 : w8.cell? ⟨gb111, 0, none⟩ = some (.int .i64 0) := (blk_cell BK111.out 0).trans rfl; have hcz9_1 : w8.cell? ⟨gb111, 1, none⟩ = some (.int .i64 0) := (blk_cell BK111.out 1).trans rfl; have hcz9_2 : w8.cell? ⟨gb111, 2, none⟩ = some (.string (⟨#[]⟩ : ByteArray)) := (blk_cell BK111.out 2).trans rfl; have hfz9_0 := blk_frozen BK111.out 0; have hfz9_1 := blk_frozen BK111.out 1; have hfz9_2 := blk_frozen BK111.out 2) | ((with_reducible refine gate_callee (f := 16) rfl ?_); refine goesL_ (some 16) rfl rfl Try.func16 (by kernel_rfl) rfl #[.agg #[.int .i64 ((rd_T23 l0 x11_1).f0), .int .i64 ((rd_T23 l0 x11_1).f1), .string ((rd_T23 l0 x11_1).f2)]] rfl (by (try simp only [List.map_toArray, List.map_cons, List.map_nil]); first | done | rfl | (simp only [List.length_drop, List.length_take]; rfl)) ?_; (with_reducible refine (ledger_CheckEntry.calls ((rd_T23 l0 x11_1).f0) ((rd_T23 l0 x11_1).f1) ((rd_T23 l0 x11_1).f2) t112 _ A6.out).mono ?_); rintro e w10 ⟨rfl, hb⟩; refine ⟨_, rfl, ?_⟩; have n0_ := Aside0.mk (blk_below (g := gb111) (o := .cells #[.int .i64 ((rd_T23 l0 x11_1).f0), .int .i64 ((rd_T23 l0 x11_1).f1), .string ((rd_T23 l0 x11_1).f2)] 23 (0, 0)) (by (with_reducible repeat (first | refine blk_drewN ?_ _ | refine blk_drew ?_ | refine blk_alloc ?_ _)); refine blk_put (cs := #[.int .i64 ((rd_T23 l0 x11_1).f0), .int .i64 ((rd_T23 l0 x11_1).f1), .string (⟨#[]⟩ : ByteArray)]) ?_ 2 _ rfl; (with_reducible repeat (first | refine blk_drewN ?_ _ | refine blk_drew ?_ | refine blk_alloc ?_ _)); refine blk_put (cs := #[.int .i64 ((rd_T23 l0 x11_1).f0), .int .i64 0, .string (⟨#[]⟩ : ByteArray)]) ?_ 1 _ rfl; (with_reducible repeat (first | refine blk_drewN ?_ _ | refine blk_drew ?_ | refine blk_alloc ?_ _)); refine blk_put (cs := #[.int .i64 0, .int .i64 0, .string (⟨#[]⟩ : ByteArray)]) ?_ 0 _ rfl; (with_reducible repeat (first | refine blk_drewN ?_ _ | refine blk_drew ?_ | refine blk_alloc ?_ _)); exact BK111.out) hb); have n1_ := Aside0.mk (below_step (by repeat (first | (with_reducible first | exact HB.out | apply below_alloc | apply pw_below_drewN | apply below_drew1 | refine below_set ?_ GE111.out) | exact HB.out)) hb); clear BK111; clear HB; have BK111 := n0_; have HB := n1_; clear n0_ n1_; (try clear hb); (try clear hb2); (try clear hk); (try clear hi)))
                go_roundg k1
                case measure => have := HK1.out; omega
                case rel => exact ⟨(wrap64 (x11_1 + 1)), (by first | rfl | (simp; done) | (simp [*]; done)), H', ⟨by have := HK1.out; omega⟩, ⟨by repeat (first | (with_reducible first | exact HB.out | apply below_alloc | apply pw_below_drewN | apply below_drew1 | refine below_set ?_ GE111.out) | exact HB.out)⟩⟩
              · rw [if_neg c7] at H
                have c7b0 : (t112 == 0) = false := beq_eq_false_iff_ne.mpr c7
                have c7b1 : (t112 != 0) = true := bne_iff_ne.mpr c7
                obtain rfl := Option.some.inj H
                have p110 : 0 ≤ (x11_1 : Int) := of_decide_eq_true (by first | (with_reducible assumption) | assumption)
                have q110 : x11_1 < (l0.length : Int) := of_decide_eq_true (by first | (with_reducible assumption) | assumption)
                obtain ⟨ad110, e110, hx110_0, hx110_1, hx110_2⟩ := at_T23 HR0.out x11_1 p110 q110
                cases e110
                replace hx110_0 := (HB.out.cell (World.block_lt_of_cell? w _ hx110_0)).trans hx110_0
                replace hx110_1 := (HB.out.cell (World.block_lt_of_cell? w _ hx110_1)).trans hx110_1
                replace hx110_2 := (HB.out.cell (World.block_lt_of_cell? w _ hx110_2)).trans hx110_2
                replace p110 := eq_true p110
                replace q110 := eq_true q110
                go_wp2_with (first | ((with_reducible refine gate_dst (N := 4) rfl ?_); refine box_event ?hg (N := 4) ?hd (cs := #[.int .i64 0, .int .i64 0, .string (⟨#[]⟩ : ByteArray)]) (t := 23) ?hr ?_; (case hd => rfl); (case hg => rfl); (case hr => first | (go_simp; done) | (go_simp; rfl)); intro gb111 hg w11 hbox hb; have n0_ := Aside0.mk (below_step (by repeat (first | (with_reducible first | exact HB.out | apply below_alloc | apply pw_below_drewN | apply below_drew1) | exact HB.out)) hb); have n1_ := Aside0.mk (hbox); have n2_ := Aside0.mk ((by rw [hg]; exact (below_size (by repeat (first | (with_reducible first | exact HB.out | apply below_alloc | apply pw_below_drewN | apply below_drew1) | exact HB.out))) : w.heap.size ≤ gb111)); have n3_ := Aside0.mk ((by rw [hg]; exact (below_size (by repeat (first | (with_reducible first | exact HB.out | apply below_alloc | apply pw_below_drewN | apply below_drew1) | exact HB.out))) : w.heap.size ≤ gb111)); clear HB; have HB := n0_; have BK111 := n1_; have GW111 := n2_; have GE111 := n3_; clear n0_ n1_ n2_ n3_; clear hb hbox hg; have hcz12_0 : w11.cell? ⟨gb111, 0, none⟩ = some (.int .i64 0) := (blk_cell BK111.out 0).trans rfl; have hcz12_1 : w11.cell? ⟨gb111, 1, none⟩ = some (.int .i64 0) := (blk_cell BK111.out 1).trans rfl; have hcz12_2 : w11.cell? ⟨gb111, 2, none⟩ = some (.string (⟨#[]⟩ : ByteArray)) := (blk_cell BK111.out 2).trans rfl; have hfz12_0 := blk_frozen BK111.out 0; have hfz12_1 := blk_frozen BK111.out 1; have hfz12_2 := blk_frozen BK111.out 2) | ((with_reducible refine gate_callee (f := 16) rfl ?_); refine goesL_ (some 16) rfl rfl Try.func16 (by kernel_rfl) rfl #[.agg #[.int .i64 ((rd_T23 l0 x11_1).f0), .int .i64 ((rd_T23 l0 x11_1).f1), .string ((rd_T23 l0 x11_1).f2)]] rfl (by (try simp only [List.map_toArray, List.map_cons, List.map_nil]); first | done | rfl | (simp only [List.length_drop, List.length_take]; rfl)) ?_; (with_reducible refine (ledger_CheckEntry.calls ((rd_T23 l0 x11_1).f0) ((rd_T23 l0 x11_1).f1) ((rd_T23 l0 x11_1).f2) t112 _ A6.out).mono ?_); rintro e w13 ⟨rfl, hb⟩; refine ⟨_, rfl, ?_⟩; have n0_ := Aside0.mk (blk_below (g := gb111) (o := .cells #[.int .i64 ((rd_T23 l0 x11_1).f0), .int .i64 ((rd_T23 l0 x11_1).f1), .string ((rd_T23 l0 x11_1).f2)] 23 (0, 0)) (by (with_reducible repeat (first | refine blk_drewN ?_ _ | refine blk_drew ?_ | refine blk_alloc ?_ _)); refine blk_put (cs := #[.int .i64 ((rd_T23 l0 x11_1).f0), .int .i64 ((rd_T23 l0 x11_1).f1), .string (⟨#[]⟩ : ByteArray)]) ?_ 2 _ rfl; (with_reducible repeat (first | refine blk_drewN ?_ _ | refine blk_drew ?_ | refine blk_alloc ?_ _)); refine blk_put (cs := #[.int .i64 ((rd_T23 l0 x11_1).f0), .int .i64 0, .string (⟨#[]⟩ : ByteArray)]) ?_ 1 _ rfl; (with_reducible repeat (first | refine blk_drewN ?_ _ | refine blk_drew ?_ | refine blk_alloc ?_ _)); refine blk_put (cs := #[.int .i64 0, .int .i64 0, .string (⟨#[]⟩ : ByteArray)]) ?_ 0 _ rfl; (with_reducible repeat (first | refine blk_drewN ?_ _ | refine blk_drew ?_ | refine blk_alloc ?_ _)); exact BK111.out) hb); have n1_ := Aside0.mk (below_step (by repeat (first | (with_reducible first | exact HB.out | apply below_alloc | apply pw_below_drewN | apply below_drew1 | refine below_set ?_ GE111.out) | exact HB.out)) hb); clear BK111; clear HB; have BK111 := n0_; have HB := n1_; clear n0_ n1_; (try clear hb); (try clear hb2); (try clear hk); (try clear hi)))
                go_ret
                exact ⟨by first | rfl | (simp [errW_none, errW_some] <;> rfl) | (simp [*, errW_none, errW_some] <;> rfl), by repeat (first | (with_reducible first | exact HB.out | apply below_alloc | apply pw_below_drewN | apply below_drew1 | refine below_set ?_ GE111.out) | exact HB.out)⟩
            · rw [if_neg c5] at H
              exact absurd H (by simp)
          · rw [if_neg c4] at H
            exact absurd H (by simp)
        · rw [if_neg c3] at H
          have c3b0 : decide (x11_1 < (l0.length : Int)) = false := decide_eq_false c3
          clear c3
          obtain rfl := Option.some.inj H
          go_wp2
          go_ret
          exact ⟨by first | rfl | (simp [errW_none, errW_some] <;> rfl) | (simp [*, errW_none, errW_some] <;> rfl), by repeat (first | (with_reducible first | exact HB.out | apply below_alloc | apply pw_below_drewN | apply below_drew1) | exact HB.out)⟩
def ledger_hash_number.l0 : Nat → Int → Int → Int → Option (Int)
  | 0, _, _, _ => none
  | k + 1, x0, x1, x5 => if x5 < 8 then ((ledger_hash_add.f k x0 (([(x1) % 256] : List Int))).bind fun t116 => (ledger_hash_number.l0 k t116 (x1 / 256) (wrap64 (x5 + 1)))) else (some x0)
def ledger_hash_number.f (k : Nat) (a0 : Int) (a1 : Int) : Option (Int) := ledger_hash_number.l0 k a0 a1 0
set_option maxHeartbeats 8000000 in
set_option maxRecDepth 100000 in
theorem ledger_hash_number.calls (k : Nat) (a0 : Int) (a1 : Int) (r : Int) (w : World) (h : ledger_hash_number.f k a0 a1 = some r) :
    Calls Try.prog 73 #[.int .u64 a0, .int .u64 a1] w fun e w' => e = .returned (.int .u64 r) ∧ Below w.heap.size w w' := by
  have HB := Aside0.mk (Below.refl w.heap.size w)
  have H : (ledger_hash_number.l0 k a0 a1 0) = some r := h
  clear h
  have H' := Aside0.mk H
  clear H
  go_enter Try.func73, Try.ntmps73
  go_wp2
  go_loopg [0, 1, 5] k (fun kq v0 v1 v5 w' => ∃ (x0_1 : Int) (x1_1 : Int) (x5_1 : Int), v0 = .int .u64 x0_1 ∧ v1 = .int .u64 x1_1 ∧ v5 = .int .i64 x5_1 ∧ Aside0 (ledger_hash_number.l0 kq x0_1 x1_1 x5_1 = some r) ∧ Aside0 (kq ≤ k) ∧ Aside0 (Below w.heap.size w w'))
  case atStart => exact ⟨(a0), (a1), (0), (by first | rfl | (simp; done) | (simp [*]; done)), (by first | rfl | (simp; done) | (simp [*]; done)), (by first | rfl | (simp; done) | (simp [*]; done)), H', ⟨Nat.le_refl _⟩, ⟨by repeat (first | (with_reducible first | exact HB.out | apply below_alloc | apply pw_below_drewN | apply below_drew1) | exact HB.out)⟩⟩
  case round =>
    clear H'
    try clear p2
    obtain ⟨x0_1, x1_1, x5_1, rfl, rfl, rfl, HA, HK1, HB⟩ := hrel
    cases gk with
    | zero => exact absurd HA.out (by simp [ledger_hash_number.l0])
    | succ k1 =>
      have H := HA.out
      clear HA
      simp only [ledger_hash_number.l0] at H
      by_cases c3 : x5_1 < 8
      · rw [if_pos c3] at H
        have c3b0 : decide (x5_1 < 8) = true := decide_eq_true c3
        clear c3
        obtain ⟨y113, hy113⟩ : ∃ y_ : List Int, y_ = (([(x1_1) % 256] : List Int)) := ⟨_, rfl⟩
        replace H : ((ledger_hash_add.f k1 x0_1 y113).bind fun t116 => (ledger_hash_number.l0 k1 t116 (x1_1 / 256) (wrap64 (x5_1 + 1)))) = some r := by first | (rw [hy113]; with_reducible exact H) | (have H2_ := (Option.bind_some _ _).symm.trans H; rw [hy113]; with_reducible exact H2_) | (have H2_ := (Option.bind_some _ _).symm.trans H; with_reducible exact H2_) | with_reducible exact H | (rw [hy113]; exact H) | exact H
        have Ny113 := Aside0.mk hy113
        clear hy113
        replace H := Option.bind_eq_some_iff.mp H
        obtain ⟨t116, A40, H⟩ := H
        replace H : (ledger_hash_number.l0 k1 t116 (x1_1 / 256) (wrap64 (x5_1 + 1))) = some r := H
        have A4 := Aside0.mk A40
        clear A40
        have H' := Aside0.mk H
        clear H
        go_wp2_with (first | ((with_reducible refine gate_dst (N := 10) rfl ?_); refine Kd.R_lit (Kd.int .u8) _ 5 ?hg (N := 10) ?hd (xs := ([(x1_1) % 256] : List Int)) (inner := [.int .u8 ((x1_1) % 256)]) (ok := fun _ => True) (okp := fun _ => True) ?hr ?hp (fun _ hk => hk) trivial (Below.refl _ _) (Nat.le_refl _) (by simp) ?_; (case hd => rfl); (case hg => rfl); (case hr => first | (go_simp; done) | (go_simp; rfl)); (case hp => exact (Reps.one (show Kd.M (Kd.int .u8) _ _ _ ((x1_1) % 256) [.int .u8 ((x1_1) % 256)] from rfl) (Reps.none _ _))); intro v114 w5 ho6 hb hg_ hnew_; clear hg_ hnew_; (first | rw [← Ny113.out] at ho6 | (simp only [Int.reduceToNat] at ho6; rw [← Ny113.out] at ho6)); have n0_ := Aside0.mk (Kd.R_lower ho6 (below_size (by repeat (first | (with_reducible first | exact HB.out | apply below_alloc | apply pw_below_drewN | apply below_drew1) | exact HB.out)))); have n1_ := Aside0.mk (below_step (by repeat (first | (with_reducible first | exact HB.out | apply below_alloc | apply pw_below_drewN | apply below_drew1) | exact HB.out)) hb); clear HB; have HO115 := n0_; have HB := n1_; clear n0_ n1_; clear hb ho6; obtain ⟨Ao7, co7, eo7⟩ := Kd.R_slice HO115.out; subst eo7) | ((with_reducible refine gate_callee (f := 72) rfl ?_); refine goesL_ (some 11) rfl rfl Try.func72 (by kernel_rfl) rfl #[.int .u64 x0_1, .slice Ao7 y113.length co7] rfl (by (try simp only [List.map_toArray, List.map_cons, List.map_nil]); first | done | rfl | (simp only [List.length_drop, List.length_take]; rfl)) ?_; (with_reducible refine (ledger_hash_add.calls k1 x0_1 _ _ y113 t116 _ ?side1 ?side2 A4.out).mono ?_); (case side1 => repeat (first | exact (Kd.R_reads' HO115.out).2.2 | (with_reducible refine Kd.C_alloc ?_ _) | (with_reducible refine Kd.C_drewN ?_ _) | (with_reducible refine Kd.C_drew ?_))); (case side2 => exact (Kd.R_reads' HO115.out).2.1); rintro e w' ⟨rfl, ⟨nd, rfl⟩⟩; refine ⟨_, rfl, ?_⟩))
        go_roundg k1
        case measure => have := HK1.out; omega
        case rel => exact ⟨(t116), (x1_1 / 256), (wrap64 (x5_1 + 1)), (by first | rfl | (simp; done) | (simp [*]; done)), (by first | rfl | (simp; done) | (simp [*]; done)), (by first | rfl | (simp; done) | (simp [*]; done)), H', ⟨by have := HK1.out; omega⟩, ⟨by repeat (first | (with_reducible first | exact HB.out | apply below_alloc | apply pw_below_drewN | apply below_drew1) | exact HB.out)⟩⟩
      · rw [if_neg c3] at H
        have c3b0 : decide (x5_1 < 8) = false := decide_eq_false c3
        clear c3
        obtain rfl := Option.some.inj H
        go_wp2
        go_ret
        exact ⟨by first | rfl | (simp [errW_none, errW_some] <;> rfl) | (simp [*, errW_none, errW_some] <;> rfl), by repeat (first | (with_reducible first | exact HB.out | apply below_alloc | apply pw_below_drewN | apply below_drew1) | exact HB.out)⟩
def ledger_Node.f (k : Nat) (a0 : Int) (a1 : Int) : Option (Int) := (ledger_hash_add.f k 14695981039346656037 (([1] : List Int))).bind fun t120 => ((ledger_hash_number.f k t120 a0).bind fun t121 => ((ledger_hash_number.f k t121 a1).bind fun t122 => (some t122)))
set_option maxHeartbeats 8000000 in
set_option maxRecDepth 100000 in
theorem ledger_Node.calls (k : Nat) (a0 : Int) (a1 : Int) (r : Int) (w : World) (h : ledger_Node.f k a0 a1 = some r) :
    Calls Try.prog 18 #[.int .u64 a0, .int .u64 a1] w fun e w' => e = .returned (.int .u64 r) ∧ Below w.heap.size w w' := by
  have HB := Aside0.mk (Below.refl w.heap.size w)
  have H : ((ledger_hash_add.f k 14695981039346656037 (([1] : List Int))).bind fun t120 => ((ledger_hash_number.f k t120 a0).bind fun t121 => ((ledger_hash_number.f k t121 a1).bind fun t122 => (some t122)))) = some r := h
  clear h
  obtain ⟨y117, hy117⟩ : ∃ y_ : List Int, y_ = (([1] : List Int)) := ⟨_, rfl⟩
  replace H : ((ledger_hash_add.f k 14695981039346656037 y117).bind fun t120 => ((ledger_hash_number.f k t120 a0).bind fun t121 => ((ledger_hash_number.f k t121 a1).bind fun t122 => (some t122)))) = some r := by first | (rw [hy117]; with_reducible exact H) | (have H2_ := (Option.bind_some _ _).symm.trans H; rw [hy117]; with_reducible exact H2_) | (have H2_ := (Option.bind_some _ _).symm.trans H; with_reducible exact H2_) | with_reducible exact H | (rw [hy117]; exact H) | exact H
  have Ny117 := Aside0.mk hy117
  clear hy117
  replace H := Option.bind_eq_some_iff.mp H
  obtain ⟨t120, A30, H⟩ := H
  replace H : ((ledger_hash_number.f k t120 a0).bind fun t121 => ((ledger_hash_number.f k t121 a1).bind fun t122 => (some t122))) = some r := H
  have A3 := Aside0.mk A30
  clear A30
  replace H := Option.bind_eq_some_iff.mp H
  obtain ⟨t121, A40, H⟩ := H
  replace H : ((ledger_hash_number.f k t121 a1).bind fun t122 => (some t122)) = some r := H
  have A4 := Aside0.mk A40
  clear A40
  replace H := Option.bind_eq_some_iff.mp H
  obtain ⟨t122, A50, H⟩ := H
  replace H : (some t122) = some r := H
  have A5 := Aside0.mk A50
  clear A50
  obtain rfl := Option.some.inj H
  go_enter Try.func18, Try.ntmps18
  go_wp2_with (first | ((with_reducible refine gate_dst (N := 5) rfl ?_); refine Kd.R_lit (Kd.int .u8) _ 5 ?hg (N := 5) ?hd (xs := ([1] : List Int)) (inner := [.int .u8 1]) (ok := fun _ => True) (okp := fun _ => True) ?hr ?hp (fun _ hk => hk) trivial (Below.refl _ _) (Nat.le_refl _) (by simp) ?_; (case hd => rfl); (case hg => rfl); (case hr => first | (go_simp; done) | (go_simp; rfl)); (case hp => exact (Reps.one (show Kd.M (Kd.int .u8) _ _ _ 1 [.int .u8 1] from rfl) (Reps.none _ _))); intro v118 w6 ho7 hb hg_ hnew_; clear hg_ hnew_; (first | rw [← Ny117.out] at ho7 | (simp only [Int.reduceToNat] at ho7; rw [← Ny117.out] at ho7)); have n0_ := Aside0.mk (Kd.R_lower ho7 (below_size (by repeat (first | (with_reducible first | exact HB.out | apply below_alloc | apply pw_below_drewN | apply below_drew1) | exact HB.out)))); have n1_ := Aside0.mk (below_step (by repeat (first | (with_reducible first | exact HB.out | apply below_alloc | apply pw_below_drewN | apply below_drew1) | exact HB.out)) hb); clear HB; have HO119 := n0_; have HB := n1_; clear n0_ n1_; clear hb ho7; obtain ⟨Ao8, co8, eo8⟩ := Kd.R_slice HO119.out; subst eo8) | ((with_reducible refine gate_callee (f := 72) rfl ?_); refine goesL_ (some 6) rfl rfl Try.func72 (by kernel_rfl) rfl #[.int .u64 14695981039346656037, .slice Ao8 y117.length co8] rfl (by (try simp only [List.map_toArray, List.map_cons, List.map_nil]); first | done | rfl | (simp only [List.length_drop, List.length_take]; rfl)) ?_; (with_reducible refine (ledger_hash_add.calls k 14695981039346656037 _ _ y117 t120 _ ?side1 ?side2 A3.out).mono ?_); (case side1 => repeat (first | exact (Kd.R_reads' HO119.out).2.2 | (with_reducible refine Kd.C_alloc ?_ _) | (with_reducible refine Kd.C_drewN ?_ _) | (with_reducible refine Kd.C_drew ?_))); (case side2 => exact (Kd.R_reads' HO119.out).2.1); rintro e w' ⟨rfl, ⟨nd, rfl⟩⟩; refine ⟨_, rfl, ?_⟩) | ((with_reducible refine gate_callee (f := 73) rfl ?_); refine goesL_ (some 8) rfl rfl Try.func73 (by kernel_rfl) rfl #[.int .u64 t120, .int .u64 a0] rfl (by (try simp only [List.map_toArray, List.map_cons, List.map_nil]); first | done | rfl | (simp only [List.length_drop, List.length_take]; rfl)) ?_; (with_reducible refine (ledger_hash_number.calls k t120 a0 t121 _ A4.out).mono ?_); rintro e w9 ⟨rfl, hb⟩; refine ⟨_, rfl, ?_⟩; have n0_ := Aside0.mk (Kd.R_below (by (with_reducible repeat (first | apply Kd.R_alloc | apply Kd.R_drewN | apply Kd.R_drew)); exact HO119.out) hb); have n1_ := Aside0.mk (below_step (by repeat (first | (with_reducible first | exact HB.out | apply below_alloc | apply pw_below_drewN | apply below_drew1) | exact HB.out)) hb); clear HO119; clear HB; have HO119 := n0_; have HB := n1_; clear n0_ n1_; (try clear hb); (try clear hb2); (try clear hk); (try clear hi)) | ((with_reducible refine gate_callee (f := 73) rfl ?_); refine goesL_ (some 10) rfl rfl Try.func73 (by kernel_rfl) rfl #[.int .u64 t121, .int .u64 a1] rfl (by (try simp only [List.map_toArray, List.map_cons, List.map_nil]); first | done | rfl | (simp only [List.length_drop, List.length_take]; rfl)) ?_; (with_reducible refine (ledger_hash_number.calls k t121 a1 t122 _ A5.out).mono ?_); rintro e w10 ⟨rfl, hb⟩; refine ⟨_, rfl, ?_⟩; have n0_ := Aside0.mk (Kd.R_below (by (with_reducible repeat (first | apply Kd.R_alloc | apply Kd.R_drewN | apply Kd.R_drew)); exact HO119.out) hb); have n1_ := Aside0.mk (below_step (by repeat (first | (with_reducible first | exact HB.out | apply below_alloc | apply pw_below_drewN | apply below_drew1) | exact HB.out)) hb); clear HO119; clear HB; have HO119 := n0_; have HB := n1_; clear n0_ n1_; (try clear hb); (try clear hb2); (try clear hk); (try clear hi)))
  go_ret
  exact ⟨by first | rfl | (simp [errW_none, errW_some] <;> rfl) | (simp [*, errW_none, errW_some] <;> rfl), by repeat (first | (with_reducible first | exact HB.out | apply below_alloc | apply pw_below_drewN | apply below_drew1) | exact HB.out)⟩
def bits_Len64.j0 : Nat → Int → Int → Option (Int)
  | 0, _, _ => none
  | k + 1, x0, x2 => if x0 ≥ 65536 then (if (x0 / 65536) ≥ 256 then (if 0 ≤ (((x0 / 65536) / 256) % 256) then (if (((x0 / 65536) / 256) % 256) < 256 then (some (wrap64 ((wrap64 ((wrap64 (x2 + 16)) + 8)) + (wrap64 (bt (⟨#[0, 1, 2, 2, 3, 3, 3, 3, 4, 4, 4, 4, 4, 4, 4, 4, 5, 5, 5, 5, 5, 5, 5, 5, 5, 5, 5, 5, 5, 5, 5, 5, 6, 6, 6, 6, 6, 6, 6, 6, 6, 6, 6, 6, 6, 6, 6, 6, 6, 6, 6, 6, 6, 6, 6, 6, 6, 6, 6, 6, 6, 6, 6, 6, 7, 7, 7, 7, 7, 7, 7, 7, 7, 7, 7, 7, 7, 7, 7, 7, 7, 7, 7, 7, 7, 7, 7, 7, 7, 7, 7, 7, 7, 7, 7, 7, 7, 7, 7, 7, 7, 7, 7, 7, 7, 7, 7, 7, 7, 7, 7, 7, 7, 7, 7, 7, 7, 7, 7, 7, 7, 7, 7, 7, 7, 7, 7, 7, 8, 8, 8, 8, 8, 8, 8, 8, 8, 8, 8, 8, 8, 8, 8, 8, 8, 8, 8, 8, 8, 8, 8, 8, 8, 8, 8, 8, 8, 8, 8, 8, 8, 8, 8, 8, 8, 8, 8, 8, 8, 8, 8, 8, 8, 8, 8, 8, 8, 8, 8, 8, 8, 8, 8, 8, 8, 8, 8, 8, 8, 8, 8, 8, 8, 8, 8, 8, 8, 8, 8, 8, 8, 8, 8, 8, 8, 8, 8, 8, 8, 8, 8, 8, 8, 8, 8, 8, 8, 8, 8, 8, 8, 8, 8, 8, 8, 8, 8, 8, 8, 8, 8, 8, 8, 8, 8, 8, 8, 8, 8, 8, 8, 8, 8, 8, 8, 8, 8, 8, 8, 8, 8, 8, 8, 8, 8, 8]⟩ : ByteArray) (((x0 / 65536) / 256) % 256)))))) else (none)) else (none)) else (if 0 ≤ ((x0 / 65536) % 256) then (if ((x0 / 65536) % 256) < 256 then (some (wrap64 ((wrap64 (x2 + 16)) + (wrap64 (bt (⟨#[0, 1, 2, 2, 3, 3, 3, 3, 4, 4, 4, 4, 4, 4, 4, 4, 5, 5, 5, 5, 5, 5, 5, 5, 5, 5, 5, 5, 5, 5, 5, 5, 6, 6, 6, 6, 6, 6, 6, 6, 6, 6, 6, 6, 6, 6, 6, 6, 6, 6, 6, 6, 6, 6, 6, 6, 6, 6, 6, 6, 6, 6, 6, 6, 7, 7, 7, 7, 7, 7, 7, 7, 7, 7, 7, 7, 7, 7, 7, 7, 7, 7, 7, 7, 7, 7, 7, 7, 7, 7, 7, 7, 7, 7, 7, 7, 7, 7, 7, 7, 7, 7, 7, 7, 7, 7, 7, 7, 7, 7, 7, 7, 7, 7, 7, 7, 7, 7, 7, 7, 7, 7, 7, 7, 7, 7, 7, 7, 8, 8, 8, 8, 8, 8, 8, 8, 8, 8, 8, 8, 8, 8, 8, 8, 8, 8, 8, 8, 8, 8, 8, 8, 8, 8, 8, 8, 8, 8, 8, 8, 8, 8, 8, 8, 8, 8, 8, 8, 8, 8, 8, 8, 8, 8, 8, 8, 8, 8, 8, 8, 8, 8, 8, 8, 8, 8, 8, 8, 8, 8, 8, 8, 8, 8, 8, 8, 8, 8, 8, 8, 8, 8, 8, 8, 8, 8, 8, 8, 8, 8, 8, 8, 8, 8, 8, 8, 8, 8, 8, 8, 8, 8, 8, 8, 8, 8, 8, 8, 8, 8, 8, 8, 8, 8, 8, 8, 8, 8, 8, 8, 8, 8, 8, 8, 8, 8, 8, 8, 8, 8, 8, 8, 8, 8, 8, 8]⟩ : ByteArray) ((x0 / 65536) % 256)))))) else (none)) else (none))) else (if x0 ≥ 256 then (if 0 ≤ ((x0 / 256) % 256) then (if ((x0 / 256) % 256) < 256 then (some (wrap64 ((wrap64 (x2 + 8)) + (wrap64 (bt (⟨#[0, 1, 2, 2, 3, 3, 3, 3, 4, 4, 4, 4, 4, 4, 4, 4, 5, 5, 5, 5, 5, 5, 5, 5, 5, 5, 5, 5, 5, 5, 5, 5, 6, 6, 6, 6, 6, 6, 6, 6, 6, 6, 6, 6, 6, 6, 6, 6, 6, 6, 6, 6, 6, 6, 6, 6, 6, 6, 6, 6, 6, 6, 6, 6, 7, 7, 7, 7, 7, 7, 7, 7, 7, 7, 7, 7, 7, 7, 7, 7, 7, 7, 7, 7, 7, 7, 7, 7, 7, 7, 7, 7, 7, 7, 7, 7, 7, 7, 7, 7, 7, 7, 7, 7, 7, 7, 7, 7, 7, 7, 7, 7, 7, 7, 7, 7, 7, 7, 7, 7, 7, 7, 7, 7, 7, 7, 7, 7, 8, 8, 8, 8, 8, 8, 8, 8, 8, 8, 8, 8, 8, 8, 8, 8, 8, 8, 8, 8, 8, 8, 8, 8, 8, 8, 8, 8, 8, 8, 8, 8, 8, 8, 8, 8, 8, 8, 8, 8, 8, 8, 8, 8, 8, 8, 8, 8, 8, 8, 8, 8, 8, 8, 8, 8, 8, 8, 8, 8, 8, 8, 8, 8, 8, 8, 8, 8, 8, 8, 8, 8, 8, 8, 8, 8, 8, 8, 8, 8, 8, 8, 8, 8, 8, 8, 8, 8, 8, 8, 8, 8, 8, 8, 8, 8, 8, 8, 8, 8, 8, 8, 8, 8, 8, 8, 8, 8, 8, 8, 8, 8, 8, 8, 8, 8, 8, 8, 8, 8, 8, 8, 8, 8, 8, 8, 8, 8]⟩ : ByteArray) ((x0 / 256) % 256)))))) else (none)) else (none)) else (if 0 ≤ ((x0) % 256) then (if ((x0) % 256) < 256 then (some (wrap64 (x2 + (wrap64 (bt (⟨#[0, 1, 2, 2, 3, 3, 3, 3, 4, 4, 4, 4, 4, 4, 4, 4, 5, 5, 5, 5, 5, 5, 5, 5, 5, 5, 5, 5, 5, 5, 5, 5, 6, 6, 6, 6, 6, 6, 6, 6, 6, 6, 6, 6, 6, 6, 6, 6, 6, 6, 6, 6, 6, 6, 6, 6, 6, 6, 6, 6, 6, 6, 6, 6, 7, 7, 7, 7, 7, 7, 7, 7, 7, 7, 7, 7, 7, 7, 7, 7, 7, 7, 7, 7, 7, 7, 7, 7, 7, 7, 7, 7, 7, 7, 7, 7, 7, 7, 7, 7, 7, 7, 7, 7, 7, 7, 7, 7, 7, 7, 7, 7, 7, 7, 7, 7, 7, 7, 7, 7, 7, 7, 7, 7, 7, 7, 7, 7, 8, 8, 8, 8, 8, 8, 8, 8, 8, 8, 8, 8, 8, 8, 8, 8, 8, 8, 8, 8, 8, 8, 8, 8, 8, 8, 8, 8, 8, 8, 8, 8, 8, 8, 8, 8, 8, 8, 8, 8, 8, 8, 8, 8, 8, 8, 8, 8, 8, 8, 8, 8, 8, 8, 8, 8, 8, 8, 8, 8, 8, 8, 8, 8, 8, 8, 8, 8, 8, 8, 8, 8, 8, 8, 8, 8, 8, 8, 8, 8, 8, 8, 8, 8, 8, 8, 8, 8, 8, 8, 8, 8, 8, 8, 8, 8, 8, 8, 8, 8, 8, 8, 8, 8, 8, 8, 8, 8, 8, 8, 8, 8, 8, 8, 8, 8, 8, 8, 8, 8, 8, 8, 8, 8, 8, 8, 8, 8]⟩ : ByteArray) ((x0) % 256)))))) else (none)) else (none)))
def bits_Len64.f (k : Nat) (a0 : Int) : Option (Int) := if a0 ≥ 4294967296 then (bits_Len64.j0 k (a0 / 4294967296) 32) else (bits_Len64.j0 k a0 0)
set_option maxHeartbeats 8000000 in
set_option maxRecDepth 100000 in
theorem bits_Len64.calls (k : Nat) (a0 : Int) (r : Int) (w : World) (h : bits_Len64.f k a0 = some r) :
    Calls Try.prog 158 #[.int .u64 a0] w fun e w' => e = .returned (.int .i64 r) ∧ Drawn0 w w' := by
  have H : (if a0 ≥ 4294967296 then (bits_Len64.j0 k (a0 / 4294967296) 32) else (bits_Len64.j0 k a0 0)) = some r := h
  clear h
  have HC2 := Aside0.mk H
  clear H
  go_enter Try.func158, Try.ntmps158
  go_upto_if 4 with (fail)
  go_cut [0, 2] (fun v0 v2 wc => ∃ (kq : Nat) (x0_1 : Int) (x2_1 : Int), v0 = .int .u64 x0_1 ∧ v2 = .int .i64 x2_1 ∧ Aside0 (bits_Len64.j0 kq x0_1 x2_1 = some r) ∧ Aside0 (kq ≤ k) ∧ Drawn0 w wc)
  case first =>
    have H := HC2.out
    clear HC2
    by_cases c3 : a0 ≥ 4294967296
    · rw [if_pos c3] at H
      have c3b0 : decide (4294967296 ≤ a0) = true := decide_eq_true c3
      clear c3
      (first | rw [c3b0] | (simp only [i64_w, i32_w]; rw [c3b0]) | skip)
      have H' := Aside0.mk H
      clear H
      go_wp2
      go_meet
      case rel => exact ⟨_, (a0 / 4294967296), (32), (by first | rfl | (simp; done) | (simp [*]; done)), (by first | rfl | (simp; done) | (simp [*]; done)), H', ⟨by first | omega | exact Nat.le_refl _⟩, by repeat (first | exact Drawn0.refl _ | apply Drawn0.step)⟩
    · rw [if_neg c3] at H
      have c3b0 : decide (4294967296 ≤ a0) = false := decide_eq_false c3
      clear c3
      (first | rw [c3b0] | (simp only [i64_w, i32_w]; rw [c3b0]) | skip)
      have H' := Aside0.mk H
      clear H
      go_wp2
      go_meet
      case rel => exact ⟨_, (a0), (0), (by first | rfl | (simp; done) | (simp [*]; done)), (by first | rfl | (simp; done) | (simp [*]; done)), H', ⟨by first | omega | exact Nat.le_refl _⟩, by repeat (first | exact Drawn0.refl _ | apply Drawn0.step)⟩
  case rest =>
    clear HC2
    try clear c1
    try clear p2
    try clear c3
    try clear c3b0
    obtain ⟨kq, x0_1, x2_1, rfl, rfl, HA, HJ1, ⟨mc1, rfl⟩⟩ := hcut
    cases kq with
    | zero => exact absurd HA.out (by simp [bits_Len64.j0])
    | succ kj1 =>
      have H := HA.out
      clear HA
      simp only [bits_Len64.j0] at H
      by_cases c4 : x0_1 ≥ 65536
      · rw [if_pos c4] at H
        have c4b0 : decide (65536 ≤ x0_1) = true := decide_eq_true c4
        clear c4
        by_cases c5 : (x0_1 / 65536) ≥ 256
        · rw [if_pos c5] at H
          have c5b0 : decide (256 ≤ (x0_1 / 65536)) = true := decide_eq_true c5
          clear c5
          obtain ⟨ji6, hji6⟩ : ∃ j_ : Int, (((x0_1 / 65536) / 256) % 256) = j_ := ⟨_, rfl⟩
          replace H : (if 0 ≤ (ji6) then (if (ji6) < 256 then (some (wrap64 ((wrap64 ((wrap64 (x2_1 + 16)) + 8)) + (wrap64 (bt (⟨#[0, 1, 2, 2, 3, 3, 3, 3, 4, 4, 4, 4, 4, 4, 4, 4, 5, 5, 5, 5, 5, 5, 5, 5, 5, 5, 5, 5, 5, 5, 5, 5, 6, 6, 6, 6, 6, 6, 6, 6, 6, 6, 6, 6, 6, 6, 6, 6, 6, 6, 6, 6, 6, 6, 6, 6, 6, 6, 6, 6, 6, 6, 6, 6, 7, 7, 7, 7, 7, 7, 7, 7, 7, 7, 7, 7, 7, 7, 7, 7, 7, 7, 7, 7, 7, 7, 7, 7, 7, 7, 7, 7, 7, 7, 7, 7, 7, 7, 7, 7, 7, 7, 7, 7, 7, 7, 7, 7, 7, 7, 7, 7, 7, 7, 7, 7, 7, 7, 7, 7, 7, 7, 7, 7, 7, 7, 7, 7, 8, 8, 8, 8, 8, 8, 8, 8, 8, 8, 8, 8, 8, 8, 8, 8, 8, 8, 8, 8, 8, 8, 8, 8, 8, 8, 8, 8, 8, 8, 8, 8, 8, 8, 8, 8, 8, 8, 8, 8, 8, 8, 8, 8, 8, 8, 8, 8, 8, 8, 8, 8, 8, 8, 8, 8, 8, 8, 8, 8, 8, 8, 8, 8, 8, 8, 8, 8, 8, 8, 8, 8, 8, 8, 8, 8, 8, 8, 8, 8, 8, 8, 8, 8, 8, 8, 8, 8, 8, 8, 8, 8, 8, 8, 8, 8, 8, 8, 8, 8, 8, 8, 8, 8, 8, 8, 8, 8, 8, 8, 8, 8, 8, 8, 8, 8, 8, 8, 8, 8, 8, 8, 8, 8, 8, 8, 8, 8]⟩ : ByteArray) (ji6)))))) else (none)) else (none)) = some r := by first | (rw [hji6] at H; exact H) | (simp only [hji6] at H ⊢; exact H)
          by_cases c7 : 0 ≤ (ji6)
          · rw [if_pos c7] at H
            have c7b0 : decide (0 ≤ (ji6)) = true := decide_eq_true c7
            clear c7
            by_cases c8 : (ji6) < 256
            · rw [if_pos c8] at H
              have c8b0 : decide ((ji6) < 256) = true := decide_eq_true c8
              clear c8
              obtain rfl := Option.some.inj H
              have p9 : 0 ≤ ((ji6) : Int) := of_decide_eq_true (by first | (with_reducible assumption) | assumption)
              have q9 : (ji6) < (256 : Int) := of_decide_eq_true (by first | (with_reducible assumption) | assumption)
              have hx9 := bt_at (⟨#[0, 1, 2, 2, 3, 3, 3, 3, 4, 4, 4, 4, 4, 4, 4, 4, 5, 5, 5, 5, 5, 5, 5, 5, 5, 5, 5, 5, 5, 5, 5, 5, 6, 6, 6, 6, 6, 6, 6, 6, 6, 6, 6, 6, 6, 6, 6, 6, 6, 6, 6, 6, 6, 6, 6, 6, 6, 6, 6, 6, 6, 6, 6, 6, 7, 7, 7, 7, 7, 7, 7, 7, 7, 7, 7, 7, 7, 7, 7, 7, 7, 7, 7, 7, 7, 7, 7, 7, 7, 7, 7, 7, 7, 7, 7, 7, 7, 7, 7, 7, 7, 7, 7, 7, 7, 7, 7, 7, 7, 7, 7, 7, 7, 7, 7, 7, 7, 7, 7, 7, 7, 7, 7, 7, 7, 7, 7, 7, 8, 8, 8, 8, 8, 8, 8, 8, 8, 8, 8, 8, 8, 8, 8, 8, 8, 8, 8, 8, 8, 8, 8, 8, 8, 8, 8, 8, 8, 8, 8, 8, 8, 8, 8, 8, 8, 8, 8, 8, 8, 8, 8, 8, 8, 8, 8, 8, 8, 8, 8, 8, 8, 8, 8, 8, 8, 8, 8, 8, 8, 8, 8, 8, 8, 8, 8, 8, 8, 8, 8, 8, 8, 8, 8, 8, 8, 8, 8, 8, 8, 8, 8, 8, 8, 8, 8, 8, 8, 8, 8, 8, 8, 8, 8, 8, 8, 8, 8, 8, 8, 8, 8, 8, 8, 8, 8, 8, 8, 8, 8, 8, 8, 8, 8, 8, 8, 8, 8, 8, 8, 8, 8, 8, 8, 8, 8, 8]⟩ : ByteArray) (ji6)
              replace p9 := eq_true p9
              replace q9 := eq_true q9
              go_wp2
              go_ret
              exact ⟨by first | rfl | (simp; done) | (simp only [← hji6] <;> (first | rfl | simp)) | (simp [*]; done), by repeat (first | exact Drawn0.refl _ | apply Drawn0.step)⟩
            · rw [if_neg c8] at H
              exact absurd H (by simp)
          · rw [if_neg c7] at H
            exact absurd H (by simp)
        · rw [if_neg c5] at H
          have c5b0 : decide (256 ≤ (x0_1 / 65536)) = false := decide_eq_false c5
          clear c5
          obtain ⟨ji10, hji10⟩ : ∃ j_ : Int, ((x0_1 / 65536) % 256) = j_ := ⟨_, rfl⟩
          replace H : (if 0 ≤ (ji10) then (if (ji10) < 256 then (some (wrap64 ((wrap64 (x2_1 + 16)) + (wrap64 (bt (⟨#[0, 1, 2, 2, 3, 3, 3, 3, 4, 4, 4, 4, 4, 4, 4, 4, 5, 5, 5, 5, 5, 5, 5, 5, 5, 5, 5, 5, 5, 5, 5, 5, 6, 6, 6, 6, 6, 6, 6, 6, 6, 6, 6, 6, 6, 6, 6, 6, 6, 6, 6, 6, 6, 6, 6, 6, 6, 6, 6, 6, 6, 6, 6, 6, 7, 7, 7, 7, 7, 7, 7, 7, 7, 7, 7, 7, 7, 7, 7, 7, 7, 7, 7, 7, 7, 7, 7, 7, 7, 7, 7, 7, 7, 7, 7, 7, 7, 7, 7, 7, 7, 7, 7, 7, 7, 7, 7, 7, 7, 7, 7, 7, 7, 7, 7, 7, 7, 7, 7, 7, 7, 7, 7, 7, 7, 7, 7, 7, 8, 8, 8, 8, 8, 8, 8, 8, 8, 8, 8, 8, 8, 8, 8, 8, 8, 8, 8, 8, 8, 8, 8, 8, 8, 8, 8, 8, 8, 8, 8, 8, 8, 8, 8, 8, 8, 8, 8, 8, 8, 8, 8, 8, 8, 8, 8, 8, 8, 8, 8, 8, 8, 8, 8, 8, 8, 8, 8, 8, 8, 8, 8, 8, 8, 8, 8, 8, 8, 8, 8, 8, 8, 8, 8, 8, 8, 8, 8, 8, 8, 8, 8, 8, 8, 8, 8, 8, 8, 8, 8, 8, 8, 8, 8, 8, 8, 8, 8, 8, 8, 8, 8, 8, 8, 8, 8, 8, 8, 8, 8, 8, 8, 8, 8, 8, 8, 8, 8, 8, 8, 8, 8, 8, 8, 8, 8, 8]⟩ : ByteArray) (ji10)))))) else (none)) else (none)) = some r := by first | (rw [hji10] at H; exact H) | (simp only [hji10] at H ⊢; exact H)
          by_cases c11 : 0 ≤ (ji10)
          · rw [if_pos c11] at H
            have c11b0 : decide (0 ≤ (ji10)) = true := decide_eq_true c11
            clear c11
            by_cases c12 : (ji10) < 256
            · rw [if_pos c12] at H
              have c12b0 : decide ((ji10) < 256) = true := decide_eq_true c12
              clear c12
              obtain rfl := Option.some.inj H
              have p13 : 0 ≤ ((ji10) : Int) := of_decide_eq_true (by first | (with_reducible assumption) | assumption)
              have q13 : (ji10) < (256 : Int) := of_decide_eq_true (by first | (with_reducible assumption) | assumption)
              have hx13 := bt_at (⟨#[0, 1, 2, 2, 3, 3, 3, 3, 4, 4, 4, 4, 4, 4, 4, 4, 5, 5, 5, 5, 5, 5, 5, 5, 5, 5, 5, 5, 5, 5, 5, 5, 6, 6, 6, 6, 6, 6, 6, 6, 6, 6, 6, 6, 6, 6, 6, 6, 6, 6, 6, 6, 6, 6, 6, 6, 6, 6, 6, 6, 6, 6, 6, 6, 7, 7, 7, 7, 7, 7, 7, 7, 7, 7, 7, 7, 7, 7, 7, 7, 7, 7, 7, 7, 7, 7, 7, 7, 7, 7, 7, 7, 7, 7, 7, 7, 7, 7, 7, 7, 7, 7, 7, 7, 7, 7, 7, 7, 7, 7, 7, 7, 7, 7, 7, 7, 7, 7, 7, 7, 7, 7, 7, 7, 7, 7, 7, 7, 8, 8, 8, 8, 8, 8, 8, 8, 8, 8, 8, 8, 8, 8, 8, 8, 8, 8, 8, 8, 8, 8, 8, 8, 8, 8, 8, 8, 8, 8, 8, 8, 8, 8, 8, 8, 8, 8, 8, 8, 8, 8, 8, 8, 8, 8, 8, 8, 8, 8, 8, 8, 8, 8, 8, 8, 8, 8, 8, 8, 8, 8, 8, 8, 8, 8, 8, 8, 8, 8, 8, 8, 8, 8, 8, 8, 8, 8, 8, 8, 8, 8, 8, 8, 8, 8, 8, 8, 8, 8, 8, 8, 8, 8, 8, 8, 8, 8, 8, 8, 8, 8, 8, 8, 8, 8, 8, 8, 8, 8, 8, 8, 8, 8, 8, 8, 8, 8, 8, 8, 8, 8, 8, 8, 8, 8, 8, 8]⟩ : ByteArray) (ji10)
              replace p13 := eq_true p13
              replace q13 := eq_true q13
              go_wp2
              go_ret
              exact ⟨by first | rfl | (simp; done) | (simp only [← hji10] <;> (first | rfl | simp)) | (simp [*]; done), by repeat (first | exact Drawn0.refl _ | apply Drawn0.step)⟩
            · rw [if_neg c12] at H
              exact absurd H (by simp)
          · rw [if_neg c11] at H
            exact absurd H (by simp)
      · rw [if_neg c4] at H
        have c4b0 : decide (65536 ≤ x0_1) = false := decide_eq_false c4
        clear c4
        by_cases c14 : x0_1 ≥ 256
        · rw [if_pos c14] at H
          have c14b0 : decide (256 ≤ x0_1) = true := decide_eq_true c14
          clear c14
          obtain ⟨ji15, hji15⟩ : ∃ j_ : Int, ((x0_1 / 256) % 256) = j_ := ⟨_, rfl⟩
          replace H : (if 0 ≤ (ji15) then (if (ji15) < 256 then (some (wrap64 ((wrap64 (x2_1 + 8)) + (wrap64 (bt (⟨#[0, 1, 2, 2, 3, 3, 3, 3, 4, 4, 4, 4, 4, 4, 4, 4, 5, 5, 5, 5, 5, 5, 5, 5, 5, 5, 5, 5, 5, 5, 5, 5, 6, 6, 6, 6, 6, 6, 6, 6, 6, 6, 6, 6, 6, 6, 6, 6, 6, 6, 6, 6, 6, 6, 6, 6, 6, 6, 6, 6, 6, 6, 6, 6, 7, 7, 7, 7, 7, 7, 7, 7, 7, 7, 7, 7, 7, 7, 7, 7, 7, 7, 7, 7, 7, 7, 7, 7, 7, 7, 7, 7, 7, 7, 7, 7, 7, 7, 7, 7, 7, 7, 7, 7, 7, 7, 7, 7, 7, 7, 7, 7, 7, 7, 7, 7, 7, 7, 7, 7, 7, 7, 7, 7, 7, 7, 7, 7, 8, 8, 8, 8, 8, 8, 8, 8, 8, 8, 8, 8, 8, 8, 8, 8, 8, 8, 8, 8, 8, 8, 8, 8, 8, 8, 8, 8, 8, 8, 8, 8, 8, 8, 8, 8, 8, 8, 8, 8, 8, 8, 8, 8, 8, 8, 8, 8, 8, 8, 8, 8, 8, 8, 8, 8, 8, 8, 8, 8, 8, 8, 8, 8, 8, 8, 8, 8, 8, 8, 8, 8, 8, 8, 8, 8, 8, 8, 8, 8, 8, 8, 8, 8, 8, 8, 8, 8, 8, 8, 8, 8, 8, 8, 8, 8, 8, 8, 8, 8, 8, 8, 8, 8, 8, 8, 8, 8, 8, 8, 8, 8, 8, 8, 8, 8, 8, 8, 8, 8, 8, 8, 8, 8, 8, 8, 8, 8]⟩ : ByteArray) (ji15)))))) else (none)) else (none)) = some r := by first | (rw [hji15] at H; exact H) | (simp only [hji15] at H ⊢; exact H)
          by_cases c16 : 0 ≤ (ji15)
          · rw [if_pos c16] at H
            have c16b0 : decide (0 ≤ (ji15)) = true := decide_eq_true c16
            clear c16
            by_cases c17 : (ji15) < 256
            · rw [if_pos c17] at H
              have c17b0 : decide ((ji15) < 256) = true := decide_eq_true c17
              clear c17
              obtain rfl := Option.some.inj H
              have p18 : 0 ≤ ((ji15) : Int) := of_decide_eq_true (by first | (with_reducible assumption) | assumption)
              have q18 : (ji15) < (256 : Int) := of_decide_eq_true (by first | (with_reducible assumption) | assumption)
              have hx18 := bt_at (⟨#[0, 1, 2, 2, 3, 3, 3, 3, 4, 4, 4, 4, 4, 4, 4, 4, 5, 5, 5, 5, 5, 5, 5, 5, 5, 5, 5, 5, 5, 5, 5, 5, 6, 6, 6, 6, 6, 6, 6, 6, 6, 6, 6, 6, 6, 6, 6, 6, 6, 6, 6, 6, 6, 6, 6, 6, 6, 6, 6, 6, 6, 6, 6, 6, 7, 7, 7, 7, 7, 7, 7, 7, 7, 7, 7, 7, 7, 7, 7, 7, 7, 7, 7, 7, 7, 7, 7, 7, 7, 7, 7, 7, 7, 7, 7, 7, 7, 7, 7, 7, 7, 7, 7, 7, 7, 7, 7, 7, 7, 7, 7, 7, 7, 7, 7, 7, 7, 7, 7, 7, 7, 7, 7, 7, 7, 7, 7, 7, 8, 8, 8, 8, 8, 8, 8, 8, 8, 8, 8, 8, 8, 8, 8, 8, 8, 8, 8, 8, 8, 8, 8, 8, 8, 8, 8, 8, 8, 8, 8, 8, 8, 8, 8, 8, 8, 8, 8, 8, 8, 8, 8, 8, 8, 8, 8, 8, 8, 8, 8, 8, 8, 8, 8, 8, 8, 8, 8, 8, 8, 8, 8, 8, 8, 8, 8, 8, 8, 8, 8, 8, 8, 8, 8, 8, 8, 8, 8, 8, 8, 8, 8, 8, 8, 8, 8, 8, 8, 8, 8, 8, 8, 8, 8, 8, 8, 8, 8, 8, 8, 8, 8, 8, 8, 8, 8, 8, 8, 8, 8, 8, 8, 8, 8, 8, 8, 8, 8, 8, 8, 8, 8, 8, 8, 8, 8, 8]⟩ : ByteArray) (ji15)
              replace p18 := eq_true p18
              replace q18 := eq_true q18
              go_wp2
              go_ret
              exact ⟨by first | rfl | (simp; done) | (simp only [← hji15] <;> (first | rfl | simp)) | (simp [*]; done), by repeat (first | exact Drawn0.refl _ | apply Drawn0.step)⟩
            · rw [if_neg c17] at H
              exact absurd H (by simp)
          · rw [if_neg c16] at H
            exact absurd H (by simp)
        · rw [if_neg c14] at H
          have c14b0 : decide (256 ≤ x0_1) = false := decide_eq_false c14
          clear c14
          obtain ⟨ji19, hji19⟩ : ∃ j_ : Int, ((x0_1) % 256) = j_ := ⟨_, rfl⟩
          replace H : (if 0 ≤ (ji19) then (if (ji19) < 256 then (some (wrap64 (x2_1 + (wrap64 (bt (⟨#[0, 1, 2, 2, 3, 3, 3, 3, 4, 4, 4, 4, 4, 4, 4, 4, 5, 5, 5, 5, 5, 5, 5, 5, 5, 5, 5, 5, 5, 5, 5, 5, 6, 6, 6, 6, 6, 6, 6, 6, 6, 6, 6, 6, 6, 6, 6, 6, 6, 6, 6, 6, 6, 6, 6, 6, 6, 6, 6, 6, 6, 6, 6, 6, 7, 7, 7, 7, 7, 7, 7, 7, 7, 7, 7, 7, 7, 7, 7, 7, 7, 7, 7, 7, 7, 7, 7, 7, 7, 7, 7, 7, 7, 7, 7, 7, 7, 7, 7, 7, 7, 7, 7, 7, 7, 7, 7, 7, 7, 7, 7, 7, 7, 7, 7, 7, 7, 7, 7, 7, 7, 7, 7, 7, 7, 7, 7, 7, 8, 8, 8, 8, 8, 8, 8, 8, 8, 8, 8, 8, 8, 8, 8, 8, 8, 8, 8, 8, 8, 8, 8, 8, 8, 8, 8, 8, 8, 8, 8, 8, 8, 8, 8, 8, 8, 8, 8, 8, 8, 8, 8, 8, 8, 8, 8, 8, 8, 8, 8, 8, 8, 8, 8, 8, 8, 8, 8, 8, 8, 8, 8, 8, 8, 8, 8, 8, 8, 8, 8, 8, 8, 8, 8, 8, 8, 8, 8, 8, 8, 8, 8, 8, 8, 8, 8, 8, 8, 8, 8, 8, 8, 8, 8, 8, 8, 8, 8, 8, 8, 8, 8, 8, 8, 8, 8, 8, 8, 8, 8, 8, 8, 8, 8, 8, 8, 8, 8, 8, 8, 8, 8, 8, 8, 8, 8, 8]⟩ : ByteArray) (ji19)))))) else (none)) else (none)) = some r := by first | (rw [hji19] at H; exact H) | (simp only [hji19] at H ⊢; exact H)
          by_cases c20 : 0 ≤ (ji19)
          · rw [if_pos c20] at H
            have c20b0 : decide (0 ≤ (ji19)) = true := decide_eq_true c20
            clear c20
            by_cases c21 : (ji19) < 256
            · rw [if_pos c21] at H
              have c21b0 : decide ((ji19) < 256) = true := decide_eq_true c21
              clear c21
              obtain rfl := Option.some.inj H
              have p22 : 0 ≤ ((ji19) : Int) := of_decide_eq_true (by first | (with_reducible assumption) | assumption)
              have q22 : (ji19) < (256 : Int) := of_decide_eq_true (by first | (with_reducible assumption) | assumption)
              have hx22 := bt_at (⟨#[0, 1, 2, 2, 3, 3, 3, 3, 4, 4, 4, 4, 4, 4, 4, 4, 5, 5, 5, 5, 5, 5, 5, 5, 5, 5, 5, 5, 5, 5, 5, 5, 6, 6, 6, 6, 6, 6, 6, 6, 6, 6, 6, 6, 6, 6, 6, 6, 6, 6, 6, 6, 6, 6, 6, 6, 6, 6, 6, 6, 6, 6, 6, 6, 7, 7, 7, 7, 7, 7, 7, 7, 7, 7, 7, 7, 7, 7, 7, 7, 7, 7, 7, 7, 7, 7, 7, 7, 7, 7, 7, 7, 7, 7, 7, 7, 7, 7, 7, 7, 7, 7, 7, 7, 7, 7, 7, 7, 7, 7, 7, 7, 7, 7, 7, 7, 7, 7, 7, 7, 7, 7, 7, 7, 7, 7, 7, 7, 8, 8, 8, 8, 8, 8, 8, 8, 8, 8, 8, 8, 8, 8, 8, 8, 8, 8, 8, 8, 8, 8, 8, 8, 8, 8, 8, 8, 8, 8, 8, 8, 8, 8, 8, 8, 8, 8, 8, 8, 8, 8, 8, 8, 8, 8, 8, 8, 8, 8, 8, 8, 8, 8, 8, 8, 8, 8, 8, 8, 8, 8, 8, 8, 8, 8, 8, 8, 8, 8, 8, 8, 8, 8, 8, 8, 8, 8, 8, 8, 8, 8, 8, 8, 8, 8, 8, 8, 8, 8, 8, 8, 8, 8, 8, 8, 8, 8, 8, 8, 8, 8, 8, 8, 8, 8, 8, 8, 8, 8, 8, 8, 8, 8, 8, 8, 8, 8, 8, 8, 8, 8, 8, 8, 8, 8, 8, 8]⟩ : ByteArray) (ji19)
              replace p22 := eq_true p22
              replace q22 := eq_true q22
              go_wp2
              go_ret
              exact ⟨by first | rfl | (simp; done) | (simp only [← hji19] <;> (first | rfl | simp)) | (simp [*]; done), by repeat (first | exact Drawn0.refl _ | apply Drawn0.step)⟩
            · rw [if_neg c21] at H
              exact absurd H (by simp)
          · rw [if_neg c20] at H
            exact absurd H (by simp)
def bits_Len.f (k : Nat) (a0 : Int) : Option (Int) := (bits_Len64.f k a0).bind fun t123 => (some t123)
set_option maxHeartbeats 8000000 in
set_option maxRecDepth 100000 in
theorem bits_Len.calls (k : Nat) (a0 : Int) (r : Int) (w : World) (h : bits_Len.f k a0 = some r) :
    Calls Try.prog 145 #[.int .u64 a0] w fun e w' => e = .returned (.int .i64 r) ∧ Drawn0 w w' := by
  have H : ((bits_Len64.f k a0).bind fun t123 => (some t123)) = some r := h
  clear h
  replace H := Option.bind_eq_some_iff.mp H
  obtain ⟨t123, A20, H⟩ := H
  replace H : (some t123) = some r := H
  have A2 := Aside0.mk A20
  clear A20
  obtain rfl := Option.some.inj H
  go_enter Try.func145, Try.ntmps145
  go_wp2_with (first | ((with_reducible refine gate_callee (f := 158) rfl ?_); refine goesL_ (some 7) rfl rfl Try.func158 (by kernel_rfl) rfl #[.int .u64 a0] rfl (by (try simp only [List.map_toArray, List.map_cons, List.map_nil]); first | done | rfl | (simp only [List.length_drop, List.length_take]; rfl)) ?_; (with_reducible refine (bits_Len64.calls k a0 t123 _ A2.out).mono ?_); rintro e w' ⟨rfl, ⟨nd, rfl⟩⟩; refine ⟨_, rfl, ?_⟩))
  go_ret
  exact ⟨by first | rfl | (simp; done) | (simp [*]; done), by repeat (first | exact Drawn0.refl _ | apply Drawn0.step)⟩
def ledger_split.f (k : Nat) (a0 : Int) : Option (Int) := (bits_Len.f k (IntKind.u64.wrap (wrap64 (a0 - 1)))).bind fun t124 => (if 0 ≤ (wrap64 (t124 - 1)) then (some (shl .i64 1 (wrap64 (t124 - 1)))) else (none))
set_option maxHeartbeats 8000000 in
set_option maxRecDepth 100000 in
theorem ledger_split.calls (k : Nat) (a0 : Int) (r : Int) (w : World) (h : ledger_split.f k a0 = some r) :
    Calls Try.prog 117 #[.int .i64 a0] w fun e w' => e = .returned (.int .i64 r) ∧ Drawn0 w w' := by
  have H : ((bits_Len.f k (IntKind.u64.wrap (wrap64 (a0 - 1)))).bind fun t124 => (if 0 ≤ (wrap64 (t124 - 1)) then (some (shl .i64 1 (wrap64 (t124 - 1)))) else (none))) = some r := h
  clear h
  replace H := Option.bind_eq_some_iff.mp H
  obtain ⟨t124, A20, H⟩ := H
  replace H : (if 0 ≤ (wrap64 (t124 - 1)) then (some (shl .i64 1 (wrap64 (t124 - 1)))) else (none)) = some r := H
  have A2 := Aside0.mk A20
  clear A20
  obtain ⟨ji3, hji3⟩ : ∃ j_ : Int, (wrap64 (t124 - 1)) = j_ := ⟨_, rfl⟩
  replace H : (if 0 ≤ (ji3) then (some (shl .i64 1 (ji3))) else (none)) = some r := by first | (rw [hji3] at H; exact H) | (simp only [hji3] at H ⊢; exact H)
  (try rw [hji3] at A2)
  have hji3w : (IntKind.i64.wrap (t124 - 1)) = ji3 := (i64_w _).trans hji3
  by_cases c4 : 0 ≤ (ji3)
  · rw [if_pos c4] at H
    have c4b0 := eq_true c4
    have c4b1 : decide (0 ≤ (ji3)) = true := decide_eq_true c4
    clear c4
    obtain ⟨ji5, hji5⟩ : ∃ j_ : Int, (shl .i64 1 (ji3)) = j_ := ⟨_, rfl⟩
    replace H : (some ji5) = some r := by first | (rw [hji5] at H; exact H) | (simp only [hji5] at H ⊢; exact H)
    (try rw [hji5] at A2)
    have hji5_ : (IntKind.i64.wrap (1 * 2 ^ min (ji3).toNat 64)) = ji5 := hji5
    have hji5z : (ji3) ≤ 64 → (IntKind.i64.wrap (1 * 2 ^ (ji3).toNat)) = ji5 := shl_small hji5
    have hji5u : (IntKind.i64.wrap (2 ^ min (ji3).toNat 64)) = ji5 := by have h_ := hji5_; rw [Int.one_mul] at h_; exact h_
    have hji5v : (ji3) ≤ 64 → (IntKind.i64.wrap (2 ^ (ji3).toNat)) = ji5 := fun hle_ => by have h_ := hji5z hle_; rw [Int.one_mul] at h_; exact h_
    have hji5y : (wrap64 (1 * 2 ^ min (ji3).toNat 64)) = ji5 := (i64_w _).symm.trans hji5_
    have hji5x : (ji3) ≤ 64 → (wrap64 (1 * 2 ^ (ji3).toNat)) = ji5 := fun h_ => (i64_w _).symm.trans (hji5z h_)
    obtain rfl := Option.some.inj H
    go_enter Try.func117, Try.ntmps117
    go_wp2_with (first | ((with_reducible refine gate_callee (f := 145) rfl ?_); refine goesL_ (some 6) rfl rfl Try.func145 (by kernel_rfl) rfl #[.int .u64 (IntKind.u64.wrap (wrap64 (a0 - 1)))] rfl (by (try simp only [List.map_toArray, List.map_cons, List.map_nil]); first | done | rfl | (simp only [List.length_drop, List.length_take]; rfl)) ?_; (with_reducible refine (bits_Len.calls k (IntKind.u64.wrap (wrap64 (a0 - 1))) t124 _ A2.out).mono ?_); rintro e w' ⟨rfl, ⟨nd, rfl⟩⟩; refine ⟨_, rfl, ?_⟩))
    go_ret
    exact ⟨by first | rfl | (simp; done) | (simp only [← hji3, ← hji5] <;> (first | rfl | simp)) | (simp [*]; done), by repeat (first | exact Drawn0.refl _ | apply Drawn0.step)⟩
  · rw [if_neg c4] at H
    exact absurd H (by simp)
end Go.Proofs.Ytkedodmlbepfnaa.Lg

-- from the working text Lg3
namespace Go.Proofs.Ytkedodmlbepfnaa.Lg
open Go.RowKit Go.Proofs.YtkedodmlbepfnaaW.PrintWords Go.Proofs.YtkedodmlbepfnaaW.PrintLast Go.Proofs.YtkedodmlbepfnaaW.PrintMore
attribute [local go_sem] max2_int min2_int max_two min_two max_three min_three max_four min_four   -- for this text's walks alone
set_option linter.unusedVariables false
set_option linter.unusedSimpArgs false
def acreagelaw09_five.l0 : Nat → List (S23) → Int → Option ((List (S23)))
  | 0, _, _ => none
  | k + 1, x1, x3 => if x3 < 5 then (if 0 ≤ x3 then (if x3 ≤ (wrap64 (x3 + 1)) then (if (wrap64 (x3 + 1)) ≤ 5 then (if x1.length < 4398046511104 then (acreagelaw09_five.l0 k (x1 ++ [(⟨0, x3, (⟨#[97, 98, 99, 100, 101]⟩ : ByteArray).extract (x3 : Int).toNat ((wrap64 (x3 + 1)) : Int).toNat⟩ : S23)]) (wrap64 (x3 + 1))) else (none)) else (none)) else (none)) else (none)) else (some x1)
def acreagelaw09_five.f (k : Nat)  : Option ((List (S23))) := acreagelaw09_five.l0 k ([] : List (S23)) 0
set_option maxHeartbeats 8000000 in
set_option maxRecDepth 100000 in
theorem acreagelaw09_five.calls (k : Nat)  (r : List (S23)) (w : World) (h : acreagelaw09_five.f k  = some r) :
    Calls Try.prog 58 #[] w fun e w' => ∃ v0_ : Value, e = .returned (v0_) ∧ Kd.R k23 23 w' w.heap.size (fun _ => True) v0_ r ∧ Below w.heap.size w w' := by
  have hu23 := Try.underlying23
  have HB := Aside0.mk (Below.refl w.heap.size w)
  have H : (acreagelaw09_five.l0 k ([] : List (S23)) 0) = some r := h
  clear h
  have H' := Aside0.mk H
  clear H
  go_enter Try.func58, Try.ntmps58
  go_wp2
  go_loopg [1, 3] k (fun kq v1 v3 w' => ∃ (x1_1 : List (S23)) (x3_1 : Int), v3 = .int .i64 x3_1 ∧ Aside0 (acreagelaw09_five.l0 kq x1_1 x3_1 = some r) ∧ Aside0 (kq ≤ k) ∧ Aside0 (Kd.R k23 23 w' w.heap.size (fun _ => True) v1 x1_1) ∧ Aside0 (Below w.heap.size w w'))
  case atStart => exact ⟨(([] : List (S23))), (0), (by first | rfl | (simp; done) | (simp [*]; done)), H', ⟨Nat.le_refl _⟩, ⟨by first | exact Kd.R_nil _ _ _ _ _ | exact Kd.N_nil _ _ _ _ _ | exact Kd.V_nil _ _ _ _ _ | exact Kd.Q_nil _ _ _ _ _ | exact Kd.S_nil _ _ _ _ _⟩, ⟨by repeat (first | (with_reducible first | exact HB.out | apply below_alloc | apply pw_below_drewN | apply below_drew1) | exact HB.out)⟩⟩
  case round =>
    clear H'
    obtain ⟨x1_1, x3_1, rfl, HA, HK1, HO_1, HB⟩ := hrel
    cases gk with
    | zero => exact absurd HA.out (by simp [acreagelaw09_five.l0])
    | succ k1 =>
      have H := HA.out
      clear HA
      simp only [acreagelaw09_five.l0] at H
      by_cases c1 : x3_1 < 5
      · rw [if_pos c1] at H
        have c1b0 : decide (x3_1 < 5) = true := decide_eq_true c1
        clear c1
        by_cases c2 : 0 ≤ x3_1
        · rw [if_pos c2] at H
          have c2b0 := eq_true c2
          have c2b1 : decide (0 ≤ x3_1) = true := decide_eq_true c2
          clear c2
          by_cases c3 : x3_1 ≤ (wrap64 (x3_1 + 1))
          · rw [if_pos c3] at H
            have c3b0 := eq_true c3
            have c3b1 : decide (x3_1 ≤ (wrap64 (x3_1 + 1))) = true := decide_eq_true c3
            by_cases c4 : (wrap64 (x3_1 + 1)) ≤ 5
            · rw [if_pos c4] at H
              have c4b0 := eq_true c4
              have c4b1 : decide ((wrap64 (x3_1 + 1)) ≤ 5) = true := decide_eq_true c4
              by_cases c5 : x1_1.length < 4398046511104
              · rw [if_pos c5] at H
                have LMc5 := Aside0.mk c5
                clear c5
                obtain ⟨y174, hy174⟩ : ∃ y_ : List (S23), y_ = (x1_1 ++ [(⟨0, x3_1, (⟨#[97, 98, 99, 100, 101]⟩ : ByteArray).extract (x3_1 : Int).toNat ((wrap64 (x3_1 + 1)) : Int).toNat⟩ : S23)]) := ⟨_, rfl⟩
                replace H : (acreagelaw09_five.l0 k1 y174 (wrap64 (x3_1 + 1))) = some r := by first | (rw [hy174]; with_reducible exact H) | (have H2_ := (Option.bind_some _ _).symm.trans H; rw [hy174]; with_reducible exact H2_) | (have H2_ := (Option.bind_some _ _).symm.trans H; with_reducible exact H2_) | with_reducible exact H | (rw [hy174]; exact H) | exact H
                have Ny174 := Aside0.mk hy174
                clear hy174
                have H' := Aside0.mk H
                clear H
                go_wp2_with (first | ((with_reducible refine gate_builtin (b := .append) (xs := #[.tmp 6, .tmp 13]) rfl ?_); at_builtin; refine Kd.R_append k23 (w0 := w) w.heap.size rfl (.tmp 6) (.tmp 13) 24 23 (.agg #[(.int .i64 0), (.int .i64 0), (.string ⟨#[]⟩)]) 32 rfl Try.underlying24 info23 rfl (by decide) (by omega) u1 x1_1 (⟨0, x3_1, (⟨#[97, 98, 99, 100, 101]⟩ : ByteArray).extract (x3_1 : Int).toNat ((wrap64 (x3_1 + 1)) : Int).toNat⟩ : S23) [.int .i64 0, .int .i64 x3_1, .string ((⟨#[97, 98, 99, 100, 101]⟩ : ByteArray).extract (x3_1 : Int).toNat ((wrap64 (x3_1 + 1)) : Int).toNat)] (fun _ => True) (fun _ => False) rfl rfl ?aP (fun _ hk => hk.elim) ?aF ?aO ?aB ?aS ?aL ?_; (case aP => exact k23_mkM _ _ _ (⟨0, x3_1, (⟨#[97, 98, 99, 100, 101]⟩ : ByteArray).extract (x3_1 : Int).toNat ((wrap64 (x3_1 + 1)) : Int).toNat⟩ : S23)); (case aB => exact (by repeat (first | (with_reducible first | exact HB.out | apply below_alloc | apply pw_below_drewN | apply below_drew1) | exact HB.out))); (case aF => exact (fun _ _ => trivial)); (case aO => exact (by (with_reducible repeat (first | apply Kd.R_alloc | apply Kd.R_drewN | apply Kd.R_drew)); exact HO_1.out)); (case aS => exact (below_size (by repeat (first | (with_reducible first | exact HB.out | apply below_alloc | apply pw_below_drewN | apply below_drew1) | exact HB.out)))); (case aL => have := LMc5.out; omega); intro v175 w6 ho hb hg hat; rw [← Ny174.out] at ho; have n0_ := Aside0.mk (hb); have n1_ := Aside0.mk (ho); clear HB; clear HO_1; have HB := n0_; have HO176 := n1_; clear n0_ n1_; clear ho hb hg hat))
                go_roundg k1
                case measure => have := HK1.out; omega
                case rel => exact ⟨(y174), (wrap64 (x3_1 + 1)), (by first | rfl | (simp; done) | (simp [*]; done)), H', ⟨by have := HK1.out; omega⟩, ⟨by (with_reducible repeat (first | apply Kd.R_alloc | apply Kd.R_drewN | apply Kd.R_drew)); exact HO176.out⟩, ⟨by repeat (first | (with_reducible first | exact HB.out | apply below_alloc | apply pw_below_drewN | apply below_drew1) | exact HB.out)⟩⟩
              · rw [if_neg c5] at H
                exact absurd H (by simp)
            · rw [if_neg c4] at H
              exact absurd H (by simp)
          · rw [if_neg c3] at H
            exact absurd H (by simp)
        · rw [if_neg c2] at H
          exact absurd H (by simp)
      · rw [if_neg c1] at H
        have c1b0 : decide (x3_1 < 5) = false := decide_eq_false c1
        clear c1
        obtain rfl := Option.some.inj H
        go_wp2
        go_ret
        exact ⟨_, by first | rfl | (simp [errW_none, errW_some] <;> rfl) | (simp [*, errW_none, errW_some] <;> rfl), by (with_reducible repeat (first | apply Kd.R_alloc | apply Kd.R_drewN | apply Kd.R_drew)); exact HO_1.out, by repeat (first | (with_reducible first | exact HB.out | apply below_alloc | apply pw_below_drewN | apply below_drew1) | exact HB.out)⟩
def ledger_count.f (a0 : Int) : Option (Int) := some (wrap64 (1 + (wrap64 (Int.tdiv (wrap64 (a0 + 4)) 64))))
set_option maxHeartbeats 8000000 in
set_option maxRecDepth 100000 in
theorem ledger_count.calls (a0 : Int) (r : Int) (w : World) (h : ledger_count.f a0 = some r) :
    Calls Try.prog 155 #[.int .i64 a0] w fun e w' => e = .returned (.int .i64 r) ∧ Drawn0 w w' := by
  have H : (some (wrap64 (1 + (wrap64 (Int.tdiv (wrap64 (a0 + 4)) 64))))) = some r := h
  clear h
  obtain rfl := Option.some.inj H
  go_enter Try.func155, Try.ntmps155
  go_wp2
  go_ret
  exact ⟨by first | rfl | (simp; done) | (simp [*]; done), by repeat (first | exact Drawn0.refl _ | apply Drawn0.step)⟩
def ledger_payload.f (a0_0 : Int) (a0_1 : Int) (a0_2 : ByteArray) : Option (ByteArray) := (some (([(a0_0) % 256, (a0_1) % 256] : List Int) : List Int)).bind fun y178 => (if (strOfNums y178).size + a0_2.size ≤ 9223372036854775807 then (some ((strOfNums y178) ++ a0_2)) else (none))
set_option maxHeartbeats 8000000 in
set_option maxRecDepth 100000 in
theorem ledger_payload.calls (a0_0 : Int) (a0_1 : Int) (a0_2 : ByteArray) (r : ByteArray) (w : World) (h : ledger_payload.f a0_0 a0_1 a0_2 = some r) :
    Calls Try.prog 156 #[.agg #[.int .i64 a0_0, .int .i64 a0_1, .string a0_2]] w fun e w' => e = .returned (.string r) ∧ Below w.heap.size w w' := by
  have hu23 := Try.underlying23
  have HB := Aside0.mk (Below.refl w.heap.size w)
  have H : ((some (([(a0_0) % 256, (a0_1) % 256] : List Int) : List Int)).bind fun y178 => (if (strOfNums y178).size + a0_2.size ≤ 9223372036854775807 then (some ((strOfNums y178) ++ a0_2)) else (none))) = some r := h
  clear h
  obtain ⟨y178, hy178⟩ : ∃ y_ : List Int, y_ = (([(a0_0) % 256, (a0_1) % 256] : List Int)) := ⟨_, rfl⟩
  replace H : (if (strOfNums y178).size + a0_2.size ≤ 9223372036854775807 then (some ((strOfNums y178) ++ a0_2)) else (none)) = some r := by first | (rw [hy178]; with_reducible exact H) | (have H2_ := (Option.bind_some _ _).symm.trans H; rw [hy178]; with_reducible exact H2_) | (have H2_ := (Option.bind_some _ _).symm.trans H; with_reducible exact H2_) | with_reducible exact H | (rw [hy178]; exact H) | exact H
  have Ny178 := Aside0.mk hy178
  clear hy178
  by_cases c2 : (strOfNums y178).size + a0_2.size ≤ 9223372036854775807
  · rw [if_pos c2] at H
    have c2b0 := eq_true c2
    have c2b1 : decide ((strOfNums y178).size + a0_2.size ≤ 9223372036854775807) = true := decide_eq_true c2
    try have c2b2 : (9223372036854775807 < (strOfNums y178).size + a0_2.size) = False := eq_false (Nat.not_lt.2 c2)
    try have c2b3 := c2
    try simp only [ByteArray.size_append] at c2b3
    try have c2b4 := eq_false (Nat.not_lt.2 c2b3)
    try clear c2b3
    try clear c2
    obtain rfl := Option.some.inj H
    go_enter Try.func156, Try.ntmps156
    go_wp2_with (first | ((with_reducible refine gate_dst (N := 1) rfl ?_); refine box_event ?hg (N := 1) ?hd (cs := #[.int .i64 a0_0, .int .i64 a0_1, .string a0_2]) (t := 23) ?hr ?_; (case hd => rfl); (case hg => rfl); (case hr => first | (go_simp; done) | (go_simp; rfl)); intro gb177 hg w3 hbox hb; have n0_ := Aside0.mk (below_step (by repeat (first | (with_reducible first | exact HB.out | apply below_alloc | apply pw_below_drewN | apply below_drew1) | exact HB.out)) hb); have n1_ := Aside0.mk (hbox); have n2_ := Aside0.mk ((by rw [hg]; exact (below_size (by repeat (first | (with_reducible first | exact HB.out | apply below_alloc | apply pw_below_drewN | apply below_drew1) | exact HB.out))) : w.heap.size ≤ gb177)); have n3_ := Aside0.mk ((by rw [hg]; exact (below_size (by repeat (first | (with_reducible first | exact HB.out | apply below_alloc | apply pw_below_drewN | apply below_drew1) | exact HB.out))) : w.heap.size ≤ gb177)); clear HB; have HB := n0_; have BK177 := n1_; have GW177 := n2_; have GE177 := n3_; clear n0_ n1_ n2_ n3_; clear hb hbox hg; have hcz4_0 : w3.cell? ⟨gb177, 0, none⟩ = some (.int .i64 a0_0) := (blk_cell BK177.out 0).trans rfl; have hcz4_1 : w3.cell? ⟨gb177, 1, none⟩ = some (.int .i64 a0_1) := (blk_cell BK177.out 1).trans rfl; have hcz4_2 : w3.cell? ⟨gb177, 2, none⟩ = some (.string a0_2) := (blk_cell BK177.out 2).trans rfl; have hfz4_0 := blk_frozen BK177.out 0; have hfz4_1 := blk_frozen BK177.out 1; have hfz4_2 := blk_frozen BK177.out 2) | ((with_reducible refine gate_dst (N := 9) rfl ?_); refine Kd.R_lit (Kd.int .u8) _ 5 ?hg (N := 9) ?hd (xs := ([(a0_0) % 256, (a0_1) % 256] : List Int)) (inner := [.int .u8 ((a0_0) % 256), .int .u8 ((a0_1) % 256)]) (ok := fun _ => True) (okp := fun _ => True) ?hr ?hp (fun _ hk => hk) trivial (Below.refl _ _) (Nat.le_refl _) (by simp) ?_; (case hd => rfl); (case hg => rfl); (case hr => first | (go_simp; done) | (go_simp; rfl)); (case hp => exact (Reps.one (show Kd.M (Kd.int .u8) _ _ _ ((a0_0) % 256) [.int .u8 ((a0_0) % 256)] from rfl) (Reps.one (show Kd.M (Kd.int .u8) _ _ _ ((a0_1) % 256) [.int .u8 ((a0_1) % 256)] from rfl) (Reps.none _ _)))); intro v179 w5 ho6 hb hg_ hnew_; clear hg_ hnew_; (first | rw [← Ny178.out] at ho6 | (simp only [Int.reduceToNat] at ho6; rw [← Ny178.out] at ho6)); have n0_ := Aside0.mk (Kd.R_lower ho6 (below_size (by repeat (first | (with_reducible first | exact HB.out | apply below_alloc | apply pw_below_drewN | apply below_drew1 | refine below_set ?_ GE177.out) | exact HB.out)))); have n1_ := Aside0.mk (blk_below (g := gb177) (o := .cells #[.int .i64 a0_0, .int .i64 a0_1, .string a0_2] 23 (0, 0)) (by (with_reducible repeat (first | refine blk_drewN ?_ _ | refine blk_drew ?_ | refine blk_alloc ?_ _)); exact BK177.out) hb); have n2_ := Aside0.mk (below_step (by repeat (first | (with_reducible first | exact HB.out | apply below_alloc | apply pw_below_drewN | apply below_drew1 | refine below_set ?_ GE177.out) | exact HB.out)) hb); clear BK177; clear HB; have HO180 := n0_; have BK177 := n1_; have HB := n2_; clear n0_ n1_ n2_; clear hb ho6; have hcv7 := own_string (P := Try.prog) Try.underlying88 Try.underlying5 Try.underlying9 (Kd.own_of_R HO180.out); have hcz8_0 : w5.cell? ⟨gb177, 0, none⟩ = some (.int .i64 a0_0) := (blk_cell BK177.out 0).trans rfl; have hcz8_1 : w5.cell? ⟨gb177, 1, none⟩ = some (.int .i64 a0_1) := (blk_cell BK177.out 1).trans rfl; have hcz8_2 : w5.cell? ⟨gb177, 2, none⟩ = some (.string a0_2) := (blk_cell BK177.out 2).trans rfl; have hfz8_0 := blk_frozen BK177.out 0; have hfz8_1 := blk_frozen BK177.out 1; have hfz8_2 := blk_frozen BK177.out 2))
    go_ret
    exact ⟨by first | rfl | (simp [errW_none, errW_some] <;> rfl) | (simp [*, errW_none, errW_some] <;> rfl), by repeat (first | (with_reducible first | exact HB.out | apply below_alloc | apply pw_below_drewN | apply below_drew1 | refine below_set ?_ GE177.out) | exact HB.out)⟩
  · rw [if_neg c2] at H
    exact absurd H (by simp)
def ledger_sectors.f (a0_0 : Int) (a0_1 : Int) (a0_2 : ByteArray) : Option (Int) := (ledger_payload.f a0_0 a0_1 a0_2).bind fun t182 => ((ledger_count.f (t182.size : Int)).bind fun t183 => (some t183))
set_option maxHeartbeats 8000000 in
set_option maxRecDepth 100000 in
theorem ledger_sectors.calls (a0_0 : Int) (a0_1 : Int) (a0_2 : ByteArray) (r : Int) (w : World) (h : ledger_sectors.f a0_0 a0_1 a0_2 = some r) :
    Calls Try.prog 142 #[.agg #[.int .i64 a0_0, .int .i64 a0_1, .string a0_2]] w fun e w' => e = .returned (.int .i64 r) ∧ Below w.heap.size w w' := by
  have hu23 := Try.underlying23
  have HB := Aside0.mk (Below.refl w.heap.size w)
  have H : ((ledger_payload.f a0_0 a0_1 a0_2).bind fun t182 => ((ledger_count.f (t182.size : Int)).bind fun t183 => (some t183))) = some r := h
  clear h
  replace H := Option.bind_eq_some_iff.mp H
  obtain ⟨t182, A20, H⟩ := H
  replace H : ((ledger_count.f (t182.size : Int)).bind fun t183 => (some t183)) = some r := H
  have A2 := Aside0.mk A20
  clear A20
  replace H := Option.bind_eq_some_iff.mp H
  obtain ⟨t183, A30, H⟩ := H
  replace H : (some t183) = some r := H
  have A3 := Aside0.mk A30
  clear A30
  obtain rfl := Option.some.inj H
  go_enter Try.func142, Try.ntmps142
  go_wp2_with (first | ((with_reducible refine gate_dst (N := 1) rfl ?_); refine box_event ?hg (N := 1) ?hd (cs := #[.int .i64 a0_0, .int .i64 a0_1, .string a0_2]) (t := 23) ?hr ?_; (case hd => rfl); (case hg => rfl); (case hr => first | (go_simp; done) | (go_simp; rfl)); intro gb181 hg w4 hbox hb; have n0_ := Aside0.mk (below_step (by repeat (first | (with_reducible first | exact HB.out | apply below_alloc | apply pw_below_drewN | apply below_drew1) | exact HB.out)) hb); have n1_ := Aside0.mk (hbox); have n2_ := Aside0.mk ((by rw [hg]; exact (below_size (by repeat (first | (with_reducible first | exact HB.out | apply below_alloc | apply pw_below_drewN | apply below_drew1) | exact HB.out))) : w.heap.size ≤ gb181)); have n3_ := Aside0.mk ((by rw [hg]; exact (below_size (by repeat (first | (with_reducible first | exact HB.out | apply below_alloc | apply pw_below_drewN | apply below_drew1) | exact HB.out))) : w.heap.size ≤ gb181)); clear HB; have HB := n0_; have BK181 := n1_; have GW181 := n2_; have GE181 := n3_; clear n0_ n1_ n2_ n3_; clear hb hbox hg; have hcz5_0 : w4.cell? ⟨gb181, 0, none⟩ = some (.int .i64 a0_0) := (blk_cell BK181.out 0).trans rfl; have hcz5_1 : w4.cell? ⟨gb181, 1, none⟩ = some (.int .i64 a0_1) := (blk_cell BK181.out 1).trans rfl; have hcz5_2 : w4.cell? ⟨gb181, 2, none⟩ = some (.string a0_2) := (blk_cell BK181.out 2).trans rfl; have hfz5_0 := blk_frozen BK181.out 0; have hfz5_1 := blk_frozen BK181.out 1; have hfz5_2 := blk_frozen BK181.out 2) | ((with_reducible refine gate_callee (f := 156) rfl ?_); refine goesL_ (some 4) rfl rfl Try.func156 (by kernel_rfl) rfl #[.agg #[.int .i64 a0_0, .int .i64 a0_1, .string a0_2]] rfl (by (try simp only [List.map_toArray, List.map_cons, List.map_nil]); first | done | rfl | (simp only [List.length_drop, List.length_take]; rfl)) ?_; (with_reducible refine (ledger_payload.calls a0_0 a0_1 a0_2 t182 _ A2.out).mono ?_); rintro e w6 ⟨rfl, hb⟩; refine ⟨_, rfl, ?_⟩; have n0_ := Aside0.mk (blk_below (g := gb181) (o := .cells #[.int .i64 a0_0, .int .i64 a0_1, .string a0_2] 23 (0, 0)) (by (with_reducible repeat (first | refine blk_drewN ?_ _ | refine blk_drew ?_ | refine blk_alloc ?_ _)); exact BK181.out) hb); have n1_ := Aside0.mk (below_step (by repeat (first | (with_reducible first | exact HB.out | apply below_alloc | apply pw_below_drewN | apply below_drew1 | refine below_set ?_ GE181.out) | exact HB.out)) hb); clear BK181; clear HB; have BK181 := n0_; have HB := n1_; clear n0_ n1_; (try clear hb); (try clear hb2); (try clear hk); (try clear hi)) | ((with_reducible refine gate_callee (f := 155) rfl ?_); refine goesL_ (some 6) rfl rfl Try.func155 (by kernel_rfl) rfl #[.int .i64 (t182.size : Int)] rfl (by (try simp only [List.map_toArray, List.map_cons, List.map_nil]); first | done | rfl | (simp only [List.length_drop, List.length_take]; rfl)) ?_; (with_reducible refine (ledger_count.calls (t182.size : Int) t183 _ A3.out).mono ?_); rintro e w' ⟨rfl, ⟨nd, rfl⟩⟩; refine ⟨_, rfl, ?_⟩))
  go_ret
  exact ⟨by first | rfl | (simp [errW_none, errW_some] <;> rfl) | (simp [*, errW_none, errW_some] <;> rfl), by repeat (first | (with_reducible first | exact HB.out | apply below_alloc | apply pw_below_drewN | apply below_drew1 | refine below_set ?_ GE181.out) | exact HB.out)⟩
end Go.Proofs.Ytkedodmlbepfnaa.Lg

-- from the working text Lg4
namespace Go.Proofs.Ytkedodmlbepfnaa.Lg
open Go.RowKit Go.Proofs.YtkedodmlbepfnaaW.PrintWords Go.Proofs.YtkedodmlbepfnaaW.PrintLast Go.Proofs.YtkedodmlbepfnaaW.PrintMore
attribute [local go_sem] max2_int min2_int max_two min_two max_three min_three max_four min_four   -- for this text's walks alone
set_option linter.unusedVariables false
set_option linter.unusedSimpArgs false
def acreageref09_zeros.f  : Option (ByteArray) := if 64 ≤ 281474976710656 then (some (strOfNums (List.replicate 64 0))) else (none)
set_option maxHeartbeats 8000000 in
set_option maxRecDepth 100000 in
theorem acreageref09_zeros.calls  (r : ByteArray) (w : World) (h : acreageref09_zeros.f  = some r) :
    Calls Try.prog 84 #[] w fun e w' => e = .returned (.string r) ∧ Below w.heap.size w w' := by
  have HB := Aside0.mk (Below.refl w.heap.size w)
  have H : (if 64 ≤ 281474976710656 then (some (strOfNums (List.replicate 64 0))) else (none)) = some r := h
  clear h
  by_cases c1 : 64 ≤ 281474976710656
  · rw [if_pos c1] at H
    have c1b0 := eq_true c1
    have c1b1 : decide (64 ≤ 281474976710656) = true := decide_eq_true c1
    clear c1
    obtain ⟨y243, hy243⟩ : ∃ y_ : List Int, y_ = (List.replicate 64 0) := ⟨_, rfl⟩
    replace H : (some (strOfNums y243)) = some r := by first | (rw [hy243]; with_reducible exact H) | (have H2_ := (Option.bind_some _ _).symm.trans H; rw [hy243]; with_reducible exact H2_) | (have H2_ := (Option.bind_some _ _).symm.trans H; with_reducible exact H2_) | with_reducible exact H | (rw [hy243]; exact H) | exact H
    have Ny243 := Aside0.mk hy243
    clear hy243
    obtain rfl := Option.some.inj H
    go_enter Try.func84, Try.ntmps84
    go_wp2_with (first | ((with_reducible refine gate_dst (N := 1) rfl ?_); refine Kd.R_make (Kd.int .u8) _ 5 rfl (N := 1) rfl 88 _ _ rfl 64 rfl rfl Try.underlying88 (.int .u8 0) 1 info5 rfl (by decide) (by omega) 0 (ok := fun _ => True) (okp := fun _ => True) rfl (fun _ hk => hk) trivial (by omega) (by omega) (Below.refl _ _) (Nat.le_refl _) ?_; intro v244 w2 ho3 hb hg_ hnew_; clear hg_ hnew_; (first | rw [← Ny243.out] at ho3 | (simp only [Int.reduceToNat] at ho3; rw [← Ny243.out] at ho3)); have n0_ := Aside0.mk (Kd.R_lower ho3 (below_size (by repeat (first | (with_reducible first | exact HB.out | apply below_alloc | apply pw_below_drewN | apply below_drew1) | exact HB.out)))); have n1_ := Aside0.mk (below_step (by repeat (first | (with_reducible first | exact HB.out | apply below_alloc | apply pw_below_drewN | apply below_drew1) | exact HB.out)) hb); clear HB; have HO245 := n0_; have HB := n1_; clear n0_ n1_; clear hb ho3; have hcv4 := own_string (P := Try.prog) Try.underlying88 Try.underlying5 Try.underlying9 (Kd.own_of_R HO245.out)))
    go_ret
    exact ⟨by first | rfl | (simp [errW_none, errW_some] <;> rfl) | (simp [*, errW_none, errW_some] <;> rfl), by repeat (first | (with_reducible first | exact HB.out | apply below_alloc | apply pw_below_drewN | apply below_drew1) | exact HB.out)⟩
  · rw [if_neg c1] at H
    exact absurd H (by simp)
def acreagelaw09_sector.f (a0 : ByteArray) : Option (ByteArray) := if (a0.size : Int) > 0 then (if (a0.size : Int) < 64 then (if 0 ≤ (wrap64 (64 - (a0.size : Int))) then (if (wrap64 (64 - (a0.size : Int)) : Int).toNat ≤ 281474976710656 then ((some (List.replicate (wrap64 (64 - (a0.size : Int)) : Int).toNat 0 : List Int)).bind fun y246 => (if a0.size + (strOfNums y246).size ≤ 9223372036854775807 then (some (a0 ++ (strOfNums y246))) else (none))) else (none)) else (none)) else (some a0)) else (some a0)
set_option maxHeartbeats 8000000 in
set_option maxRecDepth 100000 in
theorem acreagelaw09_sector.calls (a0 : ByteArray) (r : ByteArray) (w : World) (h : acreagelaw09_sector.f a0 = some r) :
    Calls Try.prog 32 #[.string a0] w fun e w' => e = .returned (.string r) ∧ Below w.heap.size w w' := by
  have HB := Aside0.mk (Below.refl w.heap.size w)
  have H : (if (a0.size : Int) > 0 then (if (a0.size : Int) < 64 then (if 0 ≤ (wrap64 (64 - (a0.size : Int))) then (if (wrap64 (64 - (a0.size : Int)) : Int).toNat ≤ 281474976710656 then ((some (List.replicate (wrap64 (64 - (a0.size : Int)) : Int).toNat 0 : List Int)).bind fun y246 => (if a0.size + (strOfNums y246).size ≤ 9223372036854775807 then (some (a0 ++ (strOfNums y246))) else (none))) else (none)) else (none)) else (some a0)) else (some a0)) = some r := h
  clear h
  by_cases c2 : (a0.size : Int) > 0
  · rw [if_pos c2] at H
    have c2b0 : decide (0 < (a0.size : Int)) = true := decide_eq_true c2
    have c2b1 : decide (0 < a0.size) = true := decide_eq_true (by omega)
    clear c2
    by_cases c3 : (a0.size : Int) < 64
    · rw [if_pos c3] at H
      have c3b0 : decide ((a0.size : Int) < 64) = true := decide_eq_true c3
      have c3b1 : decide (a0.size < 64) = true := decide_eq_true (by omega)
      clear c3
      obtain ⟨ji4, hji4⟩ : ∃ j_ : Int, (wrap64 (64 - (a0.size : Int))) = j_ := ⟨_, rfl⟩
      replace H : (if 0 ≤ (ji4) then (if (ji4 : Int).toNat ≤ 281474976710656 then ((some (List.replicate (ji4 : Int).toNat 0 : List Int)).bind fun y246 => (if a0.size + (strOfNums y246).size ≤ 9223372036854775807 then (some (a0 ++ (strOfNums y246))) else (none))) else (none)) else (none)) = some r := by first | (rw [hji4] at H; exact H) | (simp only [hji4] at H ⊢; exact H)
      have hji4w : (IntKind.i64.wrap (64 - (a0.size : Int))) = ji4 := (i64_w _).trans hji4
      by_cases c5 : 0 ≤ (ji4)
      · rw [if_pos c5] at H
        have c5b0 := eq_true c5
        have c5b1 : decide (0 ≤ (ji4)) = true := decide_eq_true c5
        clear c5
        by_cases c6 : (ji4 : Int).toNat ≤ 281474976710656
        · rw [if_pos c6] at H
          have c6b0 := eq_true c6
          have c6b1 : decide ((ji4 : Int).toNat ≤ 281474976710656) = true := decide_eq_true c6
          clear c6
          obtain ⟨y246, hy246⟩ : ∃ y_ : List Int, y_ = (List.replicate (ji4 : Int).toNat 0) := ⟨_, rfl⟩
          replace H : (if a0.size + (strOfNums y246).size ≤ 9223372036854775807 then (some (a0 ++ (strOfNums y246))) else (none)) = some r := by first | (rw [hy246]; with_reducible exact H) | (have H2_ := (Option.bind_some _ _).symm.trans H; rw [hy246]; with_reducible exact H2_) | (have H2_ := (Option.bind_some _ _).symm.trans H; with_reducible exact H2_) | with_reducible exact H | (rw [hy246]; exact H) | exact H
          have Ny246 := Aside0.mk hy246
          clear hy246
          by_cases c7 : a0.size + (strOfNums y246).size ≤ 9223372036854775807
          · rw [if_pos c7] at H
            have c7b0 := eq_true c7
            have c7b1 : decide (a0.size + (strOfNums y246).size ≤ 9223372036854775807) = true := decide_eq_true c7
            try have c7b2 : (9223372036854775807 < a0.size + (strOfNums y246).size) = False := eq_false (Nat.not_lt.2 c7)
            try have c7b3 := c7
            try simp only [ByteArray.size_append] at c7b3
            try have c7b4 := eq_false (Nat.not_lt.2 c7b3)
            try clear c7b3
            try clear c7
            obtain rfl := Option.some.inj H
            go_enter Try.func32, Try.ntmps32
            go_wp2_with (first | ((with_reducible refine gate_dst (N := 15) rfl ?_); (try (refine gate_guard (by rfl) ?_; dsimp only)); refine Kd.R_make (Kd.int .u8) _ 5 rfl (N := 15) rfl 88 _ _ rfl ji4 rfl rfl Try.underlying88 (.int .u8 0) 1 info5 rfl (by decide) (by omega) 0 (ok := fun _ => True) (okp := fun _ => True) rfl (fun _ hk => hk) trivial (of_decide_eq_true (by first | (with_reducible assumption) | assumption)) (Nat.le_trans (Nat.mul_le_mul_right _ (of_decide_eq_true (by first | (with_reducible assumption) | assumption) : ji4.toNat ≤ 281474976710656)) (by omega)) (Below.refl _ _) (Nat.le_refl _) ?_; intro v247 w8 ho9 hb hg_ hnew_; clear hg_ hnew_; (first | rw [← Ny246.out] at ho9 | (simp only [Int.reduceToNat] at ho9; rw [← Ny246.out] at ho9)); have n0_ := Aside0.mk (Kd.R_lower ho9 (below_size (by repeat (first | (with_reducible first | exact HB.out | apply below_alloc | apply pw_below_drewN | apply below_drew1) | exact HB.out)))); have n1_ := Aside0.mk (below_step (by repeat (first | (with_reducible first | exact HB.out | apply below_alloc | apply pw_below_drewN | apply below_drew1) | exact HB.out)) hb); clear HB; have HO248 := n0_; have HB := n1_; clear n0_ n1_; clear hb ho9; have hcv10 := own_string (P := Try.prog) Try.underlying88 Try.underlying5 Try.underlying9 (Kd.own_of_R HO248.out)))
            go_ret
            exact ⟨by first | rfl | (simp [errW_none, errW_some] <;> rfl) | (simp only [← hji4]; first | rfl | (simp [errW_none, errW_some] <;> rfl)) | (simp [*, errW_none, errW_some] <;> rfl), by repeat (first | (with_reducible first | exact HB.out | apply below_alloc | apply pw_below_drewN | apply below_drew1) | exact HB.out)⟩
          · rw [if_neg c7] at H
            exact absurd H (by simp)
        · rw [if_neg c6] at H
          exact absurd H (by simp)
      · rw [if_neg c5] at H
        exact absurd H (by simp)
    · rw [if_neg c3] at H
      have c3b0 : decide ((a0.size : Int) < 64) = false := decide_eq_false c3
      have c3b1 : decide (a0.size < 64) = false := decide_eq_false (by omega)
      clear c3
      obtain rfl := Option.some.inj H
      go_enter Try.func32, Try.ntmps32
      go_wp2
      go_ret
      exact ⟨by first | rfl | (simp [errW_none, errW_some] <;> rfl) | (simp [*, errW_none, errW_some] <;> rfl), by repeat (first | (with_reducible first | exact HB.out | apply below_alloc | apply pw_below_drewN | apply below_drew1) | exact HB.out)⟩
  · rw [if_neg c2] at H
    have c2b0 : decide (0 < (a0.size : Int)) = false := decide_eq_false c2
    have c2b1 : decide (0 < a0.size) = false := decide_eq_false (by omega)
    clear c2
    obtain rfl := Option.some.inj H
    go_enter Try.func32, Try.ntmps32
    go_wp2
    go_ret
    exact ⟨by first | rfl | (simp [errW_none, errW_some] <;> rfl) | (simp [*, errW_none, errW_some] <;> rfl), by repeat (first | (with_reducible first | exact HB.out | apply below_alloc | apply pw_below_drewN | apply below_drew1) | exact HB.out)⟩
/-- A state of type 118 at block g of W; what its slices lead to came in by w0. -/
def IsS118 (w0 W : World) (g : Nat) (f0 : List ByteArray) (f1 : List ByteArray) (f2 : List (S126)) (f3 : Bool) (f4 : Int) (f5 : Int) : Prop := ∃ A0 c0, ∃ A1 c1, ∃ A2 c2, W.heap[g]? = some (.cells #[.slice A0 f0.length c0, .slice A1 f1.length c1, .slice A2 f2.length c2, .bool f3, .int .i64 f4, .int .i64 f5] 118 (0, 0)) ∧ w0.heap.size ≤ g ∧ Kd.C Kd.string w0 A0 f0.length f0 ∧ Kd.C Kd.string w0 A1 f1.length f1 ∧ Kd.C k126 w0 A2 f2.length f2
theorem IsS118.grown {w0 W : World} {g : Nat} {f0 : List ByteArray} {f1 : List ByteArray} {f2 : List (S126)} {f3 : Bool} {f4 : Int} {f5 : Int} {W1 : World} {row : Option Nat} (h : IsS118 w0 W g f0 f1 f2 f3 f4 f5) (hw : W.grownBy W1 row) (hne : some g ≠ row) : IsS118 w0 W1 g f0 f1 f2 f3 f4 f5 := by
  obtain ⟨A0, c0, A1, c1, A2, c2, hb, hg, hr0, hr1, hr2⟩ := h
  exact ⟨A0, c0, A1, c1, A2, c2, blk_grown hb hw hne, hg, hr0, hr1, hr2⟩
theorem IsS118.kept {w0 W : World} {g : Nat} {f0 : List ByteArray} {f1 : List ByteArray} {f2 : List (S126)} {f3 : Bool} {f4 : Int} {f5 : Int} {W1 : World} {S : Nat → Prop} (h : IsS118 w0 W g f0 f1 f2 f3 f4 f5) (hk : Kept W W1 S) (hne : ¬ S g) : IsS118 w0 W1 g f0 f1 f2 f3 f4 f5 := by
  obtain ⟨A0, c0, A1, c1, A2, c2, hb, hg, hr0, hr1, hr2⟩ := h
  exact ⟨A0, c0, A1, c1, A2, c2, blk_kept hb hk hne, hg, hr0, hr1, hr2⟩
theorem IsS118.below {w0 W : World} {g : Nat} {f0 : List ByteArray} {f1 : List ByteArray} {f2 : List (S126)} {f3 : Bool} {f4 : Int} {f5 : Int} {W1 : World} (h : IsS118 w0 W g f0 f1 f2 f3 f4 f5) (hw : Below W.heap.size W W1) : IsS118 w0 W1 g f0 f1 f2 f3 f4 f5 := h.grown (grown_of_below hw none) (by simp)
theorem IsS118.alloc {w0 W : World} {g : Nat} {f0 : List ByteArray} {f1 : List ByteArray} {f2 : List (S126)} {f3 : Bool} {f4 : Int} {f5 : Int} (h : IsS118 w0 W g f0 f1 f2 f3 f4 f5) (o : Obj) : IsS118 w0 (W.alloc o) g f0 f1 f2 f3 f4 f5 := h.below (below_alloc (Below.refl _ _) o)
theorem IsS118.drewN {w0 W : World} {g : Nat} {f0 : List ByteArray} {f1 : List ByteArray} {f2 : List (S126)} {f3 : Bool} {f4 : Int} {f5 : Int} (h : IsS118 w0 W g f0 f1 f2 f3 f4 f5) (m : Nat) : IsS118 w0 (W.drewN m) g f0 f1 f2 f3 f4 f5 := h
theorem IsS118.drew {w0 W : World} {g : Nat} {f0 : List ByteArray} {f1 : List ByteArray} {f2 : List (S126)} {f3 : Bool} {f4 : Int} {f5 : Int} (h : IsS118 w0 W g f0 f1 f2 f3 f4 f5) : IsS118 w0 W.drew g f0 f1 f2 f3 f4 f5 := h
theorem IsS118.at_ {w0 W : World} {g : Nat} {f0 : List ByteArray} {f1 : List ByteArray} {f2 : List (S126)} {f3 : Bool} {f4 : Int} {f5 : Int} {w' : World} {m : Nat} (hq : W.drewN m = w') (h : IsS118 w0 W g f0 f1 f2 f3 f4 f5) : IsS118 w0 w' g f0 f1 f2 f3 f4 f5 := by subst hq; exact IsS118.drewN h m
theorem IsS118.apart {w0 W : World} {g : Nat} {f0 : List ByteArray} {f1 : List ByteArray} {f2 : List (S126)} {f3 : Bool} {f4 : Int} {f5 : Int} {α : Type} {d : Kd α} {e : Nat} {base : Nat} {ok : Nat → Prop} {v : Value} {xs : List α} (h : IsS118 w0 W g f0 f1 f2 f3 f4 f5) (ho : d.R e W base ok v xs) (ht : ∀ q, q ∈ e :: d.E → q ≠ 118) : d.R e W base (fun k => ok k ∧ k ≠ g) v xs := by
  obtain ⟨A0, c0, A1, c1, A2, c2, hb, hg, hr0, hr1, hr2⟩ := h
  exact Kd.R_types ho hb ht
theorem IsS118.lt {w0 W : World} {g : Nat} {f0 : List ByteArray} {f1 : List ByteArray} {f2 : List (S126)} {f3 : Bool} {f4 : Int} {f5 : Int} (h : IsS118 w0 W g f0 f1 f2 f3 f4 f5) : g < W.heap.size := by
  obtain ⟨A0, c0, A1, c1, A2, c2, hb, hg, hr0, hr1, hr2⟩ := h
  exact blk_lt hb
theorem IsS118.far {w0 W : World} {g : Nat} {f0 : List ByteArray} {f1 : List ByteArray} {f2 : List (S126)} {f3 : Bool} {f4 : Int} {f5 : Int} {p : Addr} (h : IsS118 w0 W g f0 f1 f2 f3 f4 f5) (hne : g ≠ p.block) (u : Value) : IsS118 w0 (W.setCell p u) g f0 f1 f2 f3 f4 f5 := by
  obtain ⟨A0, c0, A1, c1, A2, c2, hb, hg, hr0, hr1, hr2⟩ := h
  exact ⟨A0, c0, A1, c1, A2, c2, blk_far hb hne u, hg, hr0, hr1, hr2⟩
theorem IsS118.new (w0 W : World) (A0 : Option Addr) (c0 : Nat) (A1 : Option Addr) (c1 : Nat) (A2 : Option Addr) (c2 : Nat) (f0 : List ByteArray) (f1 : List ByteArray) (f2 : List (S126)) (f3 : Bool) (f4 : Int) (f5 : Int) (hB : Below w0.heap.size w0 W) (hr0 : Kd.C Kd.string w0 A0 f0.length f0) (hr1 : Kd.C Kd.string w0 A1 f1.length f1) (hr2 : Kd.C k126 w0 A2 f2.length f2) : IsS118 w0 (W.alloc (.cells #[.slice A0 f0.length c0, .slice A1 f1.length c1, .slice A2 f2.length c2, .bool f3, .int .i64 f4, .int .i64 f5] 118)) W.heap.size f0 f1 f2 f3 f4 f5 := ⟨A0, c0, A1, c1, A2, c2, by simpa using heap_alloc_new W _, hB.size, hr0, hr1, hr2⟩
end Go.Proofs.Ytkedodmlbepfnaa.Lg

-- from the working text Rg
namespace Go.Proofs.Ytkedodmlbepfnaa.Rg
open Go.RowKit Go.Proofs.YtkedodmlbepfnaaW.PrintWords Go.Proofs.YtkedodmlbepfnaaW.PrintLast Go.Proofs.YtkedodmlbepfnaaW.PrintMore
section
variable {P : Program} {ops : Array Oper} {Q : Exit → Act → World → Prop} {T : Bool × List (List Nat × List Nat)} {B : List Nat} {n : Nat} {a0 : Act} {w0 : World} {rel : Nat → Value → World → Prop} {D : List (Nat × Tmp)}
def fill (a : Act) (vals : Nat → Value) : List (Nat × Tmp) → Act
  | [] => a
  | e :: r => fill (a.put (some e.2) (vals e.1)) vals r
def ent (vals : Nat → Value) (D : List (Nat × Tmp)) : List (Nat × Tmp × Value) := D.map fun e => (e.1, e.2, vals e.1)
theorem fill_eq {b : Nat → Bool} (vals : Nat → Value) : ∀ (D : List (Nat × Tmp)) (a : Act), (∀ e ∈ D, b e.1 = true) → putSel a b (ent vals D) = fill a vals D
  | [], _, _ => rfl
  | e :: r, a, h => by
    show putSel (if b e.1 = true then a.put (some e.2) (vals e.1) else a) b (ent vals r) = _
    rw [if_pos (h e List.mem_cons_self)]
    exact fill_eq vals r _ (fun e he => h e (List.mem_cons_of_mem _ he))
/-- The step of one operation, told from its needs' results alone. -/
def Step (P : Program) (ops : Array Oper) (Q : Exit → Act → World → Prop) (B : List Nat) (D : List (Nat × Tmp)) (rel : Nat → Value → World → Prop) (a0 : Act) (w0 : World) (i : Nat) : Prop :=
  ∀ a w, Below w0.heap.size w0 w → a.tmps.size = a0.tmps.size → a.defers = a0.defers → (∀ t, (D.all fun e => !(e.2 == t)) = true → a.tmps[t]? = a0.tmps[t]?) →
    (∀ j t, D.contains (j, t) = true → (B.getD i 0).testBit j = true → ∃ v, a.tmps[t]? = some v ∧ rel j v w) →
    ∃ oi, ops[i]? = some oi ∧ ∀ K : Act → World → Prop, (∀ v w1, Below w.heap.size w w1 → rel i v w1 → K (a.put oi.dst v) w1) → if Region.wanted oi (yielded ops a.tmps) = true then Oper.wp P oi a w K Q else K (a.put oi.dst undef) w
theorem steps_nil : ∀ i ∈ ([] : List Nat), Step P ops Q B D rel a0 w0 i := fun _ h => by cases h
theorem steps_cons {i : Nat} {rs : List Nat} (h : Step P ops Q B D rel a0 w0 i) (hs : ∀ j ∈ rs, Step P ops Q B D rel a0 w0 j) : ∀ j ∈ i :: rs, Step P ops Q B D rel a0 w0 j := fun j hj => by
  rcases List.mem_cons.1 hj with rfl | hj
  · exact h
  · exact hs j hj
/-- D: each operation with a destination, by its number, the destinations all different. -/
def dOk (ops : Array Oper) (O : List Nat) (D : List (Nat × Tmp)) (size : Nat) : Bool :=
  (D.all fun e => decide (e.2 < size) && O.contains e.1) && decide (D.map (·.2)).Nodup && decide (D.map (·.1)).Nodup &&
  O.all fun i => match ops[i]? with
    | some o => match o.dst with
      | some t => D.contains (i, t)
      | none => D.all fun e => !(e.1 == i)
    | none => false
theorem split_at {D : List (Nat × Tmp)} {e : Nat × Tmp} (h : e ∈ D) : ∃ L1 L2, D = L1 ++ e :: L2 := List.append_of_mem h
theorem ent_append (vals : Nat → Value) (L1 L2 : List (Nat × Tmp)) : ent vals (L1 ++ L2) = ent vals L1 ++ ent vals L2 := by simp [ent]
theorem ent_congr {vals vals' : Nat → Value} {D : List (Nat × Tmp)} (h : ∀ e ∈ D, vals e.1 = vals' e.1) : ent vals D = ent vals' D := by
  unfold ent; exact List.map_congr_left fun e he => by rw [h e he]
theorem rg_all (hT : rtab .any ops = T) (hw : waitsOk T.2 B = true) (O : List Nat) (hk : baseOk T.2 O = true) (hD : dOk ops O D a0.tmps.size = true)
    (hst : ∀ i v w w', rel i v w → Below w.heap.size w w' → rel i v w')
    (hs : ∀ i ∈ O, Step P ops Q B D rel a0 w0 i)
    (hend : ∀ (vals : Nat → Value) (w : World), Below w0.heap.size w0 w → (∀ e ∈ D, rel e.1 (vals e.1) w) → Q .normal (fill a0 vals D) w)
    {l : Array Bool} {fuel : Nat} (hl : (lof T.2.length O (fun _ => false) == l.toList && O.length == fuel) = true) {w : World} (hb0 : Below w0.heap.size w0 w) :
    wpAnyLast P .any ops Q (fun _ => True) [] fuel l a0 w := by
  simp only [dOk, Bool.and_eq_true] at hD
  obtain ⟨⟨⟨hD1, hD2⟩, hD3⟩, hD4⟩ := hD
  have hD2 := of_decide_eq_true hD2
  have hD3 := of_decide_eq_true hD3
  refine inv_ O (fun b a w => Below w0.heap.size w0 w ∧ ∃ vals : Nat → Value, a = putSel a0 b (ent vals D) ∧ ∀ i, O.contains i = true → b i = true → rel i (vals i) w) hT hw hk hl ?_ ?_ ?_
  · refine ⟨hb0, fun _ => undef, ?_, fun i _ h => by cases h⟩
    have : ∀ (D : List (Nat × Tmp)) (a : Act), a = putSel a (fun _ => false) (ent (fun _ => undef) D) := by
      intro D
      induction D with
      | nil => intro a; rfl
      | cons e r ih => intro a; exact ih a
    exact this D a0
  · intro i hi b a w hI hbi hneed hafter
    obtain ⟨hb, vals, ha, hrel⟩ := hI
    have hsz := putSel_size b (ent vals D) a0
    rw [← ha] at hsz
    obtain ⟨oi, hoi, hstep⟩ := hs i hi a w hb hsz.1 hsz.2
      (fun t ht => by
        rw [ha]
        refine putSel_off ?_
        unfold ent
        rw [List.all_map]
        exact ht)
      (fun j t hjt hbit => by
        have hjt := List.contains_iff_mem.1 hjt
        have h1 := List.all_eq_true.1 hD1 (j, t) hjt
        simp only [Bool.and_eq_true, decide_eq_true_eq] at h1
        have hbj := hneed j (by rw [Bool.and_eq_true]; exact ⟨h1.2, hbit⟩)
        obtain ⟨k, hk1, hk2⟩ := List.getElem_of_mem hjt
        refine ⟨vals j, ?_, hrel j h1.2 hbj⟩
        rw [ha]
        refine putSel_on (e := (j, t, vals j)) k ?_ ?_ hbj ?_
        · unfold ent
          rw [List.getElem?_map, List.getElem?_eq_getElem hk1, hk2]
          rfl
        · unfold ent
          rw [← List.map_drop, List.all_map, List.all_eq_true]
          intro x hx
          have hnd := hD2
          rw [← List.take_append_drop (k + 1) D, List.map_append, List.nodup_append] at hnd
          have h2 := hnd.2.2
          have hmem : (j, t) ∈ D.take (k + 1) := by
            rw [List.mem_take_iff_getElem]
            exact ⟨k, by omega, hk2⟩
          have h3 := h2 t (List.mem_map.2 ⟨_, hmem, rfl⟩) x.2 (List.mem_map.2 ⟨_, hx, rfl⟩)
          simp only [Function.comp, Bool.not_eq_true', beq_eq_false_iff_ne, ne_eq]
          exact fun h => h3 h.symm
        · rw [Nat.ble_eq]; exact h1.1)
    refine ⟨oi, hoi, fun K hK => hstep K fun v w1 hbw hrv => hK _ _ ⟨?_, ?_⟩⟩
    · exact below_step hb hbw
    · have h4 := List.all_eq_true.1 hD4 i hi
      simp only [hoi] at h4
      cases hd : oi.dst with
      | none =>
        simp only [hd] at h4
        refine ⟨fun j => if j = i then v else vals j, ?_, ?_⟩
        · have hne : ∀ e ∈ D, e.1 ≠ i := fun e he => by have := List.all_eq_true.1 h4 e he; simpa using this
          rw [ha, putSel_none (i := i) (by
            unfold ent
            rw [List.all_map]
            exact h4)]
          congr 1
          exact ent_congr fun e he => by rw [if_neg (hne e he)]
        · intro j hj hbj
          by_cases hji : j = i
          · subst hji; simp only [if_true]; exact hrv
          · simp only [if_neg hji]
            rw [up_ne hji] at hbj
            exact hst j _ _ _ (hrel j hj hbj) hbw
      | some t =>
        simp only [hd] at h4
        have hmem := List.contains_iff_mem.1 h4
        obtain ⟨L1, L2, hL⟩ := split_at hmem
        refine ⟨fun j => if j = i then v else vals j, ?_, ?_⟩
        · have hn2 : ∀ e ∈ L1 ++ L2, e.2 ≠ t := by
            intro e he h
            rw [hL, List.map_append, List.map_cons, List.nodup_append] at hD2
            obtain ⟨_, h6, h7⟩ := hD2
            rw [List.nodup_cons] at h6
            rcases List.mem_append.1 he with h8 | h8
            · exact h7 _ (List.mem_map.2 ⟨e, h8, rfl⟩) t List.mem_cons_self (by rw [h])
            · exact h6.1 (List.mem_map.2 ⟨e, h8, h⟩)
          have hn1 : ∀ e ∈ L1 ++ L2, e.1 ≠ i := by
            intro e he h
            rw [hL, List.map_append, List.map_cons, List.nodup_append] at hD3
            obtain ⟨_, h6, h7⟩ := hD3
            rw [List.nodup_cons] at h6
            rcases List.mem_append.1 he with h8 | h8
            · exact h7 _ (List.mem_map.2 ⟨e, h8, rfl⟩) i List.mem_cons_self (by rw [h])
            · exact h6.1 (List.mem_map.2 ⟨e, h8, h⟩)
          rw [ha, hL, ent_append, ent_append]
          show (putSel a0 b (ent vals L1 ++ (i, t, vals i) :: ent vals L2)).put (some t) v = _
          rw [putSel_up (v := v) hbi (by
            rw [← ent_append]
            unfold ent
            rw [List.all_map, List.all_eq_true]
            intro e he
            simp only [Function.comp, Bool.and_eq_true, Bool.not_eq_true', beq_eq_false_iff_ne, ne_eq]
            exact ⟨hn1 e he, hn2 e he⟩)]
          congr 1
          rw [ent_congr (D := L1) (vals' := fun j => if j = i then v else vals j) fun e he => by rw [if_neg (hn1 e (List.mem_append_left _ he))],
            ent_congr (D := L2) (vals' := fun j => if j = i then v else vals j) fun e he => by rw [if_neg (hn1 e (List.mem_append_right _ he))]]
          unfold ent
          simp only [List.map_cons, if_true]
        · intro j hj hbj
          by_cases hji : j = i
          · subst hji; simp only [if_true]; exact hrv
          · simp only [if_neg hji]
            rw [up_ne hji] at hbj
            exact hst j _ _ _ (hrel j hj hbj) hbw
  · intro b a w hall hI
    obtain ⟨hb, vals, ha, hrel⟩ := hI
    have hm : ∀ e ∈ D, O.contains e.1 = true := fun e he => by
      have h1 := List.all_eq_true.1 hD1 e he
      simp only [Bool.and_eq_true] at h1
      exact h1.2
    rw [ha, fill_eq vals D a0 fun e he => hall e.1 (hm e he)]
    exact hend vals w hb fun e he => hrel e.1 (hm e he) (hall e.1 (hm e he))
/-- What each operation waits for, as bits. -/
def bitsOf (T : List (List Nat × List Nat)) : List Nat := T.foldl (fun B r => B ++ [upM B B.length r.1]) []
/-- THE REGION. -/
theorem rg_ {id : Nat} (O : List Nat) (D : List (Nat × Tmp)) (B : List Nat) (rel : Nat → Value → World → Prop) (hm : P.follows .mixedOrders = true) (hT : rtab .any ops = T) (hw : waitsOk T.2 B = true) (hn : ops.size = n)
    (hk : (baseOk T.2 O && dOk ops O D a0.tmps.size && (lof T.2.length O (fun _ => false) == (Array.replicate n false).toList && O.length == n)) = true)
    (hst : ∀ i v w w', rel i v w → Below w.heap.size w w' → rel i v w')
    (hs : ∀ i ∈ O, Step P ops Q B D rel a0 w0 i)
    (hend : ∀ (vals : Nat → Value) (w : World), Below w0.heap.size w0 w → (∀ e ∈ D, rel e.1 (vals e.1) w) → Q .normal (fill a0 vals D) w) :
    (Code.region id ops true).wp P Q a0 w0 := by
  simp only [Bool.and_eq_true] at hk
  obtain ⟨⟨hk1, hk2⟩, hk3⟩ := hk
  refine start_ (n := n) (S := fun _ => True) (ds := []) (Array.replicate n false) hm hn rfl trivial fun _ => ?_
  exact rg_all hT hw O hk1 hk2 hst hs hend (by rw [Bool.and_eq_true]; exact hk3) (below_drew (Below.refl _ _))
/-- The step of an operation that may write what this region has made: nothing but what comes behind it is needed any more. -/
def LStep (P : Program) (ops : Array Oper) (Q : Exit → Act → World → Prop) (B : List Nat) (D : List (Nat × Tmp)) (rel : Nat → Value → World → Prop) (a0 : Act) (w0 : World) (i m : Nat) : Prop :=
  ∀ a w, Below w0.heap.size w0 w → a.tmps.size = a0.tmps.size → a.defers = a0.defers → (∀ t, (D.all fun e => !(e.2 == t)) = true → a.tmps[t]? = a0.tmps[t]?) →
    (∀ j t, D.contains (j, t) = true → (B.getD i 0).testBit j = true → ∃ v, a.tmps[t]? = some v ∧ (i = m ∨ m ≤ j → rel j v w)) →
    ∃ oi, ops[i]? = some oi ∧ ∀ K : Act → World → Prop, (∀ v w1, Below w0.heap.size w0 w1 → (i = m ∨ Below w.heap.size w w1) → rel i v w1 → K (a.put oi.dst v) w1) → if Region.wanted oi (yielded ops a.tmps) = true then Oper.wp P oi a w K Q else K (a.put oi.dst undef) w
/-- m and what comes behind it wait for all else. -/
def lateOk (B : List Nat) (O : List Nat) (m : Nat) : Bool :=
  O.contains m && O.all fun d => decide (d < m) || O.all fun i => (decide (m < i) || (m == i && d == m)) || (B.getD d 0).testBit i
theorem slot_of {b : Nat → Bool} {vals : Nat → Value} {j : Nat} {t : Tmp} {O : List Nat} (hD1 : (D.all fun e => decide (e.2 < a0.tmps.size) && O.contains e.1) = true) (hD2 : (D.map (·.2)).Nodup) (hjt : (j, t) ∈ D) (hbj : b j = true) :
    (putSel a0 b (ent vals D)).tmps[t]? = some (vals j) := by
  have h1 := List.all_eq_true.1 hD1 (j, t) hjt
  simp only [Bool.and_eq_true, decide_eq_true_eq] at h1
  obtain ⟨k, hk1, hk2⟩ := List.getElem_of_mem hjt
  refine putSel_on (e := (j, t, vals j)) k ?_ ?_ hbj ?_
  · unfold ent
    rw [List.getElem?_map, List.getElem?_eq_getElem hk1, hk2]
    rfl
  · unfold ent
    rw [← List.map_drop, List.all_map, List.all_eq_true]
    intro x hx
    have hnd := hD2
    rw [← List.take_append_drop (k + 1) D, List.map_append, List.nodup_append] at hnd
    have h2 := hnd.2.2
    have hmem : (j, t) ∈ D.take (k + 1) := by
      rw [List.mem_take_iff_getElem]
      exact ⟨k, by omega, hk2⟩
    have h3 := h2 t (List.mem_map.2 ⟨_, hmem, rfl⟩) x.2 (List.mem_map.2 ⟨_, hx, rfl⟩)
    simp only [Function.comp, Bool.not_eq_true', beq_eq_false_iff_ne, ne_eq]
    exact fun h => h3 h.symm
  · rw [Nat.ble_eq]; exact h1.1
theorem put_of {b : Nat → Bool} {vals : Nat → Value} {i : Nat} {O : List Nat} {oi : Oper} {v : Value} (hD2 : (D.map (·.2)).Nodup) (hD3 : (D.map (·.1)).Nodup) (hoi : ops[i]? = some oi) (hi : i ∈ O) (hbi : b i = false)
    (hD4 : (O.all fun i => match ops[i]? with
    | some o => match o.dst with
      | some t => D.contains (i, t)
      | none => D.all fun e => !(e.1 == i)
    | none => false) = true) :
    (putSel a0 b (ent vals D)).put oi.dst v = putSel a0 (up b i) (ent (fun j => if j = i then v else vals j) D) := by
  have h4 := List.all_eq_true.1 hD4 i hi
  simp only [hoi] at h4
  cases hd : oi.dst with
  | none =>
    simp only [hd] at h4
    have hne : ∀ e ∈ D, e.1 ≠ i := fun e he => by have := List.all_eq_true.1 h4 e he; simpa using this
    rw [putSel_none (i := i) (by
      unfold ent
      rw [List.all_map]
      exact h4)]
    congr 1
    exact ent_congr fun e he => by rw [if_neg (hne e he)]
  | some t =>
    simp only [hd] at h4
    have hmem := List.contains_iff_mem.1 h4
    obtain ⟨L1, L2, hL⟩ := split_at hmem
    have hn2 : ∀ e ∈ L1 ++ L2, e.2 ≠ t := by
      intro e he h
      rw [hL, List.map_append, List.map_cons, List.nodup_append] at hD2
      obtain ⟨_, h6, h7⟩ := hD2
      rw [List.nodup_cons] at h6
      rcases List.mem_append.1 he with h8 | h8
      · exact h7 _ (List.mem_map.2 ⟨e, h8, rfl⟩) t List.mem_cons_self (by rw [h])
      · exact h6.1 (List.mem_map.2 ⟨e, h8, h⟩)
    have hn1 : ∀ e ∈ L1 ++ L2, e.1 ≠ i := by
      intro e he h
      rw [hL, List.map_append, List.map_cons, List.nodup_append] at hD3
      obtain ⟨_, h6, h7⟩ := hD3
      rw [List.nodup_cons] at h6
      rcases List.mem_append.1 he with h8 | h8
      · exact h7 _ (List.mem_map.2 ⟨e, h8, rfl⟩) i List.mem_cons_self (by rw [h])
      · exact h6.1 (List.mem_map.2 ⟨e, h8, h⟩)
    rw [hL, ent_append, ent_append]
    show (putSel a0 b (ent vals L1 ++ (i, t, vals i) :: ent vals L2)).put (some t) v = _
    rw [putSel_up (v := v) hbi (by
      rw [← ent_append]
      unfold ent
      rw [List.all_map, List.all_eq_true]
      intro e he
      simp only [Function.comp, Bool.and_eq_true, Bool.not_eq_true', beq_eq_false_iff_ne, ne_eq]
      exact ⟨hn1 e he, hn2 e he⟩)]
    congr 1
    rw [ent_congr (D := L1) (vals' := fun j => if j = i then v else vals j) fun e he => by rw [if_neg (hn1 e (List.mem_append_left _ he))],
      ent_congr (D := L2) (vals' := fun j => if j = i then v else vals j) fun e he => by rw [if_neg (hn1 e (List.mem_append_right _ he))]]
    unfold ent
    simp only [List.map_cons, if_true]
/-- THE REGION, with an operation m that may write what the region has made. -/
theorem rg2_ {id : Nat} (m : Nat) (O : List Nat) (D : List (Nat × Tmp)) (B : List Nat) (rel : Nat → Value → World → Prop) (hm : P.follows .mixedOrders = true) (hT : rtab .any ops = T) (hw : waitsOk T.2 B = true) (hn : ops.size = n)
    (hk : (baseOk T.2 O && dOk ops O D a0.tmps.size && (lof T.2.length O (fun _ => false) == (Array.replicate n false).toList && O.length == n) && lateOk B O m) = true)
    (hst : ∀ i v w w', rel i v w → Below w.heap.size w w' → rel i v w')
    (hs : ∀ i ∈ O, if i < m then Step P ops Q B D rel a0 w0 i else LStep P ops Q B D rel a0 w0 i m)
    (hend : ∀ (vals : Nat → Value) (w : World), Below w0.heap.size w0 w → (∀ e ∈ D, m ≤ e.1 → rel e.1 (vals e.1) w) → Q .normal (fill a0 vals D) w) :
    (Code.region id ops true).wp P Q a0 w0 := by
  simp only [Bool.and_eq_true] at hk
  obtain ⟨⟨⟨hk1, hk2⟩, hk3⟩, hk4⟩ := hk
  refine start_ (n := n) (S := fun _ => True) (ds := []) (Array.replicate n false) hm hn rfl trivial fun _ => ?_
  have hb0 : Below w0.heap.size w0 w0.drew := below_drew (Below.refl _ _)
  revert hb0
  generalize w0.drew = w
  intro hb0
  simp only [dOk, Bool.and_eq_true] at hk2
  obtain ⟨⟨⟨hD1, hD2⟩, hD3⟩, hD4⟩ := hk2
  have hD2 := of_decide_eq_true hD2
  have hD3 := of_decide_eq_true hD3
  simp only [lateOk, Bool.and_eq_true] at hk4
  obtain ⟨hmO, hlate⟩ := hk4
  have hwait : ∀ d, O.contains d = true → m ≤ d → ∀ i, O.contains i = true → i < m → (B.getD d 0).testBit i = true := by
    intro d hd hmd i hi him
    have h1 := List.all_eq_true.1 hlate d (List.contains_iff_mem.1 hd)
    rw [Bool.or_eq_true] at h1
    rcases h1 with h1 | h1
    · simp only [decide_eq_true_eq] at h1; omega
    · have h2 := List.all_eq_true.1 h1 i (List.contains_iff_mem.1 hi)
      simp only [Bool.or_eq_true, Bool.and_eq_true, decide_eq_true_eq, beq_iff_eq] at h2
      rcases h2 with (h2 | h2) | h2
      · omega
      · omega
      · exact h2
  have hwaitm : ∀ d, O.contains d = true → m < d → (B.getD d 0).testBit m = true := by
    intro d hd hmd
    have h1 := List.all_eq_true.1 hlate d (List.contains_iff_mem.1 hd)
    rw [Bool.or_eq_true] at h1
    rcases h1 with h1 | h1
    · simp only [decide_eq_true_eq] at h1; omega
    · have h2 := List.all_eq_true.1 h1 m (List.contains_iff_mem.1 hmO)
      simp only [Bool.or_eq_true, Bool.and_eq_true, decide_eq_true_eq, beq_iff_eq] at h2
      rcases h2 with (h2 | h2) | h2
      · omega
      · omega
      · exact h2
  refine inv_ O (fun b a w => Below w0.heap.size w0 w ∧ ∃ vals : Nat → Value, a = putSel a0 b (ent vals D) ∧ (∀ i, O.contains i = true → b i = true → (m ≤ i ∨ b m = false) → rel i (vals i) w)) hT hw hk1 (by rw [Bool.and_eq_true]; exact hk3) ?_ ?_ ?_
  · refine ⟨hb0, fun _ => undef, ?_, fun i _ h => by cases h⟩
    have : ∀ (D : List (Nat × Tmp)) (a : Act), a = putSel a (fun _ => false) (ent (fun _ => undef) D) := by
      intro D
      induction D with
      | nil => intro a; rfl
      | cons e r ih => intro a; exact ih a
    exact this D a0
  · intro i hi b a w hI hbi hneed hafter
    obtain ⟨hb, vals, ha, hrel⟩ := hI
    have hsz := putSel_size b (ent vals D) a0
    rw [← ha] at hsz
    have hiO : O.contains i = true := List.contains_iff_mem.2 hi
    have hoff : ∀ t, (D.all fun e => !(e.2 == t)) = true → a.tmps[t]? = a0.tmps[t]? := fun t ht => by
      rw [ha]
      refine putSel_off ?_
      unfold ent
      rw [List.all_map]
      exact ht
    have hmem1 : ∀ j t, D.contains (j, t) = true → O.contains j = true := fun j t hjt => by
      have h1 := List.all_eq_true.1 hD1 (j, t) (List.contains_iff_mem.1 hjt)
      simp only [Bool.and_eq_true] at h1
      exact h1.2
    have hsi := hs i hi
    by_cases him : i < m
    · rw [if_pos him] at hsi
      have hbm : b m = false := hafter m (by rw [Bool.and_eq_true]; exact ⟨hmO, hwait m hmO (Nat.le_refl _) i hiO him⟩)
      obtain ⟨oi, hoi, hstep⟩ := hsi a w hb hsz.1 hsz.2 hoff (fun j t hjt hbit => by
        have hbj := hneed j (by rw [Bool.and_eq_true]; exact ⟨hmem1 j t hjt, hbit⟩)
        refine ⟨vals j, ?_, hrel j (hmem1 j t hjt) hbj (.inr hbm)⟩
        rw [ha]
        exact slot_of hD1 hD2 (List.contains_iff_mem.1 hjt) hbj)
      refine ⟨oi, hoi, fun K hK => hstep K fun v w1 hbw hrv => hK _ _ ⟨below_step hb hbw, fun j => if j = i then v else vals j, ?_, ?_⟩⟩
      · rw [ha]; exact put_of hD2 hD3 hoi hi hbi hD4
      · intro j hj hbj _
        by_cases hji : j = i
        · subst hji; simp only [if_true]; exact hrv
        · simp only [if_neg hji]
          rw [up_ne hji] at hbj
          exact hst j _ _ _ (hrel j hj hbj (.inr hbm)) hbw
    · rw [if_neg him] at hsi
      obtain ⟨oi, hoi, hstep⟩ := hsi a w hb hsz.1 hsz.2 hoff (fun j t hjt hbit => by
        have hbj := hneed j (by rw [Bool.and_eq_true]; exact ⟨hmem1 j t hjt, hbit⟩)
        refine ⟨vals j, ?_, fun hor => hrel j (hmem1 j t hjt) hbj ?_⟩
        · rw [ha]
          exact slot_of hD1 hD2 (List.contains_iff_mem.1 hjt) hbj
        · rcases hor with h | h
          · subst h; exact .inr hbi
          · exact .inl h)
      refine ⟨oi, hoi, fun K hK => hstep K fun v w1 hbw hbw2 hrv => hK _ _ ⟨hbw, fun j => if j = i then v else vals j, ?_, ?_⟩⟩
      · rw [ha]; exact put_of hD2 hD3 hoi hi hbi hD4
      · intro j hj hbj hor
        by_cases hji : j = i
        · subst hji; simp only [if_true]; exact hrv
        · simp only [if_neg hji]
          rw [up_ne hji] at hbj
          rcases hor with h | h
          · rcases hbw2 with h2 | h2
            · subst h2
              have h3 := hafter j (by rw [Bool.and_eq_true]; exact ⟨hj, hwaitm j hj (by omega)⟩)
              rw [h3] at hbj
              cases hbj
            · exact hst j _ _ _ (hrel j hj hbj (.inl h)) h2
          · exfalso
            by_cases hme : m = i
            · subst hme; rw [up_self] at h; cases h
            · rw [up_ne hme] at h
              have h3 := hneed m (by rw [Bool.and_eq_true]; exact ⟨hmO, hwaitm i hiO (by omega)⟩)
              rw [h3] at h
              cases h
  · intro b a w hall hI
    obtain ⟨hb, vals, ha, hrel⟩ := hI
    have hm : ∀ e ∈ D, O.contains e.1 = true := fun e he => by
      have h1 := List.all_eq_true.1 hD1 e he
      simp only [Bool.and_eq_true] at h1
      exact h1.2
    rw [ha, fill_eq vals D a0 fun e he => hall e.1 (hm e he)]
    exact hend vals w hb fun e he h => hrel e.1 (hm e he) (hall e.1 (hm e he)) (.inl h)
theorem steps2_nil {m : Nat} : ∀ i ∈ ([] : List Nat), if i < m then Step P ops Q B D rel a0 w0 i else LStep P ops Q B D rel a0 w0 i m := fun _ h => by cases h
theorem steps2_cons {m i : Nat} {rs : List Nat} (hi : i < m) (h : Step P ops Q B D rel a0 w0 i) (hs : ∀ j ∈ rs, if j < m then Step P ops Q B D rel a0 w0 j else LStep P ops Q B D rel a0 w0 j m) : ∀ j ∈ i :: rs, if j < m then Step P ops Q B D rel a0 w0 j else LStep P ops Q B D rel a0 w0 j m := fun j hj => by
  rcases List.mem_cons.1 hj with rfl | hj
  · rw [if_pos hi]; exact h
  · exact hs j hj
theorem steps2_late {m i : Nat} {rs : List Nat} (hi : m ≤ i) (h : LStep P ops Q B D rel a0 w0 i m) (hs : ∀ j ∈ rs, if j < m then Step P ops Q B D rel a0 w0 j else LStep P ops Q B D rel a0 w0 j m) : ∀ j ∈ i :: rs, if j < m then Step P ops Q B D rel a0 w0 j else LStep P ops Q B D rel a0 w0 j m := fun j hj => by
  rcases List.mem_cons.1 hj with rfl | hj
  · rw [if_neg (by omega)]; exact h
  · exact hs j hj
end
end Go.Proofs.Ytkedodmlbepfnaa.Rg

-- from the working text Leaf
set_option linter.unusedSimpArgs false
set_option linter.unusedVariables false
namespace Go.Proofs.Ytkedodmlbepfnaa.Lg
open Go.RowKit Go.Proofs.YtkedodmlbepfnaaW.PrintWords Go.Proofs.YtkedodmlbepfnaaW.PrintLast Go.Proofs.YtkedodmlbepfnaaW.PrintMore Go.Proofs.Ytkedodmlbepfnaa.Rg
theorem add_any (k : Nat) (a0 : Int) (A1 : Option Addr) (n c1 : Nat) (l1 : List Int) (r : Int) (w : World) (hn : n = l1.length) (hr1 : Kd.C (Kd.int .u8) w A1 n l1) (hc1 : n ≤ c1) (h : ledger_hash_add.f k a0 l1 = some r) :
    Calls Try.prog 72 #[.int .u64 a0, .slice A1 n c1] w fun e w' => e = .returned (.int .u64 r) ∧ Drawn0 w w' := by
  subst hn; exact ledger_hash_add.calls k a0 A1 c1 l1 r w hr1 hc1 h
def lfBytes (a b : Int) (n : Int) : List Int := [0, IntKind.u8.wrap a, IntKind.u8.wrap b, IntKind.u8.wrap n, IntKind.u8.wrap (n / 256)]
theorem C_lit5 (W : World) (g : Nat) (hg : g = W.heap.size) (x0 x1 x2 x3 x4 : Int) :
    Kd.C (Kd.int .u8) (W.alloc (.cells #[.int .u8 x0, .int .u8 x1, .int .u8 x2, .int .u8 x3, .int .u8 x4] 5)) (some ⟨g, 0, none⟩) 5 [x0, x1, x2, x3, x4] := by
  subst hg
  obtain ⟨A, c, he, hr⟩ := own_reads (own_lit W 0 5 .u8 [x0, x1, x2, x3, x4] (by omega) (by simp))
  injection he with h1 h2 h3
  subst h1
  exact Kd.C_of_reads (h1 := fun _ => rfl) (readsInt_of.mp hr)
theorem bytes_C (W : World) (g : Nat) (hg : g = W.heap.size) (s : ByteArray) (hs : s.size ≤ 9223372036854775807) : Kd.C (Kd.int .u8) (Lib.bytesWorld W 5 s) (some ⟨g, 0, none⟩) s.size (bytesOf s) := by
  subst hg
  exact Kd.C_of_reads (h1 := fun _ => rfl) (readsInt_of.mp (bytes_reads W 5 s hs))
theorem below_bytes {w W : World} (h : Below w.heap.size w W) (s : ByteArray) : Below w.heap.size w (Lib.bytesWorld W 5 s) := bytes_below h h.size 5 s
def leafRel (g : Nat) (a b : Int) (s : ByteArray) (t r : Int) : Nat → Value → World → Prop
  | 0, v, _ => v = .pointer (some ⟨g, 0, none⟩)
  | 1, v, _ => v = .int .i64 a
  | 2, v, _ => v = .int .u8 (IntKind.u8.wrap a)
  | 3, v, _ => v = .pointer (some ⟨g, 1, none⟩)
  | 4, v, _ => v = .int .i64 b
  | 5, v, _ => v = .int .u8 (IntKind.u8.wrap b)
  | 6, v, _ => v = .int .i64 s.size
  | 7, v, _ => v = .int .u8 (IntKind.u8.wrap s.size)
  | 8, v, _ => v = .int .i64 s.size
  | 9, v, _ => v = .int .i64 (s.size / 256 : Int)
  | 10, v, _ => v = .int .u8 (IntKind.u8.wrap (s.size / 256))
  | 11, v, w => ∃ g', v = .slice (some ⟨g', 0, none⟩) 5 5 ∧ Kd.C (Kd.int .u8) w (some ⟨g', 0, none⟩) 5 (lfBytes a b s.size)
  | 12, v, _ => v = .int .u64 t
  | 13, v, _ => v = .pointer (some ⟨g, 2, none⟩)
  | 14, v, _ => v = .string s
  | 15, v, w => ∃ g' c, v = .slice (some ⟨g', 0, none⟩) s.size c ∧ s.size ≤ c ∧ Kd.C (Kd.int .u8) w (some ⟨g', 0, none⟩) s.size (bytesOf s)
  | 16, v, _ => v = .int .u64 r
  | 17, v, _ => v = .int .u64 r
  | _, _, _ => True
set_option maxHeartbeats 4000000 in
theorem leafRel_stable (g : Nat) (a b : Int) (s : ByteArray) (t r : Int) (i : Nat) (v : Value) (w w' : World) (h : leafRel g a b s t r i v w) (hb : Below w.heap.size w w') : leafRel g a b s t r i v w' := by
  revert h
  unfold leafRel
  split <;> intro h <;> first | exact h | (obtain ⟨g', h1, h2⟩ := h; exact ⟨g', h1, Kd.C_below h2 hb⟩) | (obtain ⟨g', c, h1, h2, h3⟩ := h; exact ⟨g', c, h1, h2, Kd.C_below h3 hb⟩)
set_option maxHeartbeats 4000000 in
set_option maxRecDepth 100000 in
theorem leaf_any (k : Nat) (a b : Int) (s : ByteArray) (t r : Int) (w : World) (hs : s.size ≤ 2400)
    (h1 : ledger_hash_add.f k 14695981039346656037 (lfBytes a b s.size) = some t) (h2 : ledger_hash_add.f k t (bytesOf s) = some r) :
    Calls Try.prog 66 #[.agg #[.int .i64 a, .int .i64 b, .string s]] w fun e w' => e = .returned (.int .u64 r) ∧ Below w.heap.size w w' := by
  have H1 := Aside0.mk h1
  have H2 := Aside0.mk h2
  clear h1 h2
  go_enter Try.func66, Try.ntmps66
  go_wp2
  have k0 := Aside0.mk (show (w.alloc (.cells #[.int .i64 a, .int .i64 b, .string s] 23)).cell? ⟨w.heap.size, 0, none⟩ = some (.int .i64 a) by simp)
  have k1 := Aside0.mk (show (w.alloc (.cells #[.int .i64 a, .int .i64 b, .string s] 23)).cell? ⟨w.heap.size, 1, none⟩ = some (.int .i64 b) by simp)
  have k2 := Aside0.mk (show (w.alloc (.cells #[.int .i64 a, .int .i64 b, .string s] 23)).cell? ⟨w.heap.size, 2, none⟩ = some (.string s) by simp)
  refine rg_ [0, 1, 2, 3, 4, 5, 6, 7, 8, 9, 10, 11, 12, 13, 14, 15, 16, 17] [(0, 7), (1, 8), (2, 9), (3, 10), (4, 11), (5, 12), (6, 13), (7, 14), (8, 15), (9, 16), (10, 17), (11, 18), (12, 19), (13, 20), (14, 21), (15, 22), (16, 23), (17, 2)] (bitsOf (rtab .any (opsOf Try.f66 2)).2) (leafRel w.heap.size a b s t r) (by kernel_rfl) rfl (by kernel_rfl) rfl (by kernel_rfl) ?stab ?steps ?rend
  case steps =>
    refine steps_cons (fun a1 w1 hB hsz hdf hn hd => ⟨_, rfl, fun K hK => ?_⟩) ?_
    · have e1 := eval_of ((hn 1 rfl).trans rfl)
      refine value_ (v := .pointer (some ⟨w.heap.size, 0, none⟩)) (w1 := w1) rfl rfl ?_ (hK _ _ (Below.refl _ _) rfl)
      clear hd hn hK
      simp only [execOp, List.map_toArray, List.map_cons, List.map_nil, List.getElem_toArray, List.getElem_cons_zero, List.getElem_cons_succ, e1]
      clear e1
      go_simp
    refine steps_cons (fun a1 w1 hB hsz hdf hn hd => ⟨_, rfl, fun K hK => ?_⟩) ?_
    · obtain ⟨v7, h7, rfl⟩ := hd 0 7 rfl (by kernel_rfl)
      have e7 := eval_of h7
      clear h7
      have c1 : w1.cell? ⟨w.heap.size, 0, none⟩ = some (.int .i64 a) := (hB.cell (by simp)).trans k0.out
      clear hB
      refine value_ (v := .int .i64 a) (w1 := w1) rfl rfl ?_ (hK _ _ (Below.refl _ _) rfl)
      clear hd hn hK
      simp only [execOp, List.map_toArray, List.map_cons, List.map_nil, List.getElem_toArray, List.getElem_cons_zero, List.getElem_cons_succ, e7]
      clear e7
      go_simp
    refine steps_cons (fun a1 w1 hB hsz hdf hn hd => ⟨_, rfl, fun K hK => ?_⟩) ?_
    · obtain ⟨v8, h8, rfl⟩ := hd 1 8 rfl (by kernel_rfl)
      have e8 := eval_of h8
      clear h8
      refine value_ (v := .int .u8 (IntKind.u8.wrap a)) (w1 := w1) rfl rfl ?_ (hK _ _ (Below.refl _ _) rfl)
      clear hd hn hK
      simp only [execOp, List.map_toArray, List.map_cons, List.map_nil, List.getElem_toArray, List.getElem_cons_zero, List.getElem_cons_succ, e8]
      clear e8
      go_simp
    refine steps_cons (fun a1 w1 hB hsz hdf hn hd => ⟨_, rfl, fun K hK => ?_⟩) ?_
    · have e1 := eval_of ((hn 1 rfl).trans rfl)
      refine value_ (v := .pointer (some ⟨w.heap.size, 1, none⟩)) (w1 := w1) rfl rfl ?_ (hK _ _ (Below.refl _ _) rfl)
      clear hd hn hK
      simp only [execOp, List.map_toArray, List.map_cons, List.map_nil, List.getElem_toArray, List.getElem_cons_zero, List.getElem_cons_succ, e1]
      clear e1
      go_simp
    refine steps_cons (fun a1 w1 hB hsz hdf hn hd => ⟨_, rfl, fun K hK => ?_⟩) ?_
    · obtain ⟨v10, h10, rfl⟩ := hd 3 10 rfl (by kernel_rfl)
      have e10 := eval_of h10
      clear h10
      have c1 : w1.cell? ⟨w.heap.size, 1, none⟩ = some (.int .i64 b) := (hB.cell (by simp)).trans k1.out
      clear hB
      refine value_ (v := .int .i64 b) (w1 := w1) rfl rfl ?_ (hK _ _ (Below.refl _ _) rfl)
      clear hd hn hK
      simp only [execOp, List.map_toArray, List.map_cons, List.map_nil, List.getElem_toArray, List.getElem_cons_zero, List.getElem_cons_succ, e10]
      clear e10
      go_simp
    refine steps_cons (fun a1 w1 hB hsz hdf hn hd => ⟨_, rfl, fun K hK => ?_⟩) ?_
    · obtain ⟨v11, h11, rfl⟩ := hd 4 11 rfl (by kernel_rfl)
      have e11 := eval_of h11
      clear h11
      refine value_ (v := .int .u8 (IntKind.u8.wrap b)) (w1 := w1) rfl rfl ?_ (hK _ _ (Below.refl _ _) rfl)
      clear hd hn hK
      simp only [execOp, List.map_toArray, List.map_cons, List.map_nil, List.getElem_toArray, List.getElem_cons_zero, List.getElem_cons_succ, e11]
      clear e11
      go_simp
    refine steps_cons (fun a1 w1 hB hsz hdf hn hd => ⟨_, rfl, fun K hK => ?_⟩) ?_
    · have e3 := eval_of ((hn 3 rfl).trans rfl)
      refine value_ (v := .int .i64 s.size) (w1 := w1) rfl rfl ?_ (hK _ _ (Below.refl _ _) rfl)
      clear hd hn hK
      simp only [execOp, List.map_toArray, List.map_cons, List.map_nil, List.getElem_toArray, List.getElem_cons_zero, List.getElem_cons_succ, e3]
      clear e3
      go_simp
    refine steps_cons (fun a1 w1 hB hsz hdf hn hd => ⟨_, rfl, fun K hK => ?_⟩) ?_
    · obtain ⟨v13, h13, rfl⟩ := hd 6 13 rfl (by kernel_rfl)
      have e13 := eval_of h13
      clear h13
      refine value_ (v := .int .u8 (IntKind.u8.wrap s.size)) (w1 := w1) rfl rfl ?_ (hK _ _ (Below.refl _ _) rfl)
      clear hd hn hK
      simp only [execOp, List.map_toArray, List.map_cons, List.map_nil, List.getElem_toArray, List.getElem_cons_zero, List.getElem_cons_succ, e13]
      clear e13
      go_simp
    refine steps_cons (fun a1 w1 hB hsz hdf hn hd => ⟨_, rfl, fun K hK => ?_⟩) ?_
    · have e3 := eval_of ((hn 3 rfl).trans rfl)
      refine value_ (v := .int .i64 s.size) (w1 := w1) rfl rfl ?_ (hK _ _ (Below.refl _ _) rfl)
      clear hd hn hK
      simp only [execOp, List.map_toArray, List.map_cons, List.map_nil, List.getElem_toArray, List.getElem_cons_zero, List.getElem_cons_succ, e3]
      clear e3
      go_simp
    refine steps_cons (fun a1 w1 hB hsz hdf hn hd => ⟨_, rfl, fun K hK => ?_⟩) ?_
    · obtain ⟨v15, h15, rfl⟩ := hd 8 15 rfl (by kernel_rfl)
      have e15 := eval_of h15
      clear h15
      refine value_ (v := .int .i64 (s.size / 256 : Int)) (w1 := w1) rfl rfl ?_ (hK _ _ (Below.refl _ _) rfl)
      clear hd hn hK
      simp only [execOp, List.map_toArray, List.map_cons, List.map_nil, List.getElem_toArray, List.getElem_cons_zero, List.getElem_cons_succ, e15]
      clear e15
      go_simp
    refine steps_cons (fun a1 w1 hB hsz hdf hn hd => ⟨_, rfl, fun K hK => ?_⟩) ?_
    · obtain ⟨v16, h16, rfl⟩ := hd 9 16 rfl (by kernel_rfl)
      have e16 := eval_of h16
      clear h16
      refine value_ (v := .int .u8 (IntKind.u8.wrap (s.size / 256))) (w1 := w1) rfl rfl ?_ (hK _ _ (Below.refl _ _) rfl)
      clear hd hn hK
      simp only [execOp, List.map_toArray, List.map_cons, List.map_nil, List.getElem_toArray, List.getElem_cons_zero, List.getElem_cons_succ, e16]
      clear e16
      go_simp
    refine steps_cons (fun a1 w1 hB hsz hdf hn hd => ⟨_, rfl, fun K hK => ?_⟩) ?_
    · obtain ⟨v9, h9, rfl⟩ := hd 2 9 rfl (by kernel_rfl)
      have e9 := eval_of h9
      clear h9
      obtain ⟨v12, h12, rfl⟩ := hd 5 12 rfl (by kernel_rfl)
      have e12 := eval_of h12
      clear h12
      obtain ⟨v14, h14, rfl⟩ := hd 7 14 rfl (by kernel_rfl)
      have e14 := eval_of h14
      clear h14
      obtain ⟨v17, h17, rfl⟩ := hd 10 17 rfl (by kernel_rfl)
      have e17 := eval_of h17
      clear h17
      refine value_ (v := .slice (some ⟨w1.heap.size, 0, none⟩) 5 5) (w1 := w1.alloc (.cells #[.int .u8 0, .int .u8 (IntKind.u8.wrap a), .int .u8 (IntKind.u8.wrap b), .int .u8 (IntKind.u8.wrap s.size), .int .u8 (IntKind.u8.wrap (s.size / 256))] 5)) rfl rfl ?_ (hK _ _ (below_alloc (Below.refl _ _) _) ⟨_, rfl, C_lit5 _ _ rfl _ _ _ _ _⟩)
      clear hd hn hK
      simp only [execOp, List.map_toArray, List.map_cons, List.map_nil, List.getElem_toArray, List.getElem_cons_zero, List.getElem_cons_succ, e9, e12, e14, e17]
      clear e9 e12 e14 e17
      go_simp
    refine steps_cons (fun a1 w1 hB hsz hdf hn hd => ⟨_, rfl, fun K hK => ?_⟩) ?_
    · obtain ⟨v18, h18, ⟨g', rfl, hC⟩⟩ := hd 11 18 rfl (by kernel_rfl)
      have e18 := eval_of h18
      clear h18
      refine goes_ Try.func72 (by kernel_rfl) rfl #[.int .u64 14695981039346656037, .slice (some ⟨g', 0, none⟩) 5 5] (by rfl) rfl rfl (by simp only [List.map_toArray, List.map_cons, List.map_nil, e18]; rfl) ?_
      refine (add_any k 14695981039346656037 _ 5 5 (lfBytes a b s.size) t _ rfl hC (Nat.le_refl _) H1.out).mono ?_
      rintro e w2 ⟨rfl, hdr⟩
      exact ⟨_, rfl, hK _ _ hdr.below rfl⟩
    refine steps_cons (fun a1 w1 hB hsz hdf hn hd => ⟨_, rfl, fun K hK => ?_⟩) ?_
    · have e1 := eval_of ((hn 1 rfl).trans rfl)
      refine value_ (v := .pointer (some ⟨w.heap.size, 2, none⟩)) (w1 := w1) rfl rfl ?_ (hK _ _ (Below.refl _ _) rfl)
      clear hd hn hK
      simp only [execOp, List.map_toArray, List.map_cons, List.map_nil, List.getElem_toArray, List.getElem_cons_zero, List.getElem_cons_succ, e1]
      clear e1
      go_simp
    refine steps_cons (fun a1 w1 hB hsz hdf hn hd => ⟨_, rfl, fun K hK => ?_⟩) ?_
    · obtain ⟨v20, h20, rfl⟩ := hd 13 20 rfl (by kernel_rfl)
      have e20 := eval_of h20
      clear h20
      have c1 : w1.cell? ⟨w.heap.size, 2, none⟩ = some (.string s) := (hB.cell (by simp)).trans k2.out
      clear hB
      refine value_ (v := .string s) (w1 := w1) rfl rfl ?_ (hK _ _ (Below.refl _ _) rfl)
      clear hd hn hK
      simp only [execOp, List.map_toArray, List.map_cons, List.map_nil, List.getElem_toArray, List.getElem_cons_zero, List.getElem_cons_succ, e20]
      clear e20
      go_simp
    refine steps_cons (fun a1 w1 hB hsz hdf hn hd => ⟨_, rfl, fun K hK => ?_⟩) ?_
    · obtain ⟨v21, h21, rfl⟩ := hd 14 21 rfl (by kernel_rfl)
      have e21 := eval_of h21
      clear h21
      refine value_ (v := .slice (some ⟨w1.heap.size, 0, none⟩) s.size (grownCap w1 s.size 0 5)) (w1 := Lib.bytesWorld w1 5 s) rfl rfl ?_ (hK _ _ (below_bytes (Below.refl _ _) s) ⟨_, _, rfl, grownCap_ge _ _ _ _, bytes_C _ _ rfl s (by omega)⟩)
      clear hd hn hK
      simp only [execOp, List.map_toArray, List.map_cons, List.map_nil, List.getElem_toArray, List.getElem_cons_zero, List.getElem_cons_succ, e21]
      clear e21
      rw [Sem.run_bind, print_bytes (P := Try.prog) 9 88 5 Try.underlying9 Try.underlying88 Try.underlying5 s w1]
      rfl
    refine steps_cons (fun a1 w1 hB hsz hdf hn hd => ⟨_, rfl, fun K hK => ?_⟩) ?_
    · obtain ⟨v19, h19, rfl⟩ := hd 12 19 rfl (by kernel_rfl)
      have e19 := eval_of h19
      clear h19
      obtain ⟨v22, h22, ⟨g', c', rfl, hcc, hC⟩⟩ := hd 15 22 rfl (by kernel_rfl)
      have e22 := eval_of h22
      clear h22
      refine goes_ Try.func72 (by kernel_rfl) rfl #[.int .u64 t, .slice (some ⟨g', 0, none⟩) s.size c'] (by rfl) rfl rfl (by simp only [List.map_toArray, List.map_cons, List.map_nil, e19, e22]) ?_
      refine (add_any k t _ _ _ (bytesOf s) r _ (bytesOf_length s).symm hC hcc H2.out).mono ?_
      rintro e w2 ⟨rfl, hdr⟩
      exact ⟨_, rfl, hK _ _ hdr.below rfl⟩
    refine steps_cons (fun a1 w1 hB hsz hdf hn hd => ⟨_, rfl, fun K hK => ?_⟩) ?_
    · obtain ⟨v23, h23, rfl⟩ := hd 16 23 rfl (by kernel_rfl)
      have e23 := eval_of h23
      clear h23
      refine value_ (v := .int .u64 r) (w1 := w1) rfl rfl ?_ (hK _ _ (Below.refl _ _) rfl)
      clear hd hn hK
      simp only [execOp, List.map_toArray, List.map_cons, List.map_nil, List.getElem_toArray, List.getElem_cons_zero, List.getElem_cons_succ, e23]
      clear e23
      go_simp
    exact steps_nil
  case stab => exact fun i v w w' => leafRel_stable _ _ _ _ _ _ i v w w'
  case rend =>
    intro vals w1 hB hr
    have h17 := hr (17, 2) (by simp)
    simp only [fill, Act.put, List.setIfInBounds_toArray, List.set_cons_zero, List.set_cons_succ]
    have h17' : vals 17 = .int .u64 r := h17
    clear h17 hr
    rw [h17']
    clear h17'
    go_wp2
    go_ret
    exact ⟨rfl, ((Below.refl _ _).alloc (Nat.le_refl _) _).trans (hB.mono (by simp))⟩
end Go.Proofs.Ytkedodmlbepfnaa.Lg

-- from the working text Sp
set_option linter.unusedSimpArgs false
set_option linter.unusedVariables false
namespace Go.Proofs.Ytkedodmlbepfnaa.Lg
open Go.RowKit Go.Proofs.YtkedodmlbepfnaaW.PrintWords Go.Proofs.YtkedodmlbepfnaaW.PrintLast Go.Proofs.YtkedodmlbepfnaaW.PrintMore Go.Proofs.Ytkedodmlbepfnaa.Rg
def E0 : Int := 14695981039346656037
def hs (h b : Int) : Int := IntKind.u64.wrap ((Go.bits .xor .u64 h (IntKind.u64.wrap b)) * 1099511628211)
def hl (h : Int) (l : List Int) : Int := l.foldl hs h
theorem w64_succ {x : Int} {n : Nat} (h0 : 0 ≤ x) (h : x < n) (hn : n ≤ 9223372036854775807) : wrap64 (x + 1) = x + 1 := by unfold wrap64; omega
theorem rd_get {l : List Int} {j : Nat} (h : j < l.length) : rd l j = l[j] := by simp [rd, List.getD_eq_getElem?_getD, h]
theorem add_l0 (l : List Int) (hn : l.length ≤ 9223372036854775807) : ∀ (d : Nat) (h : Int) (j k : Nat), l.length - j = d → j ≤ l.length → d < k → ledger_hash_add.l0 k h l (l.length : Int) (j : Int) = some (hl h (l.drop j))
  | 0, h, j, k, hd, hj, hk => by
    obtain ⟨k, rfl⟩ : ∃ m, k = m + 1 := ⟨k - 1, by omega⟩
    simp only [ledger_hash_add.l0]
    rw [if_neg (by omega), List.drop_of_length_le (by omega)]
    rfl
  | d + 1, h, j, k, hd, hj, hk => by
    obtain ⟨k, rfl⟩ : ∃ m, k = m + 1 := ⟨k - 1, by omega⟩
    simp only [ledger_hash_add.l0]
    have hlt : j < l.length := by omega
    rw [if_pos (by omega), if_pos (by omega), if_pos (by omega), w64_succ (by omega) (show (j : Int) < l.length by omega) hn, rd_get hlt]
    have := add_l0 l hn d (hs h l[j]) (j + 1) k (by omega) (by omega) (by omega)
    rw [List.drop_eq_getElem_cons hlt]
    exact this
theorem add_eq (k : Nat) (h : Int) (l : List Int) (hk : l.length < k) (hn : l.length ≤ 9223372036854775807) : ledger_hash_add.f k h l = some (hl h l) := by
  unfold ledger_hash_add.f
  have := add_l0 l hn l.length h 0 k (by omega) (by omega) hk
  simpa using this
/-- The bytes of a number, the lowest first. -/
def numB : Nat → Int → List Int
  | 0, _ => []
  | m + 1, n => n % 256 :: numB m (n / 256)
theorem number_l0 : ∀ (d : Nat) (h n : Int) (j k : Nat), 8 - j = d → j ≤ 8 → d + 2 < k → ledger_hash_number.l0 k h n (j : Int) = some (hl h (numB d n))
  | 0, h, n, j, k, hd, hj, hk => by
    obtain ⟨k, rfl⟩ : ∃ m, k = m + 1 := ⟨k - 1, by omega⟩
    simp only [ledger_hash_number.l0]
    rw [if_neg (by omega)]
    rfl
  | d + 1, h, n, j, k, hd, hj, hk => by
    obtain ⟨k, rfl⟩ : ∃ m, k = m + 1 := ⟨k - 1, by omega⟩
    simp only [ledger_hash_number.l0]
    rw [if_pos (by omega), add_eq k h _ (by simp; omega) (by simp)]
    simp only [Option.bind_some]
    rw [w64_succ (by omega) (show (j : Int) < (8 : Nat) by omega) (by omega)]
    exact number_l0 d _ (n / 256) (j + 1) k (by omega) (by omega) (by omega)
theorem number_eq (k : Nat) (h n : Int) (hk : 10 < k) : ledger_hash_number.f k h n = some (hl h (numB 8 n)) := number_l0 8 h n 0 k rfl (by omega) (by omega)
def nodeB (a b : Int) : List Int := 1 :: (numB 8 a ++ numB 8 b)
def nodeS (a b : Int) : Int := hl E0 (nodeB a b)
theorem hl_append (h : Int) (l m : List Int) : hl h (l ++ m) = hl (hl h l) m := List.foldl_append
theorem node_parts (a b : Int) : nodeS a b = hl (hl (hl 14695981039346656037 [1]) (numB 8 a)) (numB 8 b) := by
  unfold nodeS nodeB
  rw [show (1 : Int) :: (numB 8 a ++ numB 8 b) = ([1] ++ numB 8 a) ++ numB 8 b from by rw [List.append_assoc]; rfl, hl_append, hl_append]
  unfold E0
  with_reducible rfl
theorem node_eq (a b : Int) : ledger_Node.f 11 a b = some (nodeS a b) := by
  unfold ledger_Node.f
  refine Option.bind_eq_some_iff.2 ⟨_, add_eq 11 _ _ (by simp) (by simp), Option.bind_eq_some_iff.2 ⟨_, number_eq 11 _ _ (by omega), Option.bind_eq_some_iff.2 ⟨_, number_eq 11 _ _ (by omega), ?_⟩⟩⟩
  exact congrArg some (node_parts a b).symm
theorem node_any (a b : Int) (w : World) : Calls Try.prog 18 #[.int .u64 a, .int .u64 b] w fun e w' => e = .returned (.int .u64 (nodeS a b)) ∧ Below w.heap.size w w' :=
  ledger_Node.calls 11 a b _ w (node_eq a b)
/-- The greatest power of 2 below n. -/
def splitS (n : Nat) : Nat := 2 ^ (n - 1).log2
theorem split_lt {n : Nat} (h : 2 ≤ n) : splitS n < n := by
  have := Nat.log2_self_le (show n - 1 ≠ 0 by omega)
  unfold splitS
  omega
theorem split_pos (n : Nat) : 1 ≤ splitS n := Nat.one_le_two_pow
theorem split_le {n : Nat} (h : 2 ≤ n) : n ≤ 2 * splitS n := by
  have := Nat.lt_log2_self (n := n - 1)
  unfold splitS
  rw [Nat.pow_succ] at this
  omega
def splitChk (c : Nat) : Bool := (List.range 64).all fun n => ledger_split.f 5 ((n + 64 * c + 2 : Nat) : Int) == some (splitS (n + 64 * c + 2) : Int)
theorem splitChk0 : splitChk 0 = true := by decide +kernel
theorem splitChk1 : splitChk 1 = true := by decide +kernel
theorem splitChk2 : splitChk 2 = true := by decide +kernel
theorem splitChk3 : splitChk 3 = true := by decide +kernel
theorem splitChk4 : splitChk 4 = true := by decide +kernel
theorem splitChk5 : splitChk 5 = true := by decide +kernel
theorem splitChk6 : splitChk 6 = true := by decide +kernel
theorem splitChk7 : splitChk 7 = true := by decide +kernel
theorem split_eq (n : Nat) (h : 2 ≤ n) (h' : n ≤ 512) : ledger_split.f 5 (n : Int) = some (splitS n : Int) := by
  have key : ∀ c, splitChk c = true → 64 * c + 2 ≤ n → n < 64 * c + 66 → ledger_split.f 5 (n : Int) = some (splitS n : Int) := by
    intro c hc h1 h2
    have := List.all_eq_true.1 hc (n - (64 * c + 2)) (List.mem_range.2 (by omega))
    rw [beq_iff_eq, show n - (64 * c + 2) + 64 * c + 2 = n by omega] at this
    exact this
  by_cases c0 : n < 66
  · exact key 0 splitChk0 (by omega) (by omega)
  by_cases c1 : n < 130
  · exact key 1 splitChk1 (by omega) (by omega)
  by_cases c2 : n < 194
  · exact key 2 splitChk2 (by omega) (by omega)
  by_cases c3 : n < 258
  · exact key 3 splitChk3 (by omega) (by omega)
  by_cases c4 : n < 322
  · exact key 4 splitChk4 (by omega) (by omega)
  by_cases c5 : n < 386
  · exact key 5 splitChk5 (by omega) (by omega)
  by_cases c6 : n < 450
  · exact key 6 splitChk6 (by omega) (by omega)
  · exact key 7 splitChk7 (by omega) (by omega)
theorem split_any (n : Nat) (h : 2 ≤ n) (h' : n ≤ 512) (w : World) : Calls Try.prog 117 #[.int .i64 n] w fun e w' => e = .returned (.int .i64 (splitS n : Int)) ∧ Drawn0 w w' :=
  ledger_split.calls 5 n _ w (split_eq n h h')
/-- An entry that is valid. -/
def Valid (e : S23) : Prop := 0 ≤ e.f0 ∧ e.f0 < 8 ∧ 0 ≤ e.f1 ∧ e.f1 < 64 ∧ e.f2.size ≤ 2400
instance (e : S23) : Decidable (Valid e) := by unfold Valid; infer_instance
def leafB (e : S23) : List Int := lfBytes e.f0 e.f1 e.f2.size ++ bytesOf e.f2
def leafS (e : S23) : Int := hl E0 (leafB e)
theorem leaf_spec (e : S23) (h : e.f2.size ≤ 2400) (w : World) : Calls Try.prog 66 #[.agg #[.int .i64 e.f0, .int .i64 e.f1, .string e.f2]] w fun x w' => x = .returned (.int .u64 (leafS e)) ∧ Below w.heap.size w w' := by
  refine leaf_any 2401 e.f0 e.f1 e.f2 (hl E0 (lfBytes e.f0 e.f1 e.f2.size)) (leafS e) w h (add_eq _ _ _ (by simp [lfBytes]) (by simp [lfBytes])) ?_
  rw [add_eq _ _ _ (by rw [bytesOf_length]; omega) (by rw [bytesOf_length]; omega)]
  simp [leafS, leafB, hl, List.foldl_append]
end Go.Proofs.Ytkedodmlbepfnaa.Lg

-- from the working text Root
set_option linter.unusedSimpArgs false
set_option linter.unusedVariables false
namespace Go.Proofs.Ytkedodmlbepfnaa.Lg
open Go.RowKit Go.Proofs.YtkedodmlbepfnaaW.PrintWords Go.Proofs.YtkedodmlbepfnaaW.PrintLast Go.Proofs.YtkedodmlbepfnaaW.PrintMore Go.Proofs.Ytkedodmlbepfnaa.Rg
def rootF : Nat → List S23 → Int
  | 0, _ => E0
  | f + 1, l => if l.length = 0 then E0 else if l.length = 1 then leafS (l.getD 0 z23) else nodeS (rootF f (l.take (splitS l.length))) (rootF f (l.drop (splitS l.length)))
/-- The root of entries. -/
def rootS (l : List S23) : Int := rootF l.length l
theorem cut_to3 (t e : TypeId) (kh km : IntKind) {P : Program} {i : TypeInfo} (ht : P.underlying t = some (.slice e)) (hi : P.info? e = some i) (A : Option Addr) (n c : Nat) (j : Nat) (hm : j ≤ c) :
    ∀ W : World, (Instr.slice t (.slice A n c) none (some (.int kh (j : Int))) (some (.int km (j : Int)))).run P W = .ok (.slice A j j) W := by
  intro W
  have hel : P.elem t = e := by simp [Program.elem, ht]
  have ha : (A.map fun x => x.add 0) = A := by cases A <;> simp [Addr.add]
  have hu : P.underlying t = some (.slice (P.elem t)) := by rw [hel]; exact ht
  rw [run_slice_hm W t A n c hu kh km j j (by omega) (Int.le_refl _) (by omega), hel]
  simp [sizeOf, typeInfo, hi, sliced, Result.andThen, ha]
def rootRel (f : Nat) (l : List S23) (A : Option Addr) (c : Nat) : Nat → Value → World → Prop
  | 0, v, _ => v = .slice A l.length c
  | 1, v, _ => v = .int .i64 (splitS l.length : Int)
  | 2, v, _ => v = .slice A (splitS l.length) c
  | 3, v, _ => v = .int .u64 (rootF f (l.take (splitS l.length)))
  | 4, v, _ => v = .slice A l.length c
  | 5, v, _ => v = .int .i64 (splitS l.length : Int)
  | 6, v, _ => v = .slice (if c = splitS l.length then A else A.map (·.add (splitS l.length * 3))) (l.length - splitS l.length) (c - splitS l.length)
  | 7, v, _ => v = .int .u64 (rootF f (l.drop (splitS l.length)))
  | 8, v, _ => v = .int .u64 (nodeS (rootF f (l.take (splitS l.length))) (rootF f (l.drop (splitS l.length))))
  | 9, v, _ => v = .int .u64 (nodeS (rootF f (l.take (splitS l.length))) (rootF f (l.drop (splitS l.length))))
  | _, _, _ => True
theorem rootRel_stable (f : Nat) (l : List S23) (A : Option Addr) (c : Nat) (i : Nat) (v : Value) (w w' : World) (h : rootRel f l A c i v w) (hb : Below w.heap.size w w') : rootRel f l A c i v w' := by
  revert h
  unfold rootRel
  split <;> intro h <;> exact h
set_option maxHeartbeats 4000000 in
set_option maxRecDepth 100000 in
theorem root_calls : ∀ (f : Nat) (l : List S23) (n : Nat) (A : Option Addr) (c : Nat) (w : World), n = l.length → n ≤ f → Kd.C k23 w A n l → n ≤ c → n ≤ 512 → (∀ e ∈ l, Valid e) →
    Calls Try.prog 69 #[.slice A n c] w fun e w' => e = .returned (.int .u64 (rootF f l)) ∧ Below w.heap.size w w' := by
  intro f
  induction f with
  | zero =>
    intro l n A c w hn hf hr0 hc0 h5 hv0
    obtain rfl : n = 0 := by omega
    clear hr0 hv0 hn hf
    go_enter Try.func69, Try.ntmps69
    go_wp2
    go_ret
    exact ⟨rfl, (by repeat (first | exact Below.refl _ _ | apply below_drew))⟩
  | succ f ih0 =>
    intro l n A c w hn hf hr0 hc0 h5 hv0
    subst hn
    have hr := Aside0.mk hr0
    have hc := Aside0.mk hc0
    have hv := Aside0.mk hv0
    have ih := ih0
    clear hr0 hc0 hv0 ih0
    have hf1 : l.length ≤ f + 1 := hf
    clear hf
    by_cases c0 : l.length = 0
    · have hE := Aside0.mk (show rootF (f + 1) l = E0 by unfold rootF; rw [if_pos c0])
      rw [c0]
      clear c0 hf1 h5 ih
      go_enter Try.func69, Try.ntmps69
      go_wp2
      go_ret
      exact ⟨by rw [hE.out]; rfl, (by repeat (first | exact Below.refl _ _ | apply below_drew))⟩
    · by_cases c1 : l.length = 1
      · obtain ⟨x, rfl⟩ := List.length_eq_one_iff.1 c1
        have hE := Aside0.mk (show rootF (f + 1) [x] = leafS x by unfold rootF; rw [if_neg c0, if_pos c1]; rfl)
        have hx := hv.out x List.mem_cons_self
        obtain ⟨ad, e0, hx0, hx1, hx2⟩ := at_T23 hr.out 0 (by omega) (by simp)
        cases e0
        rw [show (0 : Int).toNat * 3 = 0 from rfl, Addr.add_zero'] at hx0 hx1 hx2
        have hrd : rd_T23 [x] 0 = x := rfl
        rw [hrd] at hx0 hx1 hx2
        have hx5 := Aside0.mk (show x.f2.size ≤ 2400 from hx.2.2.2.2)
        clear hx hrd c0 c1 ih hf1 h5 hv hr
        go_enter Try.func69, Try.ntmps69
        go_wp2_with (go_at_call 66; (with_reducible refine (leaf_spec x hx5.out _).mono ?_); rintro e w' ⟨rfl, hb⟩; have HB := Aside0.mk hb; clear hb)
        go_ret
        exact ⟨by rw [hE.out]; rfl, HB.out⟩
      · have hE := Aside0.mk (show rootF (f + 1) l = nodeS (rootF f (l.take (splitS l.length))) (rootF f (l.drop (splitS l.length))) by rw [rootF, if_neg c0, if_neg c1])
        have c0b : ((l.length : Int) == 0) = false := by rw [beq_eq_false_iff_ne]; omega
        have c1b : ((l.length : Int) == 1) = false := by rw [beq_eq_false_iff_ne]; omega
        have h2 : 2 ≤ l.length := by omega
        have s1 := split_lt h2
        have s2 := split_pos l.length
        have s3 := split_le h2
        clear c0 c1
        go_enter Try.func69, Try.ntmps69
        go_wp2_with (go_at_call 117; (with_reducible refine (split_any l.length h2 h5 _).mono ?_); rintro e w' ⟨rfl, ⟨nd, rfl⟩⟩)
        obtain ⟨i0, hi0, hi1, hi2, _⟩ := info_parts info23
        generalize hW : w.drewN nd = W
        have hbW : Below w.heap.size w W := by rw [← hW]; exact pw_below_drewN (Below.refl _ _) nd
        have hr' := Aside0.mk (Kd.C_below hr.out hbW)
        clear hr
        have hr := hr'
        clear hr' hW
        refine rg_ [0, 1, 2, 3, 4, 5, 6, 7, 8, 9] [(0, 17), (1, 18), (2, 19), (3, 20), (4, 21), (5, 22), (6, 23), (7, 24), (8, 25), (9, 2)] (bitsOf (rtab .any (opsOf Try.f69 7)).2) (rootRel f l A c) (by kernel_rfl) rfl (by kernel_rfl) rfl (by kernel_rfl) ?stab ?steps ?rend
        case steps =>
          refine steps_cons (fun a1 w1 hB hsz hdf hn hd => ⟨_, rfl, fun K hK => ?_⟩) ?_
          · have e0 := eval_of ((hn 0 rfl).trans rfl)
            refine value_ (v := .slice A l.length c) (w1 := w1) rfl rfl ?_ (hK _ _ (Below.refl _ _) rfl)
            clear hd hn hK
            simp only [execOp, Option.map_some, Option.map_none, List.map_toArray, List.map_cons, List.map_nil, List.getElem_toArray, List.getElem_cons_zero, List.getElem_cons_succ, e0]
            clear e0
            go_simp
          refine steps_cons (fun a1 w1 hB hsz hdf hn hd => ⟨_, rfl, fun K hK => ?_⟩) ?_
          · have e3 := eval_of ((hn 3 rfl).trans rfl)
            refine value_ (v := .int .i64 (splitS l.length : Int)) (w1 := w1) rfl rfl ?_ (hK _ _ (Below.refl _ _) rfl)
            clear hd hn hK
            simp only [execOp, Option.map_some, Option.map_none, List.map_toArray, List.map_cons, List.map_nil, List.getElem_toArray, List.getElem_cons_zero, List.getElem_cons_succ, e3]
            clear e3
            go_simp
          refine steps_cons (fun a1 w1 hB hsz hdf hn hd => ⟨_, rfl, fun K hK => ?_⟩) ?_
          · obtain ⟨v17, h17, rfl⟩ := hd 0 17 rfl (by kernel_rfl)
            have e17 := eval_of h17
            clear h17
            obtain ⟨v18, h18, rfl⟩ := hd 1 18 rfl (by kernel_rfl)
            have e18 := eval_of h18
            clear h18
            refine value_ (v := .slice A (splitS l.length) c) (w1 := w1) rfl rfl ?_ (hK _ _ (Below.refl _ _) rfl)
            clear hd hn hK
            simp only [execOp, Option.map_some, Option.map_none, List.map_toArray, List.map_cons, List.map_nil, List.getElem_toArray, List.getElem_cons_zero, List.getElem_cons_succ, e17, e18]
            clear e17 e18
            have hq := cut_to 24 23 .i64 Try.underlying24 hi0 A l.length c (splitS l.length : Int) (by omega) (by omega) hc.out w1
            try simp only [Int.toNat_natCast] at hq
            clear hr hc hv ih hE hB
            go_simp
          refine steps_cons (fun a1 w1 hB hsz hdf hn hd => ⟨_, rfl, fun K hK => ?_⟩) ?_
          · obtain ⟨v19, h19, rfl⟩ := hd 2 19 rfl (by kernel_rfl)
            have e19 := eval_of h19
            clear h19
            refine goes_ Try.func69 (by kernel_rfl) rfl #[.slice A (splitS l.length) c] (by rfl) rfl rfl (by simp only [List.map_toArray, List.map_cons, List.map_nil, e19]) ?_
            have hl1 : (l.take (splitS l.length)).length = splitS l.length := by rw [List.length_take]; omega
            have hC := Kd.C_below (Kd.C_take hr.out (m := splitS l.length) (by omega)) hB
            rw [hl1] at hC
            refine (ih (l.take (splitS l.length)) (splitS l.length) A c w1 hl1.symm (by omega) hC (by have := hc.out; omega) (by omega) (fun e he => hv.out e (List.mem_of_mem_take he))).mono ?_
            rintro e w2 ⟨rfl, hbw⟩
            exact ⟨_, rfl, hK _ _ hbw rfl⟩
          refine steps_cons (fun a1 w1 hB hsz hdf hn hd => ⟨_, rfl, fun K hK => ?_⟩) ?_
          · have e0 := eval_of ((hn 0 rfl).trans rfl)
            refine value_ (v := .slice A l.length c) (w1 := w1) rfl rfl ?_ (hK _ _ (Below.refl _ _) rfl)
            clear hd hn hK
            simp only [execOp, Option.map_some, Option.map_none, List.map_toArray, List.map_cons, List.map_nil, List.getElem_toArray, List.getElem_cons_zero, List.getElem_cons_succ, e0]
            clear e0
            go_simp
          refine steps_cons (fun a1 w1 hB hsz hdf hn hd => ⟨_, rfl, fun K hK => ?_⟩) ?_
          · have e3 := eval_of ((hn 3 rfl).trans rfl)
            refine value_ (v := .int .i64 (splitS l.length : Int)) (w1 := w1) rfl rfl ?_ (hK _ _ (Below.refl _ _) rfl)
            clear hd hn hK
            simp only [execOp, Option.map_some, Option.map_none, List.map_toArray, List.map_cons, List.map_nil, List.getElem_toArray, List.getElem_cons_zero, List.getElem_cons_succ, e3]
            clear e3
            go_simp
          refine steps_cons (fun a1 w1 hB hsz hdf hn hd => ⟨_, rfl, fun K hK => ?_⟩) ?_
          · obtain ⟨v21, h21, rfl⟩ := hd 4 21 rfl (by kernel_rfl)
            have e21 := eval_of h21
            clear h21
            obtain ⟨v22, h22, rfl⟩ := hd 5 22 rfl (by kernel_rfl)
            have e22 := eval_of h22
            clear h22
            refine value_ (v := .slice (if c = splitS l.length then A else A.map (·.add (splitS l.length * 3))) (l.length - splitS l.length) (c - splitS l.length)) (w1 := w1) rfl rfl ?_ (hK _ _ (Below.refl _ _) rfl)
            clear hd hn hK
            simp only [execOp, Option.map_some, Option.map_none, List.map_toArray, List.map_cons, List.map_nil, List.getElem_toArray, List.getElem_cons_zero, List.getElem_cons_succ, e21, e22]
            clear e21 e22
            have hq := cut_from 24 23 .i64 Try.underlying24 hi0 3 hi2 A l.length c (splitS l.length : Int) (by omega) (by omega) w1
            try simp only [Int.toNat_natCast] at hq
            clear hr hc hv ih hE hB
            go_simp
          refine steps_cons (fun a1 w1 hB hsz hdf hn hd => ⟨_, rfl, fun K hK => ?_⟩) ?_
          · obtain ⟨v23, h23, rfl⟩ := hd 6 23 rfl (by kernel_rfl)
            have e23 := eval_of h23
            clear h23
            refine goes_ Try.func69 (by kernel_rfl) rfl #[.slice (if c = splitS l.length then A else A.map (·.add (splitS l.length * 3))) (l.length - splitS l.length) (c - splitS l.length)] (by rfl) rfl rfl (by simp only [List.map_toArray, List.map_cons, List.map_nil, e23]) ?_
            have hl1 : (l.drop (splitS l.length)).length = l.length - splitS l.length := by rw [List.length_drop]
            have hC := Kd.C_below (Kd.C_drop hr.out (m := splitS l.length) (by omega) hc.out) hB
            rw [hl1] at hC
            refine (ih (l.drop (splitS l.length)) _ _ _ w1 hl1.symm (by omega) hC (by have := hc.out; omega) (by omega) (fun e he => hv.out e (List.mem_of_mem_drop he))).mono ?_
            rintro e w2 ⟨rfl, hbw⟩
            exact ⟨_, rfl, hK _ _ hbw rfl⟩
          refine steps_cons (fun a1 w1 hB hsz hdf hn hd => ⟨_, rfl, fun K hK => ?_⟩) ?_
          · obtain ⟨v20, h20, rfl⟩ := hd 3 20 rfl (by kernel_rfl)
            have e20 := eval_of h20
            clear h20
            obtain ⟨v24, h24, rfl⟩ := hd 7 24 rfl (by kernel_rfl)
            have e24 := eval_of h24
            clear h24
            refine goes_ Try.func18 (by kernel_rfl) rfl #[.int .u64 (rootF f (l.take (splitS l.length))), .int .u64 (rootF f (l.drop (splitS l.length)))] (by rfl) rfl rfl (by simp only [List.map_toArray, List.map_cons, List.map_nil, e20, e24]) ?_
            refine (node_any _ _ w1).mono ?_
            rintro e w2 ⟨rfl, hbw⟩
            exact ⟨_, rfl, hK _ _ hbw rfl⟩
          refine steps_cons (fun a1 w1 hB hsz hdf hn hd => ⟨_, rfl, fun K hK => ?_⟩) ?_
          · obtain ⟨v25, h25, rfl⟩ := hd 8 25 rfl (by kernel_rfl)
            have e25 := eval_of h25
            clear h25
            refine value_ (v := .int .u64 (nodeS (rootF f (l.take (splitS l.length))) (rootF f (l.drop (splitS l.length))))) (w1 := w1) rfl rfl ?_ (hK _ _ (Below.refl _ _) rfl)
            clear hd hn hK
            simp only [execOp, Option.map_some, Option.map_none, List.map_toArray, List.map_cons, List.map_nil, List.getElem_toArray, List.getElem_cons_zero, List.getElem_cons_succ, e25]
            clear e25
            go_simp
          exact steps_nil
        case stab => exact fun i v w w' => rootRel_stable _ _ _ _ i v w w'
        case rend =>
          intro vals w1 hB hrr
          have hlast := hrr (9, 2) (by simp)
          simp only [fill, Act.put, List.setIfInBounds_toArray, List.set_cons_zero, List.set_cons_succ]
          have hlast' : vals 9 = .int .u64 (nodeS (rootF f (l.take (splitS l.length))) (rootF f (l.drop (splitS l.length)))) := hlast
          clear hlast hrr
          rw [hlast']
          clear hlast'
          go_wp2
          go_ret
          exact ⟨by rw [hE.out]; rfl, hbW.trans (hB.mono hbW.size)⟩
end Go.Proofs.Ytkedodmlbepfnaa.Lg

-- from the working text Rl
set_option linter.unusedSimpArgs false
set_option linter.unusedVariables false
namespace Go.Proofs.Ytkedodmlbepfnaa.Lg
open Go.RowKit Go.Proofs.YtkedodmlbepfnaaW.PrintWords Go.Proofs.YtkedodmlbepfnaaW.PrintLast Go.Proofs.YtkedodmlbepfnaaW.PrintMore Go.Proofs.Ytkedodmlbepfnaa.Rg
/-- A number of 64 bits. -/
def U64 (n : Int) : Prop := 0 ≤ n ∧ n < 18446744073709551616
theorem hs_u64 (h b : Int) : U64 (hs h b) := by
  have : ∀ x : Int, U64 (IntKind.u64.wrap x) := fun x => by unfold U64 IntKind.wrap IntKind.bits; simp [IntKind.signed]; omega
  exact this _
theorem hl_u64 : ∀ (l : List Int) (h : Int), U64 h → U64 (hl h l)
  | [], _, hh => hh
  | b :: l, h, _ => hl_u64 l (hs h b) (hs_u64 h b)
theorem E0_u64 : U64 E0 := by unfold U64 E0; omega
theorem node_u64 (a b : Int) : U64 (nodeS a b) := hl_u64 _ _ E0_u64
theorem leaf_u64 (e : S23) : U64 (leafS e) := hl_u64 _ _ E0_u64
theorem rootF_u64 : ∀ (f : Nat) (l : List S23), U64 (rootF f l)
  | 0, _ => E0_u64
  | f + 1, l => by
    rw [rootF]
    split
    · exact E0_u64
    · split
      · exact leaf_u64 _
      · exact node_u64 _ _
end Go.Proofs.Ytkedodmlbepfnaa.Lg

-- from the working text Ap
set_option linter.unusedSimpArgs false
set_option linter.unusedVariables false
namespace Go.Proofs.Ytkedodmlbepfnaa.Lg
open Go.RowKit Go.Proofs.YtkedodmlbepfnaaW.PrintWords Go.Proofs.YtkedodmlbepfnaaW.PrintLast Go.Proofs.YtkedodmlbepfnaaW.PrintMore Go.Proofs.Ytkedodmlbepfnaa.Rg
/-- A slice of 64 bit numbers of the call's own (base: where the call's memory begins). -/
def Nums (w : World) (base : Nat) (v : Value) (xs : List Int) : Prop := w.ownsRow base 25 1 v xs.length (nums .u64 xs)
theorem Nums.below {w w1 : World} {base : Nat} {v : Value} {xs : List Int} (h : Nums w base v xs) (hb : Below w.heap.size w w1) : Nums w1 base v xs := pw_own_below h hb
theorem Nums.mono {w : World} {b b' : Nat} {v : Value} {xs : List Int} (h : Nums w b v xs) (hb : b' ≤ b) : Nums w b' v xs := World.ownsRow.mono h hb
theorem Nums.nil (w : World) (base : Nat) : Nums w base (.slice none 0 0) [] := own_nil w base 25 1
theorem Nums.reads {w : World} {base : Nat} {v : Value} {xs : List Int} (h : Nums w base v xs) : ∃ A c, v = .slice A xs.length c ∧ xs.length ≤ c ∧ Kd.C (Kd.int .u64) w A xs.length xs := by
  have h' : w.ownsRow base 25 1 v xs.length (nums .u64 xs) := h
  rcases h'.2 with ⟨rfl, h0⟩ | ⟨g, cap, cur, rfl, _, _, hnc, _⟩
  · have hx : xs = [] := List.eq_nil_of_length_eq_zero h0
    subst hx
    exact ⟨none, 0, rfl, Nat.le_refl _, Kd.C_nil _ _⟩
  · exact ⟨_, cap, rfl, hnc, Kd.C_of_reads (h1 := fun _ => rfl) (readsInt_of.mp (own_reads' h'))⟩
theorem Nums.lit1 (w : World) (base : Nat) (hb : base ≤ w.heap.size) (y : Int) : Nums (w.alloc (.cells #[.int .u64 y] 25)) base (.slice (some ⟨w.heap.size, 0, none⟩) 1 1) [y] :=
  own_lit w base 25 .u64 [y] hb (by simp)
theorem append_step {oi : Oper} {a : Act} {w : World} {s x : Operand} {base g : Nat} {v : Value} {xs : List Int} {y : Int} (hop : oi.op = .call { callee := .builtin .append, args := #[s, x], argTypes := #[35, 35] })
    (hs : a.eval s = v) (hx : a.eval x = .slice (some ⟨g, 0, none⟩) 1 1) (HO : Nums w base v xs) (hc : w.cell? ⟨g, 0, none⟩ = some (.int .u64 y)) (hl : xs.length ≤ 1000000) (hb : base ≤ w.heap.size) :
    ∃ v1 w1, (execOp a.eval oi).run Try.prog w = .ok (.value v1) w1 ∧ Nums w1 base v1 (xs ++ [y]) ∧ w.grownBy w1 v.ownBlock := by
  obtain ⟨i0, hi, hz0, hz1, hz2⟩ := info_parts info25
  obtain ⟨v1, w1, hrun, hown, hg, _⟩ := run_append_own_at (P := Try.prog) w base 35 oi.type 25 i0 (.int .u64 0) 1 8 Try.underlying35 hi hz0 hz1 hz2 rfl (by omega) v xs.length (nums .u64 xs) HO ⟨g, 0, none⟩ 1 1 [.int .u64 y] rfl
    (by
      intro j u hu
      match j, hu with
      | 0, hu => simp only [List.getElem?_cons_zero, Option.some.injEq] at hu; subst hu; rw [Addr.add_zero']; exact hc
      | j + 1, hu => simp at hu)
    (by intro u hu; rw [List.mem_singleton] at hu; subst hu; rfl) (by simp only [maxLen]; omega) (by omega) hb
  refine ⟨v1, w1, ?_, ?_, hg⟩
  · unfold execOp
    simp only [hop, resolve, invoke, builtin, Sem.run_bind, Sem.run_pure, Result.andThen_ok, List.map_toArray, List.map_cons, List.map_nil, hs, hx, hrun]
  · unfold Nums
    rw [nums_append, List.length_append]
    exact hown
theorem append_ {ops : Array Oper} {Q : Exit → Act → World → Prop} {oi : Oper} {N : Option Tmp} {a : Act} {w : World} {K : Act → World → Prop} {s x : Operand} {base g : Nat} {v : Value} {xs : List Int} {y : Int} (hw : Region.wanted oi (yielded ops a.tmps) = true) (hN : oi.dst = N)
    (hop : oi.op = .call { callee := .builtin .append, args := #[s, x], argTypes := #[35, 35] })
    (hs : a.eval s = v) (hx : a.eval x = .slice (some ⟨g, 0, none⟩) 1 1) (HO : Nums w base v xs) (hc : w.cell? ⟨g, 0, none⟩ = some (.int .u64 y)) (hl : xs.length ≤ 1000000) (hb : base ≤ w.heap.size)
    (h : ∀ v1 w1, Nums w1 base v1 (xs ++ [y]) → w.grownBy w1 v.ownBlock → K (a.put N v1) w1) :
    if Region.wanted oi (yielded ops a.tmps) = true then Oper.wp Try.prog oi a w K Q else K (a.put N undef) w := by
  obtain ⟨v1, w1, hrun, hN2, hg⟩ := append_step hop hs hx HO hc hl hb
  exact value_ hw hN hrun (h v1 w1 hN2 hg)
/-- Behind such an append, all elder memory stands. -/
theorem grown_below {w0 w w1 : World} {base : Nat} {v : Value} {xs : List Int} (hB : Below w0.heap.size w0 w) (HO : Nums w base v xs) (hb : w0.heap.size ≤ base) (hb2 : base ≤ w.heap.size) (hg : w.grownBy w1 v.ownBlock) : Below w0.heap.size w0 w1 :=
  pw_below_grown hB _ hB.size hg (fun k hk => Nat.le_trans hb (own_base HO k hk))
end Go.Proofs.Ytkedodmlbepfnaa.Lg

-- from the working text Path
set_option linter.unusedSimpArgs false
set_option linter.unusedVariables false
namespace Go.Proofs.Ytkedodmlbepfnaa.Lg
open Go.RowKit Go.Proofs.YtkedodmlbepfnaaW.PrintWords Go.Proofs.YtkedodmlbepfnaaW.PrintLast Go.Proofs.YtkedodmlbepfnaaW.PrintMore Go.Proofs.Ytkedodmlbepfnaa.Rg
/-- The path of an entry. -/
def pathF : Nat → List S23 → Nat → List Int
  | 0, _, _ => []
  | f + 1, l, i => if l.length = 1 then [] else if i < splitS l.length then pathF f (l.take (splitS l.length)) i ++ [rootS (l.drop (splitS l.length))] else pathF f (l.drop (splitS l.length)) (i - splitS l.length) ++ [rootS (l.take (splitS l.length))]
theorem pathF_len : ∀ (f : Nat) (l : List S23) (i : Nat), (pathF f l i).length ≤ f
  | 0, _, _ => by simp [pathF]
  | f + 1, l, i => by
    rw [pathF]
    split
    · simp
    · split <;> (rw [List.length_append]; have := pathF_len f; simp; exact this _ _)
/-- The growth of a list from its first entries. -/
def grownF : Nat → List S23 → Nat → Bool → List Int
  | 0, _, _, _ => []
  | f + 1, l, i, b => if i = l.length then (if b = true then [] else [rootS l]) else if i ≤ splitS l.length then grownF f (l.take (splitS l.length)) i b ++ [rootS (l.drop (splitS l.length))] else grownF f (l.drop (splitS l.length)) (i - splitS l.length) false ++ [rootS (l.take (splitS l.length))]
theorem grownF_len : ∀ (f : Nat) (l : List S23) (i : Nat) (b : Bool), (grownF f l i b).length ≤ f
  | 0, _, _, _ => by simp [grownF]
  | f + 1, l, i, b => by
    rw [grownF]
    split
    · split <;> simp
    · split <;> (rw [List.length_append]; have := grownF_len f; simp; exact this _ _ _)
def pathARel (f : Nat) (l : List S23) (A : Option Addr) (c : Nat) (i : Nat) (B : Nat) : Nat → Value → World → Prop
  | 0, v, _ => v = .slice A l.length c
  | 1, v, _ => v = .int .i64 (splitS l.length : Int)
  | 2, v, _ => v = .slice A (splitS l.length) c
  | 3, v, _ => v = .int .i64 (i : Int)
  | 4, v, w => Nums w B v (pathF f (l.take (splitS l.length)) i)
  | 5, v, _ => v = .slice A l.length c
  | 6, v, _ => v = .int .i64 (splitS l.length : Int)
  | 7, v, _ => v = .slice (if c = splitS l.length then A else A.map (·.add (splitS l.length * 3))) (l.length - splitS l.length) (c - splitS l.length)
  | 8, v, _ => v = .int .u64 (rootS (l.drop (splitS l.length)))
  | 9, v, w => ∃ g, v = .slice (some ⟨g, 0, none⟩) 1 1 ∧ w.cell? ⟨g, 0, none⟩ = some (.int .u64 (rootS (l.drop (splitS l.length))))
  | 10, v, w => Nums w B v (pathF f (l.take (splitS l.length)) i ++ [rootS (l.drop (splitS l.length))])
  | 11, v, w => Nums w B v (pathF f (l.take (splitS l.length)) i ++ [rootS (l.drop (splitS l.length))])
  | _, _, _ => True
theorem pathARel_stable (f : Nat) (l : List S23) (A : Option Addr) (c : Nat) (i : Nat) (B : Nat) (j : Nat) (v : Value) (w w' : World) (h : pathARel f l A c i B j v w) (hb : Below w.heap.size w w') : pathARel f l A c i B j v w' := by
  revert h
  unfold pathARel
  split <;> intro h <;> first | exact h | exact Nums.below h hb | (obtain ⟨g, h1, h2⟩ := h; exact ⟨g, h1, pw_cell_below hb h2⟩)
def pathBRel (f : Nat) (l : List S23) (A : Option Addr) (c : Nat) (i : Nat) (B : Nat) : Nat → Value → World → Prop
  | 0, v, _ => v = .slice A l.length c
  | 1, v, _ => v = .int .i64 (splitS l.length : Int)
  | 2, v, _ => v = .slice (if c = splitS l.length then A else A.map (·.add (splitS l.length * 3))) (l.length - splitS l.length) (c - splitS l.length)
  | 3, v, _ => v = .int .i64 (i : Int)
  | 4, v, _ => v = .int .i64 (splitS l.length : Int)
  | 5, v, _ => v = .int .i64 ((i : Int) - (splitS l.length : Int))
  | 6, v, w => Nums w B v (pathF f (l.drop (splitS l.length)) (i - splitS l.length))
  | 7, v, _ => v = .slice A l.length c
  | 8, v, _ => v = .int .i64 (splitS l.length : Int)
  | 9, v, _ => v = .slice A (splitS l.length) c
  | 10, v, _ => v = .int .u64 (rootS (l.take (splitS l.length)))
  | 11, v, w => ∃ g, v = .slice (some ⟨g, 0, none⟩) 1 1 ∧ w.cell? ⟨g, 0, none⟩ = some (.int .u64 (rootS (l.take (splitS l.length))))
  | 12, v, w => Nums w B v (pathF f (l.drop (splitS l.length)) (i - splitS l.length) ++ [rootS (l.take (splitS l.length))])
  | 13, v, w => Nums w B v (pathF f (l.drop (splitS l.length)) (i - splitS l.length) ++ [rootS (l.take (splitS l.length))])
  | _, _, _ => True
theorem pathBRel_stable (f : Nat) (l : List S23) (A : Option Addr) (c : Nat) (i : Nat) (B : Nat) (j : Nat) (v : Value) (w w' : World) (h : pathBRel f l A c i B j v w) (hb : Below w.heap.size w w') : pathBRel f l A c i B j v w' := by
  revert h
  unfold pathBRel
  split <;> intro h <;> first | exact h | exact Nums.below h hb | (obtain ⟨g, h1, h2⟩ := h; exact ⟨g, h1, pw_cell_below hb h2⟩)
set_option maxHeartbeats 8000000 in
set_option maxRecDepth 100000 in
theorem path_calls : ∀ (f : Nat) (l : List S23) (n : Nat) (A : Option Addr) (c : Nat) (i : Nat) (w : World), n = l.length → n ≤ f → f ≤ 512 → 1 ≤ n → Kd.C k23 w A n l → n ≤ c → n ≤ 512 → (∀ e ∈ l, Valid e) → i < n →
    Calls Try.prog 76 #[.slice A n c, .int .i64 (i : Int)] w fun e w' => ∃ v, e = .returned v ∧ Nums w' w.heap.size v (pathF f l i) ∧ Below w.heap.size w w' := by
  intro f
  induction f with
  | zero => intro l n A c i w hn hf hf5 h1; omega
  | succ f ih0 =>
    intro l n A c i w hn hf hf5 h1 hr0 hc0 h5 hv0 hin
    subst hn
    have hr := Aside0.mk hr0
    have hc := Aside0.mk hc0
    have hv := Aside0.mk hv0
    have ih := ih0
    clear hr0 hc0 hv0 ih0
    have hf1 : l.length ≤ f + 1 := hf
    clear hf
    by_cases c1 : l.length = 1
    · have hE := Aside0.mk (show pathF (f + 1) l i = [] by rw [pathF, if_pos c1])
      rw [c1]
      have hi0 : i = 0 := by omega
      subst hi0
      clear c1 hf1 h5 ih hr hv hin h1
      go_enter Try.func76, Try.ntmps76
      go_wp2
      go_ret
      exact ⟨_, rfl, by rw [hE.out]; exact Nums.nil _ _, (by repeat (first | exact Below.refl _ _ | apply below_drew | apply pw_below_drewN))⟩
    · have c1b : ((l.length : Int) == 1) = false := by rw [beq_eq_false_iff_ne]; omega
      have h2 : 2 ≤ l.length := by omega
      have s1 := split_lt h2
      have s2 := split_pos l.length
      have s3 := split_le h2
      by_cases hk : i < splitS l.length
      · have hE := Aside0.mk (show pathF (f + 1) l i = _ by rw [pathF, if_neg c1, if_pos hk])
        have hkb : decide ((i : Int) < (splitS l.length : Int)) = true := by simp; omega
        have hkn : decide (i < splitS l.length) = true := by simp; omega
        clear c1
        go_enter Try.func76, Try.ntmps76
        go_wp2_with (go_at_call 117; (with_reducible refine (split_any l.length h2 h5 _).mono ?_); rintro e w' ⟨rfl, ⟨nd, rfl⟩⟩)
        obtain ⟨i0, hi0, hi1x, hi2, _⟩ := info_parts info23
        generalize hW : w.drewN nd = W
        have hbW : Below w.heap.size w W := by rw [← hW]; exact pw_below_drewN (Below.refl _ _) nd
        have hr' := Aside0.mk (Kd.C_below hr.out hbW)
        clear hr
        have hr := hr'
        clear hr' hW
        · refine rg2_ 10 [0, 1, 2, 3, 4, 5, 6, 7, 8, 9, 10, 11] [(0, 15), (1, 16), (2, 17), (3, 18), (4, 19), (5, 20), (6, 21), (7, 22), (8, 23), (9, 24), (10, 25), (11, 4)] (bitsOf (rtab .any (opsOf Try.f76 5)).2) (pathARel f l A c i W.heap.size) (by kernel_rfl) rfl (by kernel_rfl) rfl (by kernel_rfl) ?stab ?steps ?rend
          case steps =>
            refine steps2_cons (by decide) (fun a1 w1 hB hsz hdf hn hd => ⟨_, rfl, fun K hK => ?_⟩) ?_
            · have e0 := eval_of ((hn 0 rfl).trans rfl)
              refine value_ (v := .slice A l.length c) (w1 := w1) rfl rfl ?_ (hK _ _ (Below.refl _ _) rfl)
              clear hd hn hK
              simp only [execOp, Option.map_some, Option.map_none, List.map_toArray, List.map_cons, List.map_nil, List.getElem_toArray, List.getElem_cons_zero, List.getElem_cons_succ, e0]
              clear e0
              go_simp
            refine steps2_cons (by decide) (fun a1 w1 hB hsz hdf hn hd => ⟨_, rfl, fun K hK => ?_⟩) ?_
            · have e5 := eval_of ((hn 5 rfl).trans rfl)
              refine value_ (v := .int .i64 (splitS l.length : Int)) (w1 := w1) rfl rfl ?_ (hK _ _ (Below.refl _ _) rfl)
              clear hd hn hK
              simp only [execOp, Option.map_some, Option.map_none, List.map_toArray, List.map_cons, List.map_nil, List.getElem_toArray, List.getElem_cons_zero, List.getElem_cons_succ, e5]
              clear e5
              go_simp
            refine steps2_cons (by decide) (fun a1 w1 hB hsz hdf hn hd => ⟨_, rfl, fun K hK => ?_⟩) ?_
            · obtain ⟨v15, h15, rfl⟩ := hd 0 15 rfl (by kernel_rfl)
              have e15 := eval_of h15
              clear h15
              obtain ⟨v16, h16, rfl⟩ := hd 1 16 rfl (by kernel_rfl)
              have e16 := eval_of h16
              clear h16
              refine value_ (v := .slice A (splitS l.length) c) (w1 := w1) rfl rfl ?_ (hK _ _ (Below.refl _ _) rfl)
              clear hd hn hK
              simp only [execOp, Option.map_some, Option.map_none, List.map_toArray, List.map_cons, List.map_nil, List.getElem_toArray, List.getElem_cons_zero, List.getElem_cons_succ, e15, e16]
              clear e15 e16
              have hq := cut_to 24 23 .i64 Try.underlying24 hi0 A l.length c (splitS l.length : Int) (by omega) (by omega) hc.out w1
              try simp only [Int.toNat_natCast] at hq
              clear hr hc hv ih hE hB
              go_simp
            refine steps2_cons (by decide) (fun a1 w1 hB hsz hdf hn hd => ⟨_, rfl, fun K hK => ?_⟩) ?_
            · have e1 := eval_of ((hn 1 rfl).trans rfl)
              refine value_ (v := .int .i64 (i : Int)) (w1 := w1) rfl rfl ?_ (hK _ _ (Below.refl _ _) rfl)
              clear hd hn hK
              simp only [execOp, Option.map_some, Option.map_none, List.map_toArray, List.map_cons, List.map_nil, List.getElem_toArray, List.getElem_cons_zero, List.getElem_cons_succ, e1]
              clear e1
              go_simp
            refine steps2_cons (by decide) (fun a1 w1 hB hsz hdf hn hd => ⟨_, rfl, fun K hK => ?_⟩) ?_
            · obtain ⟨v17, h17, rfl⟩ := hd 2 17 rfl (by kernel_rfl)
              have e17 := eval_of h17
              clear h17
              obtain ⟨v18, h18, rfl⟩ := hd 3 18 rfl (by kernel_rfl)
              have e18 := eval_of h18
              clear h18
              refine goes_ Try.func76 (by kernel_rfl) rfl #[.slice A (splitS l.length) c, .int .i64 (i : Int)] (by rfl) rfl rfl (by simp only [List.map_toArray, List.map_cons, List.map_nil, e17, e18]) ?_
              have hl1 : (l.take (splitS l.length)).length = splitS l.length := by rw [List.length_take]; omega
              have hC := Kd.C_below (Kd.C_take hr.out (m := splitS l.length) (by omega)) hB
              rw [hl1] at hC
              refine (ih (l.take (splitS l.length)) _ _ _ i w1 hl1.symm (by omega) (by omega) (by omega) hC (by have := hc.out; omega) (by omega) (fun e he => hv.out e (List.mem_of_mem_take he)) (by omega)).mono ?_
              rintro e w2 ⟨v, rfl, hN, hbw⟩
              exact ⟨_, rfl, hK _ _ hbw (Nums.mono hN hB.size)⟩
            refine steps2_cons (by decide) (fun a1 w1 hB hsz hdf hn hd => ⟨_, rfl, fun K hK => ?_⟩) ?_
            · have e0 := eval_of ((hn 0 rfl).trans rfl)
              refine value_ (v := .slice A l.length c) (w1 := w1) rfl rfl ?_ (hK _ _ (Below.refl _ _) rfl)
              clear hd hn hK
              simp only [execOp, Option.map_some, Option.map_none, List.map_toArray, List.map_cons, List.map_nil, List.getElem_toArray, List.getElem_cons_zero, List.getElem_cons_succ, e0]
              clear e0
              go_simp
            refine steps2_cons (by decide) (fun a1 w1 hB hsz hdf hn hd => ⟨_, rfl, fun K hK => ?_⟩) ?_
            · have e5 := eval_of ((hn 5 rfl).trans rfl)
              refine value_ (v := .int .i64 (splitS l.length : Int)) (w1 := w1) rfl rfl ?_ (hK _ _ (Below.refl _ _) rfl)
              clear hd hn hK
              simp only [execOp, Option.map_some, Option.map_none, List.map_toArray, List.map_cons, List.map_nil, List.getElem_toArray, List.getElem_cons_zero, List.getElem_cons_succ, e5]
              clear e5
              go_simp
            refine steps2_cons (by decide) (fun a1 w1 hB hsz hdf hn hd => ⟨_, rfl, fun K hK => ?_⟩) ?_
            · obtain ⟨v20, h20, rfl⟩ := hd 5 20 rfl (by kernel_rfl)
              have e20 := eval_of h20
              clear h20
              obtain ⟨v21, h21, rfl⟩ := hd 6 21 rfl (by kernel_rfl)
              have e21 := eval_of h21
              clear h21
              refine value_ (v := .slice (if c = splitS l.length then A else A.map (·.add (splitS l.length * 3))) (l.length - splitS l.length) (c - splitS l.length)) (w1 := w1) rfl rfl ?_ (hK _ _ (Below.refl _ _) rfl)
              clear hd hn hK
              simp only [execOp, Option.map_some, Option.map_none, List.map_toArray, List.map_cons, List.map_nil, List.getElem_toArray, List.getElem_cons_zero, List.getElem_cons_succ, e20, e21]
              clear e20 e21
              have hq := cut_from 24 23 .i64 Try.underlying24 hi0 3 hi2 A l.length c (splitS l.length : Int) (by omega) (by omega) w1
              try simp only [Int.toNat_natCast] at hq
              clear hr hc hv ih hE hB
              go_simp
            refine steps2_cons (by decide) (fun a1 w1 hB hsz hdf hn hd => ⟨_, rfl, fun K hK => ?_⟩) ?_
            · obtain ⟨v22, h22, rfl⟩ := hd 7 22 rfl (by kernel_rfl)
              have e22 := eval_of h22
              clear h22
              refine goes_ Try.func69 (by kernel_rfl) rfl #[.slice (if c = splitS l.length then A else A.map (·.add (splitS l.length * 3))) (l.length - splitS l.length) (c - splitS l.length)] (by rfl) rfl rfl (by simp only [List.map_toArray, List.map_cons, List.map_nil, e22]) ?_
              have hl1 : (l.drop (splitS l.length)).length = l.length - splitS l.length := by rw [List.length_drop]
              have hC := Kd.C_below (Kd.C_drop hr.out (m := splitS l.length) (by omega) hc.out) hB
              rw [hl1] at hC
              refine (root_calls (l.drop (splitS l.length)).length (l.drop (splitS l.length)) _ _ _ w1 hl1.symm (by omega) hC (by have := hc.out; omega) (by omega) (fun e he => hv.out e (List.mem_of_mem_drop he))).mono ?_
              rintro e w2 ⟨rfl, hbw⟩
              exact ⟨_, rfl, hK _ _ hbw rfl⟩
            refine steps2_cons (by decide) (fun a1 w1 hB hsz hdf hn hd => ⟨_, rfl, fun K hK => ?_⟩) ?_
            · obtain ⟨v23, h23, rfl⟩ := hd 8 23 rfl (by kernel_rfl)
              have e23 := eval_of h23
              clear h23
              refine value_ (v := .slice (some ⟨w1.heap.size, 0, none⟩) 1 1) (w1 := w1.alloc (.cells #[.int .u64 (rootS (l.drop (splitS l.length)))] 25)) rfl rfl ?_ (hK _ _ (below_alloc (Below.refl _ _) _) ⟨_, rfl, by simp⟩)
              clear hd hn hK
              simp only [execOp, Option.map_some, Option.map_none, List.map_toArray, List.map_cons, List.map_nil, List.getElem_toArray, List.getElem_cons_zero, List.getElem_cons_succ, e23]
              clear e23
              go_simp
            refine steps2_late (by decide) (fun a1 w1 hB hsz hdf hn hd => ⟨_, rfl, fun K hK => ?_⟩) ?_
            · obtain ⟨v19, h19, q19⟩ := hd 4 19 rfl (by kernel_rfl)
              have hN : Nums w1 W.heap.size v19 (pathF f (l.take (splitS l.length)) i) := q19 (.inl rfl)
              obtain ⟨v24, h24, q24⟩ := hd 9 24 rfl (by kernel_rfl)
              obtain ⟨g, rfl, hcg⟩ := q24 (.inl rfl)
              refine append_ (y := rootS (l.drop (splitS l.length))) rfl rfl rfl (eval_of h19) (eval_of h24) hN hcg (by have := pathF_len f (l.take (splitS l.length)) i; omega) hB.size (fun vv w2 hN2 hg => hK _ _ ?_ (.inl rfl) hN2)
              exact grown_below hB hN (Nat.le_refl _) hB.size hg
            refine steps2_late (by decide) (fun a1 w1 hB hsz hdf hn hd => ⟨_, rfl, fun K hK => ?_⟩) ?_
            · obtain ⟨v25, h25, q25⟩ := hd 10 25 rfl (by kernel_rfl)
              have e25 := eval_of h25
              refine value_ (v := v25) (w1 := w1) rfl rfl ?_ (hK _ _ hB (.inr (Below.refl _ _)) (q25 (.inr (by decide))))
              clear hd hn hK
              simp only [execOp, List.getElem_toArray, List.getElem_cons_zero, List.getElem_cons_succ, e25]
              go_simp
            exact steps2_nil
          case stab => exact fun j v w w' => pathARel_stable _ _ _ _ _ _ j v w w'
          case rend =>
            intro vals w1 hB hrr
            have hlast := hrr (11, 4) (by simp) (by decide)
            simp only [fill, Act.put, List.setIfInBounds_toArray, List.set_cons_zero, List.set_cons_succ]
            have hlast' : Nums w1 W.heap.size (vals 11) (pathF f (l.take (splitS l.length)) i ++ [rootS (l.drop (splitS l.length))]) := hlast
            clear hlast hrr
            generalize vals 11 = vv at hlast' ⊢
            have HL := Aside0.mk hlast'
            clear hlast'
            go_wp2
            go_ret
            exact ⟨_, rfl, by rw [hE.out]; exact Nums.mono HL.out hbW.size, hbW.trans (hB.mono hbW.size)⟩
      · have hE := Aside0.mk (show pathF (f + 1) l i = _ by rw [pathF, if_neg c1, if_neg hk])
        have hkb : decide ((i : Int) < (splitS l.length : Int)) = false := by simp; omega
        have hkn : decide (i < splitS l.length) = false := by simp; omega
        clear c1
        go_enter Try.func76, Try.ntmps76
        go_wp2_with (go_at_call 117; (with_reducible refine (split_any l.length h2 h5 _).mono ?_); rintro e w' ⟨rfl, ⟨nd, rfl⟩⟩)
        obtain ⟨i0, hi0, hi1x, hi2, _⟩ := info_parts info23
        generalize hW : w.drewN nd = W
        have hbW : Below w.heap.size w W := by rw [← hW]; exact pw_below_drewN (Below.refl _ _) nd
        have hr' := Aside0.mk (Kd.C_below hr.out hbW)
        clear hr
        have hr := hr'
        clear hr' hW
        · refine rg2_ 12 [0, 1, 2, 3, 4, 5, 6, 7, 8, 9, 10, 11, 12, 13] [(0, 26), (1, 27), (2, 28), (3, 29), (4, 30), (5, 31), (6, 32), (7, 33), (8, 34), (9, 35), (10, 36), (11, 37), (12, 38), (13, 4)] (bitsOf (rtab .any (opsOf Try.f76 6)).2) (pathBRel f l A c i W.heap.size) (by kernel_rfl) rfl (by kernel_rfl) rfl (by kernel_rfl) ?stab ?steps ?rend
          case steps =>
            refine steps2_cons (by decide) (fun a1 w1 hB hsz hdf hn hd => ⟨_, rfl, fun K hK => ?_⟩) ?_
            · have e0 := eval_of ((hn 0 rfl).trans rfl)
              refine value_ (v := .slice A l.length c) (w1 := w1) rfl rfl ?_ (hK _ _ (Below.refl _ _) rfl)
              clear hd hn hK
              simp only [execOp, Option.map_some, Option.map_none, List.map_toArray, List.map_cons, List.map_nil, List.getElem_toArray, List.getElem_cons_zero, List.getElem_cons_succ, e0]
              clear e0
              go_simp
            refine steps2_cons (by decide) (fun a1 w1 hB hsz hdf hn hd => ⟨_, rfl, fun K hK => ?_⟩) ?_
            · have e5 := eval_of ((hn 5 rfl).trans rfl)
              refine value_ (v := .int .i64 (splitS l.length : Int)) (w1 := w1) rfl rfl ?_ (hK _ _ (Below.refl _ _) rfl)
              clear hd hn hK
              simp only [execOp, Option.map_some, Option.map_none, List.map_toArray, List.map_cons, List.map_nil, List.getElem_toArray, List.getElem_cons_zero, List.getElem_cons_succ, e5]
              clear e5
              go_simp
            refine steps2_cons (by decide) (fun a1 w1 hB hsz hdf hn hd => ⟨_, rfl, fun K hK => ?_⟩) ?_
            · obtain ⟨v26, h26, rfl⟩ := hd 0 26 rfl (by kernel_rfl)
              have e26 := eval_of h26
              clear h26
              obtain ⟨v27, h27, rfl⟩ := hd 1 27 rfl (by kernel_rfl)
              have e27 := eval_of h27
              clear h27
              refine value_ (v := .slice (if c = splitS l.length then A else A.map (·.add (splitS l.length * 3))) (l.length - splitS l.length) (c - splitS l.length)) (w1 := w1) rfl rfl ?_ (hK _ _ (Below.refl _ _) rfl)
              clear hd hn hK
              simp only [execOp, Option.map_some, Option.map_none, List.map_toArray, List.map_cons, List.map_nil, List.getElem_toArray, List.getElem_cons_zero, List.getElem_cons_succ, e26, e27]
              clear e26 e27
              have hq := cut_from 24 23 .i64 Try.underlying24 hi0 3 hi2 A l.length c (splitS l.length : Int) (by omega) (by omega) w1
              try simp only [Int.toNat_natCast] at hq
              clear hr hc hv ih hE hB
              go_simp
            refine steps2_cons (by decide) (fun a1 w1 hB hsz hdf hn hd => ⟨_, rfl, fun K hK => ?_⟩) ?_
            · have e1 := eval_of ((hn 1 rfl).trans rfl)
              refine value_ (v := .int .i64 (i : Int)) (w1 := w1) rfl rfl ?_ (hK _ _ (Below.refl _ _) rfl)
              clear hd hn hK
              simp only [execOp, Option.map_some, Option.map_none, List.map_toArray, List.map_cons, List.map_nil, List.getElem_toArray, List.getElem_cons_zero, List.getElem_cons_succ, e1]
              clear e1
              go_simp
            refine steps2_cons (by decide) (fun a1 w1 hB hsz hdf hn hd => ⟨_, rfl, fun K hK => ?_⟩) ?_
            · have e5 := eval_of ((hn 5 rfl).trans rfl)
              refine value_ (v := .int .i64 (splitS l.length : Int)) (w1 := w1) rfl rfl ?_ (hK _ _ (Below.refl _ _) rfl)
              clear hd hn hK
              simp only [execOp, Option.map_some, Option.map_none, List.map_toArray, List.map_cons, List.map_nil, List.getElem_toArray, List.getElem_cons_zero, List.getElem_cons_succ, e5]
              clear e5
              go_simp
            refine steps2_cons (by decide) (fun a1 w1 hB hsz hdf hn hd => ⟨_, rfl, fun K hK => ?_⟩) ?_
            · obtain ⟨v29, h29, rfl⟩ := hd 3 29 rfl (by kernel_rfl)
              have e29 := eval_of h29
              clear h29
              obtain ⟨v30, h30, rfl⟩ := hd 4 30 rfl (by kernel_rfl)
              have e30 := eval_of h30
              clear h30
              refine value_ (v := .int .i64 ((i : Int) - (splitS l.length : Int))) (w1 := w1) rfl rfl ?_ (hK _ _ (Below.refl _ _) rfl)
              clear hd hn hK
              simp only [execOp, Option.map_some, Option.map_none, List.map_toArray, List.map_cons, List.map_nil, List.getElem_toArray, List.getElem_cons_zero, List.getElem_cons_succ, e29, e30]
              clear e29 e30
              have hq : IntKind.i64.wrap ((i : Int) - (splitS l.length : Int)) = (i : Int) - (splitS l.length : Int) := by rw [i64_w]; unfold wrap64; omega
              clear hr hc hv ih hE hB
              go_simp
            refine steps2_cons (by decide) (fun a1 w1 hB hsz hdf hn hd => ⟨_, rfl, fun K hK => ?_⟩) ?_
            · obtain ⟨v28, h28, rfl⟩ := hd 2 28 rfl (by kernel_rfl)
              have e28 := eval_of h28
              clear h28
              obtain ⟨v31, h31, rfl⟩ := hd 5 31 rfl (by kernel_rfl)
              have e31 := eval_of h31
              clear h31
              refine goes_ Try.func76 (by kernel_rfl) rfl #[.slice (if c = splitS l.length then A else A.map (·.add (splitS l.length * 3))) (l.length - splitS l.length) (c - splitS l.length), .int .i64 ((i - splitS l.length : Nat) : Int)] (by rfl) rfl rfl (by simp only [List.map_toArray, List.map_cons, List.map_nil, e28, e31]; rw [show ((i : Int) - (splitS l.length : Int)) = ((i - splitS l.length : Nat) : Int) from by omega]) ?_
              have hl1 : (l.drop (splitS l.length)).length = l.length - splitS l.length := by rw [List.length_drop]
              have hC := Kd.C_below (Kd.C_drop hr.out (m := splitS l.length) (by omega) hc.out) hB
              rw [hl1] at hC
              refine (ih (l.drop (splitS l.length)) _ _ _ (i - splitS l.length) w1 hl1.symm (by omega) (by omega) (by omega) hC (by have := hc.out; omega) (by omega) (fun e he => hv.out e (List.mem_of_mem_drop he)) (by omega)).mono ?_
              rintro e w2 ⟨v, rfl, hN, hbw⟩
              exact ⟨_, rfl, hK _ _ hbw (Nums.mono hN hB.size)⟩
            refine steps2_cons (by decide) (fun a1 w1 hB hsz hdf hn hd => ⟨_, rfl, fun K hK => ?_⟩) ?_
            · have e0 := eval_of ((hn 0 rfl).trans rfl)
              refine value_ (v := .slice A l.length c) (w1 := w1) rfl rfl ?_ (hK _ _ (Below.refl _ _) rfl)
              clear hd hn hK
              simp only [execOp, Option.map_some, Option.map_none, List.map_toArray, List.map_cons, List.map_nil, List.getElem_toArray, List.getElem_cons_zero, List.getElem_cons_succ, e0]
              clear e0
              go_simp
            refine steps2_cons (by decide) (fun a1 w1 hB hsz hdf hn hd => ⟨_, rfl, fun K hK => ?_⟩) ?_
            · have e5 := eval_of ((hn 5 rfl).trans rfl)
              refine value_ (v := .int .i64 (splitS l.length : Int)) (w1 := w1) rfl rfl ?_ (hK _ _ (Below.refl _ _) rfl)
              clear hd hn hK
              simp only [execOp, Option.map_some, Option.map_none, List.map_toArray, List.map_cons, List.map_nil, List.getElem_toArray, List.getElem_cons_zero, List.getElem_cons_succ, e5]
              clear e5
              go_simp
            refine steps2_cons (by decide) (fun a1 w1 hB hsz hdf hn hd => ⟨_, rfl, fun K hK => ?_⟩) ?_
            · obtain ⟨v33, h33, rfl⟩ := hd 7 33 rfl (by kernel_rfl)
              have e33 := eval_of h33
              clear h33
              obtain ⟨v34, h34, rfl⟩ := hd 8 34 rfl (by kernel_rfl)
              have e34 := eval_of h34
              clear h34
              refine value_ (v := .slice A (splitS l.length) c) (w1 := w1) rfl rfl ?_ (hK _ _ (Below.refl _ _) rfl)
              clear hd hn hK
              simp only [execOp, Option.map_some, Option.map_none, List.map_toArray, List.map_cons, List.map_nil, List.getElem_toArray, List.getElem_cons_zero, List.getElem_cons_succ, e33, e34]
              clear e33 e34
              have hq := cut_to 24 23 .i64 Try.underlying24 hi0 A l.length c (splitS l.length : Int) (by omega) (by omega) hc.out w1
              try simp only [Int.toNat_natCast] at hq
              clear hr hc hv ih hE hB
              go_simp
            refine steps2_cons (by decide) (fun a1 w1 hB hsz hdf hn hd => ⟨_, rfl, fun K hK => ?_⟩) ?_
            · obtain ⟨v35, h35, rfl⟩ := hd 9 35 rfl (by kernel_rfl)
              have e35 := eval_of h35
              clear h35
              refine goes_ Try.func69 (by kernel_rfl) rfl #[.slice A (splitS l.length) c] (by rfl) rfl rfl (by simp only [List.map_toArray, List.map_cons, List.map_nil, e35]) ?_
              have hl1 : (l.take (splitS l.length)).length = splitS l.length := by rw [List.length_take]; omega
              have hC := Kd.C_below (Kd.C_take hr.out (m := splitS l.length) (by omega)) hB
              rw [hl1] at hC
              refine (root_calls (l.take (splitS l.length)).length (l.take (splitS l.length)) _ _ _ w1 hl1.symm (by omega) hC (by have := hc.out; omega) (by omega) (fun e he => hv.out e (List.mem_of_mem_take he))).mono ?_
              rintro e w2 ⟨rfl, hbw⟩
              exact ⟨_, rfl, hK _ _ hbw rfl⟩
            refine steps2_cons (by decide) (fun a1 w1 hB hsz hdf hn hd => ⟨_, rfl, fun K hK => ?_⟩) ?_
            · obtain ⟨v36, h36, rfl⟩ := hd 10 36 rfl (by kernel_rfl)
              have e36 := eval_of h36
              clear h36
              refine value_ (v := .slice (some ⟨w1.heap.size, 0, none⟩) 1 1) (w1 := w1.alloc (.cells #[.int .u64 (rootS (l.take (splitS l.length)))] 25)) rfl rfl ?_ (hK _ _ (below_alloc (Below.refl _ _) _) ⟨_, rfl, by simp⟩)
              clear hd hn hK
              simp only [execOp, Option.map_some, Option.map_none, List.map_toArray, List.map_cons, List.map_nil, List.getElem_toArray, List.getElem_cons_zero, List.getElem_cons_succ, e36]
              clear e36
              go_simp
            refine steps2_late (by decide) (fun a1 w1 hB hsz hdf hn hd => ⟨_, rfl, fun K hK => ?_⟩) ?_
            · obtain ⟨v32, h32, q32⟩ := hd 6 32 rfl (by kernel_rfl)
              have hN : Nums w1 W.heap.size v32 (pathF f (l.drop (splitS l.length)) (i - splitS l.length)) := q32 (.inl rfl)
              obtain ⟨v37, h37, q37⟩ := hd 11 37 rfl (by kernel_rfl)
              obtain ⟨g, rfl, hcg⟩ := q37 (.inl rfl)
              refine append_ (y := rootS (l.take (splitS l.length))) rfl rfl rfl (eval_of h32) (eval_of h37) hN hcg (by have := pathF_len f (l.drop (splitS l.length)) (i - splitS l.length); omega) hB.size (fun vv w2 hN2 hg => hK _ _ ?_ (.inl rfl) hN2)
              exact grown_below hB hN (Nat.le_refl _) hB.size hg
            refine steps2_late (by decide) (fun a1 w1 hB hsz hdf hn hd => ⟨_, rfl, fun K hK => ?_⟩) ?_
            · obtain ⟨v38, h38, q38⟩ := hd 12 38 rfl (by kernel_rfl)
              have e38 := eval_of h38
              refine value_ (v := v38) (w1 := w1) rfl rfl ?_ (hK _ _ hB (.inr (Below.refl _ _)) (q38 (.inr (by decide))))
              clear hd hn hK
              simp only [execOp, List.getElem_toArray, List.getElem_cons_zero, List.getElem_cons_succ, e38]
              go_simp
            exact steps2_nil
          case stab => exact fun j v w w' => pathBRel_stable _ _ _ _ _ _ j v w w'
          case rend =>
            intro vals w1 hB hrr
            have hlast := hrr (13, 4) (by simp) (by decide)
            simp only [fill, Act.put, List.setIfInBounds_toArray, List.set_cons_zero, List.set_cons_succ]
            have hlast' : Nums w1 W.heap.size (vals 13) (pathF f (l.drop (splitS l.length)) (i - splitS l.length) ++ [rootS (l.take (splitS l.length))]) := hlast
            clear hlast hrr
            generalize vals 13 = vv at hlast' ⊢
            have HL := Aside0.mk hlast'
            clear hlast'
            go_wp2
            go_ret
            exact ⟨_, rfl, by rw [hE.out]; exact Nums.mono HL.out hbW.size, hbW.trans (hB.mono hbW.size)⟩
end Go.Proofs.Ytkedodmlbepfnaa.Lg

-- from the working text Climb
set_option linter.unusedSimpArgs false
set_option linter.unusedVariables false
namespace Go.Proofs.Ytkedodmlbepfnaa.Lg
open Go.RowKit Go.Proofs.YtkedodmlbepfnaaW.PrintWords Go.Proofs.YtkedodmlbepfnaaW.PrintLast Go.Proofs.YtkedodmlbepfnaaW.PrintMore Go.Proofs.Ytkedodmlbepfnaa.Rg
/-- What a path makes of a number. -/
def climbF : Nat → Int → Nat → Nat → List Int → Int × Bool
  | 0, x, _, _, _ => (x, false)
  | f + 1, x, n, i, p => if n = 1 then (x, p.length == 0) else if p.length = 0 then (x, false) else
    if i < splitS n then (nodeS (climbF f x (splitS n) i (p.take (p.length - 1))).1 (p.getD (p.length - 1) 0), (climbF f x (splitS n) i (p.take (p.length - 1))).2)
    else (nodeS (p.getD (p.length - 1) 0) (climbF f x (n - splitS n) (i - splitS n) (p.take (p.length - 1))).1, (climbF f x (n - splitS n) (i - splitS n) (p.take (p.length - 1))).2)
/-- The last number of a list that is read. -/
theorem last_cell {w : World} {A : Option Addr} {p : List Int} {m : Nat} (hr : Kd.C (Kd.int .u64) w A (m + 1) p) (hp : p.length = m + 1) : ∃ ad : Addr, A = some ad ∧ w.cell? (ad.add m) = some (.int .u64 (p.getD m 0)) := by
  obtain ⟨ad, e, h⟩ := Kd.at_int hr m (by omega) (by omega)
  exact ⟨ad, e, by simpa [rd] using h⟩
set_option maxHeartbeats 4000000 in
set_option maxRecDepth 100000 in
theorem climb_calls : ∀ (f : Nat) (x : Int) (n i : Nat) (p : List Int) (len : Nat) (A : Option Addr) (c : Nat) (w : World), len = p.length → len < f → 1 ≤ n → n ≤ 512 → i < n → Kd.C (Kd.int .u64) w A len p → len ≤ c → len ≤ 1000000 → 
    Calls Try.prog 78 #[.int .u64 x, .int .i64 (n : Int), .int .i64 (i : Int), .slice A len c] w fun e w' => e = .returned (.tuple #[.int .u64 (climbF f x n i p).1, .bool (climbF f x n i p).2]) ∧ Below w.heap.size w w' := by
  intro f
  induction f with
  | zero => intro x n i p len A c w hlen hf; omega
  | succ f ih0 =>
    intro x n i p len A c w hlen hf h1 h5 hin hr0 hc0 hl
    have hr := Aside0.mk hr0
    have hc := Aside0.mk hc0
    have ih := Aside0.mk ih0
    clear hr0 hc0 ih0
    by_cases n1 : n = 1
    · subst n1
      have hE := Aside0.mk (show climbF (f + 1) x 1 i p = (x, p.length == 0) by rw [climbF, if_pos rfl])
      have hL := Aside0.mk hlen
      clear hlen
      by_cases l0 : len = 0
      · subst l0
        go_enter Try.func78, Try.ntmps78
        go_wp2
        go_ret2
        exact ⟨by rw [hE.out, ← hL.out]; rfl, (by repeat (first | exact Below.refl _ _ | apply below_drew | apply pw_below_drewN))⟩
      · have l0b : ((len : Int) == 0) = false := by rw [beq_eq_false_iff_ne]; omega
        have hz := Aside0.mk (show (p.length == 0) = false by rw [beq_eq_false_iff_ne, ← hL.out]; omega)
        go_enter Try.func78, Try.ntmps78
        go_wp2
        go_ret2
        exact ⟨by rw [hE.out, hz.out]; rfl, (by repeat (first | exact Below.refl _ _ | apply below_drew | apply pw_below_drewN))⟩
    · have n1b : ((n : Int) == 1) = false := by rw [beq_eq_false_iff_ne]; omega
      by_cases l0 : len = 0
      · have hE := Aside0.mk (show climbF (f + 1) x n i p = (x, false) by rw [climbF, if_neg n1, if_pos (by omega)])
        have hL := Aside0.mk hlen
        clear hlen
        subst l0
        go_enter Try.func78, Try.ntmps78
        go_wp2
        go_ret2
        exact ⟨by rw [hE.out]; rfl, (by repeat (first | exact Below.refl _ _ | apply below_drew | apply pw_below_drewN))⟩
      · obtain ⟨m, rfl⟩ : ∃ m, len = m + 1 := ⟨len - 1, by omega⟩
        have h2 : 2 ≤ n := by omega
        have s1 := split_lt h2
        have s2 := split_pos n
        obtain ⟨ad, rfl, hx0⟩ := last_cell hr.out hlen.symm
        have hpl : p.length - 1 = m := by omega
        have hcm : m + 1 ≤ c := hc.out
        have hl1 := Aside0.mk (show m = (p.take m).length by rw [List.length_take]; omega)
        have hC := Aside0.mk (show Kd.C (Kd.int .u64) w (some ad) m (p.take m) by
          have h := Kd.C_take (m := m) (show Kd.C (Kd.int .u64) w (some ad) p.length p by rw [← hlen]; exact hr.out) (by omega)
          rw [show (p.take m).length = m by rw [List.length_take]; omega] at h
          exact h)
        have l0b : ((m : Int) + 1 == 0) = false := by rw [beq_eq_false_iff_ne]; omega
        by_cases hk : i < splitS n
        · have hE := Aside0.mk (show climbF (f + 1) x n i p = (nodeS (climbF f x (splitS n) i (p.take m)).1 (p.getD m 0), (climbF f x (splitS n) i (p.take m)).2) by rw [climbF, if_neg n1, if_neg (by omega), if_pos hk, hpl])
          have hkb : decide ((i : Int) < (splitS n : Int)) = true := by simp; omega
          have hkn : decide (i < splitS n) = true := by simp; omega
          clear n1 l0 hlen hpl
          have hx := Aside0.mk hx0
          clear hx0
          go_enter Try.func78, Try.ntmps78
          go_wp2_with (first | (go_at_call 117; (with_reducible refine (split_any n h2 h5 _).mono ?_); rintro e w' ⟨rfl, ⟨nd, rfl⟩⟩))
          have HC2 := Aside0.mk (Kd.C_drewN hC.out nd)
          refine (ih.out x (splitS n) i (p.take m) m _ c _ hl1.out (by omega) (by omega) (by omega) hk HC2.out (by omega) (by omega)).mono ?_
          rintro e w2 ⟨rfl, hb⟩
          have hbw : Below w.heap.size w w2 := below_step (pw_below_drewN (Below.refl _ _) nd) hb
          have hx2 : w2.cell? (ad.add m) = some (.int .u64 (p.getD m 0)) := pw_cell_below hbw hx.out
          have HB := Aside0.mk hbw
          clear hb hbw hr hC HC2 hl1 ih hc
          generalize hgen : climbF f x (splitS n) i (p.take m) = res at hE ⊢
          have hG := Aside0.mk hgen
          clear hgen
          go_wp2_with fail
          have hux2 := Aside0.mk (show True from trivial)
          refine (node_any _ _ _).mono ?_
          rintro e w3 ⟨rfl, hb3⟩
          have HB3 := Aside0.mk (below_step HB.out hb3)
          clear HB hx2 hb3
          go_wp2
          go_ret2
          exact ⟨by rw [hE.out]; rfl, HB3.out⟩
        · have hE := Aside0.mk (show climbF (f + 1) x n i p = (nodeS (p.getD m 0) (climbF f x (n - splitS n) (i - splitS n) (p.take m)).1, (climbF f x (n - splitS n) (i - splitS n) (p.take m)).2) by rw [climbF, if_neg n1, if_neg (by omega), if_neg hk, hpl])
          have hkb : decide ((i : Int) < (splitS n : Int)) = false := by simp; omega
          have hkn : decide (i < splitS n) = false := by simp; omega
          have hs1 : IntKind.i64.wrap ((n : Int) - (splitS n : Int)) = (n : Int) - (splitS n : Int) := by rw [i64_w]; unfold wrap64; omega
          have hs2 : IntKind.i64.wrap ((i : Int) - (splitS n : Int)) = (i : Int) - (splitS n : Int) := by rw [i64_w]; unfold wrap64; omega
          clear n1 l0 hlen hpl
          have hx := Aside0.mk hx0
          clear hx0
          go_enter Try.func78, Try.ntmps78
          go_wp2_with (first | (go_at_call 117; (with_reducible refine (split_any n h2 h5 _).mono ?_); rintro e w' ⟨rfl, ⟨nd, rfl⟩⟩))
          have HC2 := Aside0.mk (Kd.C_drewN hC.out nd)
          rw [show ((n : Int) - (splitS n : Int)) = ((n - splitS n : Nat) : Int) from by omega, show ((i : Int) - (splitS n : Int)) = ((i - splitS n : Nat) : Int) from by omega]
          refine (ih.out x (n - splitS n) (i - splitS n) (p.take m) m _ c _ hl1.out (by omega) (by omega) (by omega) (by omega) HC2.out (by omega) (by omega)).mono ?_
          rintro e w2 ⟨rfl, hb⟩
          have hbw : Below w.heap.size w w2 := below_step (pw_below_drewN (Below.refl _ _) nd) hb
          have hx2 : w2.cell? (ad.add m) = some (.int .u64 (p.getD m 0)) := pw_cell_below hbw hx.out
          have HB := Aside0.mk hbw
          clear hb hbw hr hC HC2 hl1 ih hc
          generalize hgen : climbF f x (n - splitS n) (i - splitS n) (p.take m) = res at hE ⊢
          have hG := Aside0.mk hgen
          clear hgen
          go_wp2_with fail
          have hux2 := Aside0.mk (show True from trivial)
          refine (node_any _ _ _).mono ?_
          rintro e w3 ⟨rfl, hb3⟩
          have HB3 := Aside0.mk (below_step HB.out hb3)
          clear HB hx2 hb3
          go_wp2
          go_ret2
          exact ⟨by rw [hE.out]; rfl, HB3.out⟩
end Go.Proofs.Ytkedodmlbepfnaa.Lg

-- from the working text Grow
set_option linter.unusedSimpArgs false
set_option linter.unusedVariables false
namespace Go.Proofs.Ytkedodmlbepfnaa.Lg
open Go.RowKit Go.Proofs.YtkedodmlbepfnaaW.PrintWords Go.Proofs.YtkedodmlbepfnaaW.PrintLast Go.Proofs.YtkedodmlbepfnaaW.PrintMore Go.Proofs.Ytkedodmlbepfnaa.Rg
/-- What a growth makes of a number. -/
def growF : Nat → Int → Nat → Nat → Bool → List Int → Int × Int × Bool
  | 0, _, _, _, _, _ => (0, 0, false)
  | f + 1, x, i, n, b, p => if i = n then (if b = true then (x, x, p.length == 0) else if p.length = 1 then (p.getD 0 0, p.getD 0 0, true) else (0, 0, false)) else if p.length = 0 then (0, 0, false) else
    if i ≤ splitS n then ((growF f x i (splitS n) b (p.take (p.length - 1))).1, nodeS (growF f x i (splitS n) b (p.take (p.length - 1))).2.1 (p.getD (p.length - 1) 0), (growF f x i (splitS n) b (p.take (p.length - 1))).2.2)
    else (nodeS (p.getD (p.length - 1) 0) (growF f x (i - splitS n) (n - splitS n) false (p.take (p.length - 1))).1, nodeS (p.getD (p.length - 1) 0) (growF f x (i - splitS n) (n - splitS n) false (p.take (p.length - 1))).2.1, (growF f x (i - splitS n) (n - splitS n) false (p.take (p.length - 1))).2.2)
def grow10Rel (m : Nat) (ad : Addr) (n c : Nat) (h : Int) : Nat → Value → World → Prop
  | 0, v, _ => v = .slice (some ad) (m + 1) c
  | 1, v, _ => v = .int .i64 (m : Int)
  | 2, v, _ => v = .pointer (some (ad.add m))
  | 3, v, _ => v = .int .u64 h
  | 4, v, _ => v = .int .i64 (n : Int)
  | 5, v, _ => v = .int .i64 (splitS n : Int)
  | 6, v, _ => v = .int .u64 h
  | 7, v, _ => v = .int .i64 (splitS n : Int)
  | _, _, _ => True
theorem grow10Rel_stable (m : Nat) (ad : Addr) (n c : Nat) (h : Int) (i : Nat) (v : Value) (w w' : World) (hh : grow10Rel m ad n c h i v w) (hb : Below w.heap.size w w') : grow10Rel m ad n c h i v w' := by
  revert hh
  unfold grow10Rel
  split <;> intro h <;> exact h
set_option maxHeartbeats 8000000 in
set_option maxRecDepth 100000 in
theorem grow_calls : ∀ (f : Nat) (x : Int) (i n : Nat) (b : Bool) (p : List Int) (len : Nat) (A : Option Addr) (c : Nat) (w : World), len = p.length → len < f → 1 ≤ i → i ≤ n → n ≤ 512 → Kd.C (Kd.int .u64) w A len p → len ≤ c → len ≤ 1000000 → 
    Calls Try.prog 82 #[.int .u64 x, .int .i64 (i : Int), .int .i64 (n : Int), .bool b, .slice A len c] w fun e w' => e = .returned (.tuple #[.int .u64 (growF f x i n b p).1, .int .u64 (growF f x i n b p).2.1, .bool (growF f x i n b p).2.2]) ∧ Below w.heap.size w w' := by
  intro f
  induction f with
  | zero => intro x i n b p len A c w hlen hf; omega
  | succ f ih0 =>
    intro x i n b p len A c w hlen hf h1 hin h5 hr0 hc0 hl
    have hr := Aside0.mk hr0
    have hc := Aside0.mk hc0
    have ih := Aside0.mk ih0
    clear hr0 hc0 ih0
    by_cases n1 : i = n
    · have n1b : ((i : Int) == (n : Int)) = true := by rw [beq_iff_eq]; omega
      cases b with
      | true =>
        have hE := Aside0.mk (show growF (f + 1) x i n true p = (x, x, p.length == 0) by rw [growF, if_pos n1, if_pos rfl])
        by_cases l0 : len = 0
        · have hz := Aside0.mk (show (p.length == 0) = true by rw [beq_iff_eq, ← hlen]; exact l0)
          subst l0
          clear hlen n1 hin
          go_enter Try.func82, Try.ntmps82
          go_wp2
          go_ret3
          exact ⟨by rw [hE.out, hz.out]; rfl, (by repeat (first | exact Below.refl _ _ | apply below_drew | apply pw_below_drewN))⟩
        · have l0b : ((len : Int) == 0) = false := by rw [beq_eq_false_iff_ne]; omega
          have l0c : decide ((len : Int) - 1 < 0) = false := by simp; omega
          have hz := Aside0.mk (show (p.length == 0) = false by rw [beq_eq_false_iff_ne, ← hlen]; omega)
          clear hlen n1 hin
          go_enter Try.func82, Try.ntmps82
          go_wp2
          go_ret3
          exact ⟨by rw [hE.out, hz.out]; rfl, (by repeat (first | exact Below.refl _ _ | apply below_drew | apply pw_below_drewN))⟩
      | false =>
        by_cases l1 : len = 1
        · have hE := Aside0.mk (show growF (f + 1) x i n false p = (p.getD 0 0, p.getD 0 0, true) by rw [growF, if_pos n1, if_neg (by simp), if_pos (by omega)])
          obtain ⟨ad, rfl, hx0⟩ := last_cell (m := 0) (show Kd.C (Kd.int .u64) w A (0 + 1) p by have h := hr.out; rw [l1] at h; exact h) (by omega)
          rw [Addr.add_zero'] at hx0
          subst l1
          clear hlen n1 hin
          go_enter Try.func82, Try.ntmps82
          go_wp2
          repeat (go_quiet (fail); try go_wp2)
          go_ret3
          exact ⟨by rw [hE.out]; rfl, (by repeat (first | exact Below.refl _ _ | apply below_drew | apply pw_below_drewN))⟩
        · have hE := Aside0.mk (show growF (f + 1) x i n false p = (0, 0, false) by rw [growF, if_pos n1, if_neg (by simp), if_neg (by omega)])
          by_cases l0 : len = 0
          · subst l0
            clear hlen n1 hin
            go_enter Try.func82, Try.ntmps82
            go_wp2
            go_ret3
            exact ⟨by rw [hE.out]; rfl, (by repeat (first | exact Below.refl _ _ | apply below_drew | apply pw_below_drewN))⟩
          · have l1b : ((len : Int) == 1) = false := by rw [beq_eq_false_iff_ne]; omega
            have l1c : ((len : Int) - 1 == 0) = false := by rw [beq_eq_false_iff_ne]; omega
            have l1d : ((len : Int) - 1 != 0) = true := by rw [bne_iff_ne]; omega
            have l1e : ((len : Int) != 1) = true := by rw [bne_iff_ne]; omega
            clear hlen n1 hin
            go_enter Try.func82, Try.ntmps82
            go_wp2
            go_ret3
            exact ⟨by rw [hE.out]; rfl, (by repeat (first | exact Below.refl _ _ | apply below_drew | apply pw_below_drewN))⟩
    · have n1b : ((i : Int) == (n : Int)) = false := by rw [beq_eq_false_iff_ne]; omega
      by_cases l0 : len = 0
      · have hE := Aside0.mk (show growF (f + 1) x i n b p = (0, 0, false) by rw [growF, if_neg n1, if_pos (by omega)])
        subst l0
        clear hlen n1 hin
        go_enter Try.func82, Try.ntmps82
        go_wp2
        go_ret3
        exact ⟨by rw [hE.out]; rfl, (by repeat (first | exact Below.refl _ _ | apply below_drew | apply pw_below_drewN))⟩
      · obtain ⟨m, rfl⟩ : ∃ m, len = m + 1 := ⟨len - 1, by omega⟩
        have h2 : 2 ≤ n := by omega
        have s1 := split_lt h2
        have s2 := split_pos n
        obtain ⟨ad, rfl, hx0⟩ := last_cell hr.out hlen.symm
        have hpl : p.length - 1 = m := by omega
        have hcm : m + 1 ≤ c := hc.out
        have hl1 := Aside0.mk (show m = (p.take m).length by rw [List.length_take]; omega)
        have hC := Aside0.mk (show Kd.C (Kd.int .u64) w (some ad) m (p.take m) by
          have h := Kd.C_take (m := m) (show Kd.C (Kd.int .u64) w (some ad) p.length p by rw [← hlen]; exact hr.out) (by omega)
          rw [show (p.take m).length = m by rw [List.length_take]; omega] at h
          exact h)
        have l0b : ((m : Int) + 1 == 0) = false := by rw [beq_eq_false_iff_ne]; omega
        have l0d : decide ((m : Int) < 0) = false := by simp
        by_cases hk : i ≤ splitS n
        · have hE := Aside0.mk (show growF (f + 1) x i n b p = ((growF f x i (splitS n) b (p.take m)).1, nodeS (growF f x i (splitS n) b (p.take m)).2.1 (p.getD m 0), (growF f x i (splitS n) b (p.take m)).2.2) by rw [growF, if_neg n1, if_neg (by omega), if_pos hk, hpl])
          have hkb : decide ((i : Int) ≤ (splitS n : Int)) = true := by simp; omega
          have hkn : decide (i ≤ splitS n) = true := by simp; omega
          clear n1 l0 hlen hpl
          have hx := Aside0.mk hx0
          clear hx0
          go_enter Try.func82, Try.ntmps82
          go_wp2
          refine rg_ [0, 1, 2, 3, 4, 5, 6, 7] [(0, 43), (1, 44), (2, 45), (3, 46), (4, 47), (5, 48), (6, 14), (7, 15)] (bitsOf (rtab .any (opsOf Try.f82 10)).2) (grow10Rel m ad n c (p.getD m 0)) (by kernel_rfl) rfl (by kernel_rfl) rfl (by kernel_rfl) ?stab ?steps ?rend
          case steps =>
            refine steps_cons (fun a1 w1 hB hsz hdf hn hd => ⟨_, rfl, fun K hK => ?_⟩) ?_
            · have e4 := eval_of ((hn 4 rfl).trans rfl)
              have hbW2 := hB
              clear hbW2
              refine value_ (v := .slice (some ad) (m + 1) c) (w1 := w1) rfl rfl ?_ (hK _ _ (Below.refl _ _) rfl)
              clear hd hn hK
              simp only [execOp, Option.map_some, Option.map_none, List.map_toArray, List.map_cons, List.map_nil, List.getElem_toArray, List.getElem_cons_zero, List.getElem_cons_succ, e4]
              clear e4
              clear hr hc ih hE hB hC hl1 hx
              go_simp
            refine steps_cons (fun a1 w1 hB hsz hdf hn hd => ⟨_, rfl, fun K hK => ?_⟩) ?_
            · have e13 := eval_of ((hn 13 rfl).trans rfl)
              have hbW2 := hB
              clear hbW2
              refine value_ (v := .int .i64 (m : Int)) (w1 := w1) rfl rfl ?_ (hK _ _ (Below.refl _ _) rfl)
              clear hd hn hK
              simp only [execOp, Option.map_some, Option.map_none, List.map_toArray, List.map_cons, List.map_nil, List.getElem_toArray, List.getElem_cons_zero, List.getElem_cons_succ, e13]
              clear e13
              clear hr hc ih hE hB hC hl1 hx
              go_simp
            refine steps_cons (fun a1 w1 hB hsz hdf hn hd => ⟨_, rfl, fun K hK => ?_⟩) ?_
            · obtain ⟨v43, h43, rfl⟩ := hd 0 43 rfl (by kernel_rfl)
              have e43 := eval_of h43
              clear h43
              obtain ⟨v44, h44, rfl⟩ := hd 1 44 rfl (by kernel_rfl)
              have e44 := eval_of h44
              clear h44
              have hbW2 := hB
              clear hbW2
              refine value_ (v := .pointer (some (ad.add m))) (w1 := w1) rfl rfl ?_ (hK _ _ (Below.refl _ _) rfl)
              clear hd hn hK
              simp only [execOp, Option.map_some, Option.map_none, List.map_toArray, List.map_cons, List.map_nil, List.getElem_toArray, List.getElem_cons_zero, List.getElem_cons_succ, e43, e44]
              clear e43 e44
              clear hr hc ih hE hB hC hl1 hx
              go_simp
              intro habs
              omega
            refine steps_cons (fun a1 w1 hB hsz hdf hn hd => ⟨_, rfl, fun K hK => ?_⟩) ?_
            · obtain ⟨v45, h45, rfl⟩ := hd 2 45 rfl (by kernel_rfl)
              have e45 := eval_of h45
              clear h45
              have hbW2 := hB
              have c1 : w1.cell? (ad.add m) = some (.int .u64 (p.getD m 0)) := pw_cell_below hbW2 hx.out
              clear hbW2
              refine value_ (v := .int .u64 (p.getD m 0)) (w1 := w1) rfl rfl ?_ (hK _ _ (Below.refl _ _) rfl)
              clear hd hn hK
              simp only [execOp, Option.map_some, Option.map_none, List.map_toArray, List.map_cons, List.map_nil, List.getElem_toArray, List.getElem_cons_zero, List.getElem_cons_succ, e45]
              clear e45
              clear hr hc ih hE hB hC hl1 hx
              go_simp
            refine steps_cons (fun a1 w1 hB hsz hdf hn hd => ⟨_, rfl, fun K hK => ?_⟩) ?_
            · have e2 := eval_of ((hn 2 rfl).trans rfl)
              have hbW2 := hB
              clear hbW2
              refine value_ (v := .int .i64 (n : Int)) (w1 := w1) rfl rfl ?_ (hK _ _ (Below.refl _ _) rfl)
              clear hd hn hK
              simp only [execOp, Option.map_some, Option.map_none, List.map_toArray, List.map_cons, List.map_nil, List.getElem_toArray, List.getElem_cons_zero, List.getElem_cons_succ, e2]
              clear e2
              clear hr hc ih hE hB hC hl1 hx
              go_simp
            refine steps_cons (fun a1 w1 hB hsz hdf hn hd => ⟨_, rfl, fun K hK => ?_⟩) ?_
            · obtain ⟨v47, h47, rfl⟩ := hd 4 47 rfl (by kernel_rfl)
              have e47 := eval_of h47
              clear h47
              refine goes_ Try.func117 (by kernel_rfl) rfl #[.int .i64 (n : Int)] (by rfl) rfl rfl (by simp only [List.map_toArray, List.map_cons, List.map_nil, e47]) ?_
              refine (split_any n h2 h5 w1).mono ?_
              rintro e w2 ⟨rfl, hdr⟩
              exact ⟨_, rfl, hK _ _ hdr.below rfl⟩
            refine steps_cons (fun a1 w1 hB hsz hdf hn hd => ⟨_, rfl, fun K hK => ?_⟩) ?_
            · obtain ⟨v46, h46, rfl⟩ := hd 3 46 rfl (by kernel_rfl)
              have e46 := eval_of h46
              clear h46
              have hbW2 := hB
              clear hbW2
              refine value_ (v := .int .u64 (p.getD m 0)) (w1 := w1) rfl rfl ?_ (hK _ _ (Below.refl _ _) rfl)
              clear hd hn hK
              simp only [execOp, Option.map_some, Option.map_none, List.map_toArray, List.map_cons, List.map_nil, List.getElem_toArray, List.getElem_cons_zero, List.getElem_cons_succ, e46]
              clear e46
              clear hr hc ih hE hB hC hl1 hx
              go_simp
            refine steps_cons (fun a1 w1 hB hsz hdf hn hd => ⟨_, rfl, fun K hK => ?_⟩) ?_
            · obtain ⟨v48, h48, rfl⟩ := hd 5 48 rfl (by kernel_rfl)
              have e48 := eval_of h48
              clear h48
              have hbW2 := hB
              clear hbW2
              refine value_ (v := .int .i64 (splitS n : Int)) (w1 := w1) rfl rfl ?_ (hK _ _ (Below.refl _ _) rfl)
              clear hd hn hK
              simp only [execOp, Option.map_some, Option.map_none, List.map_toArray, List.map_cons, List.map_nil, List.getElem_toArray, List.getElem_cons_zero, List.getElem_cons_succ, e48]
              clear e48
              clear hr hc ih hE hB hC hl1 hx
              go_simp
            exact steps_nil
          case stab => exact fun i v w w' => grow10Rel_stable _ _ _ _ _ i v w w'
          case rend =>
            intro vals w2 hB hrr
            have hq1 := hrr (6, 14) (by simp)
            have hq2 := hrr (7, 15) (by simp)
            have hq1' : vals 6 = .int .u64 (p.getD m 0) := hq1
            have hq2' : vals 7 = .int .i64 (splitS n : Int) := hq2
            clear hq1 hq2 hrr
            simp only [fill, Act.put, List.setIfInBounds_toArray, List.set_cons_zero, List.set_cons_succ]
            rw [hq1', hq2']
            clear hq1' hq2'
            have HB0 := Aside0.mk hB
            clear hB
            go_wp2_with fail
            have HC2 := Aside0.mk (Kd.C_below hC.out HB0.out)
            refine (ih.out x i (splitS n) b (p.take m) m _ c _ hl1.out (by omega) (by omega) (by omega) (by omega) HC2.out (by omega) (by omega)).mono ?_
            rintro e w2 ⟨rfl, hb⟩
            have hbw : Below w.heap.size w w2 := below_step HB0.out hb
            generalize growF f x i (splitS n) b (p.take m) = res at hE ⊢
            have HB := Aside0.mk hbw
            clear hb hbw hr hc HC2 hl1 ih hC
            go_wp2_with fail
            refine (node_any _ _ _).mono ?_
            rintro e w3 ⟨rfl, hb3⟩
            have HB3 := Aside0.mk (below_step HB.out hb3)
            clear hb3
            clear HB
            go_wp2
            go_ret3
            exact ⟨by rw [hE.out]; rfl, HB3.out⟩
        · have hE := Aside0.mk (show growF (f + 1) x i n b p = (nodeS (p.getD m 0) (growF f x (i - splitS n) (n - splitS n) false (p.take m)).1, nodeS (p.getD m 0) (growF f x (i - splitS n) (n - splitS n) false (p.take m)).2.1, (growF f x (i - splitS n) (n - splitS n) false (p.take m)).2.2) by rw [growF, if_neg n1, if_neg (by omega), if_neg hk, hpl])
          have hkb : decide ((i : Int) ≤ (splitS n : Int)) = false := by simp; omega
          have hkn : decide (i ≤ splitS n) = false := by simp; omega
          have hs1 : IntKind.i64.wrap ((n : Int) - (splitS n : Int)) = (n : Int) - (splitS n : Int) := by rw [i64_w]; unfold wrap64; omega
          have hs2 : IntKind.i64.wrap ((i : Int) - (splitS n : Int)) = (i : Int) - (splitS n : Int) := by rw [i64_w]; unfold wrap64; omega
          clear n1 l0 hlen hpl
          have hx := Aside0.mk hx0
          clear hx0
          go_enter Try.func82, Try.ntmps82
          go_wp2
          refine rg_ [0, 1, 2, 3, 4, 5, 6, 7] [(0, 43), (1, 44), (2, 45), (3, 46), (4, 47), (5, 48), (6, 14), (7, 15)] (bitsOf (rtab .any (opsOf Try.f82 10)).2) (grow10Rel m ad n c (p.getD m 0)) (by kernel_rfl) rfl (by kernel_rfl) rfl (by kernel_rfl) ?stab ?steps ?rend
          case steps =>
            refine steps_cons (fun a1 w1 hB hsz hdf hn hd => ⟨_, rfl, fun K hK => ?_⟩) ?_
            · have e4 := eval_of ((hn 4 rfl).trans rfl)
              have hbW2 := hB
              clear hbW2
              refine value_ (v := .slice (some ad) (m + 1) c) (w1 := w1) rfl rfl ?_ (hK _ _ (Below.refl _ _) rfl)
              clear hd hn hK
              simp only [execOp, Option.map_some, Option.map_none, List.map_toArray, List.map_cons, List.map_nil, List.getElem_toArray, List.getElem_cons_zero, List.getElem_cons_succ, e4]
              clear e4
              clear hr hc ih hE hB hC hl1 hx
              go_simp
            refine steps_cons (fun a1 w1 hB hsz hdf hn hd => ⟨_, rfl, fun K hK => ?_⟩) ?_
            · have e13 := eval_of ((hn 13 rfl).trans rfl)
              have hbW2 := hB
              clear hbW2
              refine value_ (v := .int .i64 (m : Int)) (w1 := w1) rfl rfl ?_ (hK _ _ (Below.refl _ _) rfl)
              clear hd hn hK
              simp only [execOp, Option.map_some, Option.map_none, List.map_toArray, List.map_cons, List.map_nil, List.getElem_toArray, List.getElem_cons_zero, List.getElem_cons_succ, e13]
              clear e13
              clear hr hc ih hE hB hC hl1 hx
              go_simp
            refine steps_cons (fun a1 w1 hB hsz hdf hn hd => ⟨_, rfl, fun K hK => ?_⟩) ?_
            · obtain ⟨v43, h43, rfl⟩ := hd 0 43 rfl (by kernel_rfl)
              have e43 := eval_of h43
              clear h43
              obtain ⟨v44, h44, rfl⟩ := hd 1 44 rfl (by kernel_rfl)
              have e44 := eval_of h44
              clear h44
              have hbW2 := hB
              clear hbW2
              refine value_ (v := .pointer (some (ad.add m))) (w1 := w1) rfl rfl ?_ (hK _ _ (Below.refl _ _) rfl)
              clear hd hn hK
              simp only [execOp, Option.map_some, Option.map_none, List.map_toArray, List.map_cons, List.map_nil, List.getElem_toArray, List.getElem_cons_zero, List.getElem_cons_succ, e43, e44]
              clear e43 e44
              clear hr hc ih hE hB hC hl1 hx
              go_simp
              intro habs
              omega
            refine steps_cons (fun a1 w1 hB hsz hdf hn hd => ⟨_, rfl, fun K hK => ?_⟩) ?_
            · obtain ⟨v45, h45, rfl⟩ := hd 2 45 rfl (by kernel_rfl)
              have e45 := eval_of h45
              clear h45
              have hbW2 := hB
              have c1 : w1.cell? (ad.add m) = some (.int .u64 (p.getD m 0)) := pw_cell_below hbW2 hx.out
              clear hbW2
              refine value_ (v := .int .u64 (p.getD m 0)) (w1 := w1) rfl rfl ?_ (hK _ _ (Below.refl _ _) rfl)
              clear hd hn hK
              simp only [execOp, Option.map_some, Option.map_none, List.map_toArray, List.map_cons, List.map_nil, List.getElem_toArray, List.getElem_cons_zero, List.getElem_cons_succ, e45]
              clear e45
              clear hr hc ih hE hB hC hl1 hx
              go_simp
            refine steps_cons (fun a1 w1 hB hsz hdf hn hd => ⟨_, rfl, fun K hK => ?_⟩) ?_
            · have e2 := eval_of ((hn 2 rfl).trans rfl)
              have hbW2 := hB
              clear hbW2
              refine value_ (v := .int .i64 (n : Int)) (w1 := w1) rfl rfl ?_ (hK _ _ (Below.refl _ _) rfl)
              clear hd hn hK
              simp only [execOp, Option.map_some, Option.map_none, List.map_toArray, List.map_cons, List.map_nil, List.getElem_toArray, List.getElem_cons_zero, List.getElem_cons_succ, e2]
              clear e2
              clear hr hc ih hE hB hC hl1 hx
              go_simp
            refine steps_cons (fun a1 w1 hB hsz hdf hn hd => ⟨_, rfl, fun K hK => ?_⟩) ?_
            · obtain ⟨v47, h47, rfl⟩ := hd 4 47 rfl (by kernel_rfl)
              have e47 := eval_of h47
              clear h47
              refine goes_ Try.func117 (by kernel_rfl) rfl #[.int .i64 (n : Int)] (by rfl) rfl rfl (by simp only [List.map_toArray, List.map_cons, List.map_nil, e47]) ?_
              refine (split_any n h2 h5 w1).mono ?_
              rintro e w2 ⟨rfl, hdr⟩
              exact ⟨_, rfl, hK _ _ hdr.below rfl⟩
            refine steps_cons (fun a1 w1 hB hsz hdf hn hd => ⟨_, rfl, fun K hK => ?_⟩) ?_
            · obtain ⟨v46, h46, rfl⟩ := hd 3 46 rfl (by kernel_rfl)
              have e46 := eval_of h46
              clear h46
              have hbW2 := hB
              clear hbW2
              refine value_ (v := .int .u64 (p.getD m 0)) (w1 := w1) rfl rfl ?_ (hK _ _ (Below.refl _ _) rfl)
              clear hd hn hK
              simp only [execOp, Option.map_some, Option.map_none, List.map_toArray, List.map_cons, List.map_nil, List.getElem_toArray, List.getElem_cons_zero, List.getElem_cons_succ, e46]
              clear e46
              clear hr hc ih hE hB hC hl1 hx
              go_simp
            refine steps_cons (fun a1 w1 hB hsz hdf hn hd => ⟨_, rfl, fun K hK => ?_⟩) ?_
            · obtain ⟨v48, h48, rfl⟩ := hd 5 48 rfl (by kernel_rfl)
              have e48 := eval_of h48
              clear h48
              have hbW2 := hB
              clear hbW2
              refine value_ (v := .int .i64 (splitS n : Int)) (w1 := w1) rfl rfl ?_ (hK _ _ (Below.refl _ _) rfl)
              clear hd hn hK
              simp only [execOp, Option.map_some, Option.map_none, List.map_toArray, List.map_cons, List.map_nil, List.getElem_toArray, List.getElem_cons_zero, List.getElem_cons_succ, e48]
              clear e48
              clear hr hc ih hE hB hC hl1 hx
              go_simp
            exact steps_nil
          case stab => exact fun i v w w' => grow10Rel_stable _ _ _ _ _ i v w w'
          case rend =>
            intro vals w2 hB hrr
            have hq1 := hrr (6, 14) (by simp)
            have hq2 := hrr (7, 15) (by simp)
            have hq1' : vals 6 = .int .u64 (p.getD m 0) := hq1
            have hq2' : vals 7 = .int .i64 (splitS n : Int) := hq2
            clear hq1 hq2 hrr
            simp only [fill, Act.put, List.setIfInBounds_toArray, List.set_cons_zero, List.set_cons_succ]
            rw [hq1', hq2']
            clear hq1' hq2'
            have HB0 := Aside0.mk hB
            clear hB
            go_wp2_with fail
            have HC2 := Aside0.mk (Kd.C_below hC.out HB0.out)
            rw [show ((n : Int) - (splitS n : Int)) = ((n - splitS n : Nat) : Int) from by omega, show ((i : Int) - (splitS n : Int)) = ((i - splitS n : Nat) : Int) from by omega]
            refine (ih.out x (i - splitS n) (n - splitS n) false (p.take m) m _ c _ hl1.out (by omega) (by omega) (by omega) (by omega) HC2.out (by omega) (by omega)).mono ?_
            rintro e w2 ⟨rfl, hb⟩
            have hbw : Below w.heap.size w w2 := below_step HB0.out hb
            generalize growF f x (i - splitS n) (n - splitS n) false (p.take m) = res at hE ⊢
            have HB := Aside0.mk hbw
            clear hb hbw hr hc HC2 hl1 ih hC
            go_wp2_with fail
            refine (node_any _ _ _).mono ?_
            rintro e w3 ⟨rfl, hb3⟩
            have HB3 := Aside0.mk (below_step HB.out hb3)
            clear hb3 HB
            go_wp2_with fail
            refine (node_any _ _ _).mono ?_
            rintro e w4 ⟨rfl, hb4⟩
            have HB4 := Aside0.mk (below_step HB3.out hb4)
            clear hb4 HB3
            go_wp2
            go_ret3
            exact ⟨by rw [hE.out]; rfl, HB4.out⟩
end Go.Proofs.Ytkedodmlbepfnaa.Lg

-- from the working text Dk
set_option linter.unusedSimpArgs false
set_option linter.unusedVariables false
namespace Go.Proofs.Ytkedodmlbepfnaa.Lg
open Go.RowKit Go.Proofs.YtkedodmlbepfnaaW.PrintWords Go.Proofs.YtkedodmlbepfnaaW.PrintLast Go.Proofs.YtkedodmlbepfnaaW.PrintMore Go.Proofs.Ytkedodmlbepfnaa.Rg
/-- Nothing but the blocks of S is changed; new blocks may come. -/
structure Kp (S : Nat → Prop) (w w' : World) : Prop where
  os : w'.os = w.os
  tape : w'.tape = w.tape
  output : w'.output = w.output
  size : w.heap.size ≤ w'.heap.size
  block : ∀ k, k < w.heap.size → ¬ S k → w'.heap[k]? = w.heap[k]?
/-- S, and all that is newer than w. -/
def Nw (S : Nat → Prop) (w : World) : Nat → Prop := fun k => S k ∨ w.heap.size ≤ k
section
variable {S S' : Nat → Prop} {w w1 w2 W : World} {B g : Nat}
theorem Kp.refl (S : Nat → Prop) (w : World) : Kp S w w := ⟨rfl, rfl, rfl, Nat.le_refl _, fun _ _ _ => rfl⟩
theorem Kp.trans (h : Kp S w w1) (k : Kp (Nw S w) w1 w2) : Kp S w w2 :=
  ⟨k.os.trans h.os, k.tape.trans h.tape, k.output.trans h.output, Nat.le_trans h.size k.size, fun i hi hn => (k.block i (Nat.lt_of_lt_of_le hi h.size) (fun hk => hk.elim hn (fun hk => by omega))).trans (h.block i hi hn)⟩
theorem Kp.mono (h : Kp S w w1) (hs : ∀ k, S k → S' k) : Kp S' w w1 := ⟨h.os, h.tape, h.output, h.size, fun i hi hn => h.block i hi (fun hk => hn (hs i hk))⟩
theorem Kp.of_below (S : Nat → Prop) (h : Below w.heap.size w w1) : Kp S w w1 := ⟨h.os, h.tape, h.output, h.size, fun i hi _ => h.block i hi⟩
theorem Kp.below (h : Kp S w w1) (k : Below w1.heap.size w1 w2) : Kp S w w2 := h.trans (Kp.of_below _ k)
theorem Kp.to_below (h : Kp S w w1) (hs : ∀ k, S k → B ≤ k) (hB : B ≤ w.heap.size) : Below B w w1 := ⟨h.os, h.tape, h.output, h.size, fun k hk => h.block k (by omega) (fun hS => by have := hs k hS; omega)⟩
theorem Kp.of_grown {row : Option Nat} (h : Kp S w w1) (hg : w1.grownBy w2 row) (hr : ∀ k, row = some k → Nw S w k) : Kp S w w2 :=
  h.trans ⟨hg.os, hg.tape, hg.output, hg.size, fun i hi hn => hg.block i hi (fun e => hn (hr i e.symm))⟩
theorem Kp.setRow (h : Kp S w w1) {g : Nat} (hp : Nw S w g) (cs : Array Value) : Kp S w (w1.setRow g cs) :=
  ⟨h.os, h.tape, h.output, by simpa [World.setRow] using h.size, fun i hi hn => (setRow_other w1 g i cs (fun e => hp.elim (fun hk => hn (e ▸ hk)) (fun hk => by omega))).trans (h.block i hi hn)⟩
theorem Kp.setCell (h : Kp S w w1) {p : Addr} (hp : Nw S w p.block) (u : Value) : Kp S w (w1.setCell p u) :=
  ⟨h.os, h.tape, h.output, by simpa using h.size, fun i hi hn => (Below.heap_setCell w1 p u i (fun e => hp.elim (fun hk => hn (e ▸ hk)) (fun hk => by omega))).trans (h.block i hi hn)⟩
/-- A row of the object's own. -/
def Own (w : World) (S : Nat → Prop) (e : TypeId) (size : Nat) (v : Value) (n : Nat) (xs : List Value) : Prop := w.ownsRow 0 e size v n xs ∧ ∀ k, v.ownBlock = some k → S k
theorem Own.kp {e : TypeId} {size n : Nat} {v : Value} {xs : List Value} (h : Own w S e size v n xs) (hk : Kp S' w w1) (hd : ∀ k, S k → k < w.heap.size → ¬ S' k) : Own w1 S e size v n xs := by
  refine ⟨⟨h.1.1, ?_⟩, h.2⟩
  rcases h.1.2 with h2 | ⟨g, cap, cur, hv, hb, hh, r⟩
  · exact .inl h2
  · refine .inr ⟨g, cap, cur, hv, hb, (hk.block g (blk_lt hh) (hd g (h.2 g (by rw [hv]; rfl)) (blk_lt hh))).trans hh, r⟩
theorem Own.mono {e : TypeId} {size n : Nat} {v : Value} {xs : List Value} (h : Own w S e size v n xs) (hs : ∀ k, S k → S' k) : Own w S' e size v n xs := ⟨h.1, fun k hk => hs k (h.2 k hk)⟩
/-- A change of one block that is another. -/
theorem Own.setCell {e : TypeId} {size n : Nat} {v : Value} {xs : List Value} (h : Own w S e size v n xs) {p : Addr} (hp : v.ownBlock ≠ some p.block) (u : Value) : Own (w.setCell p u) S e size v n xs := by
  refine ⟨⟨h.1.1, ?_⟩, h.2⟩
  rcases h.1.2 with h2 | ⟨g, cap, cur, hv, hb, hh, r⟩
  · exact .inl h2
  · refine .inr ⟨g, cap, cur, hv, hb, (Below.heap_setCell w p u g (fun e' => hp (by rw [hv]; simp [Value.ownBlock, e']))).trans hh, r⟩
theorem Own.type_ne {e t : TypeId} {size n : Nat} {v : Value} {xs : List Value} {cs : Array Value} (h : Own w S e size v n xs) (hb : w.heap[g]? = some (.cells cs t (0, 0))) (hne : e ≠ t) : v.ownBlock ≠ some g := by
  intro hv
  obtain ⟨cells, hc⟩ := own_typed h.1 g hv
  rw [hb] at hc
  injection hc with hc
  injection hc with _ hc _
  exact hne hc.symm
def Sect (s : List Int) : Prop := s.length = 64 ∧ ∀ x ∈ s, 0 ≤ x ∧ x < 256
/-- What a disk is. -/
structure DS where
  safe : List (List Int)
  now : List (List Int)
  wr : List (Int × List Int)
  armed : Int
  down : Bool
  falls : Int
structure DS.Ok (d : DS) : Prop where
  len : d.safe.length = d.now.length
  pos : 1 ≤ d.now.length
  lim : d.now.length ≤ 4096
  safe : ∀ s ∈ d.safe, Sect s
  now : ∀ s ∈ d.now, Sect s
  wr : ∀ x ∈ d.wr, 0 ≤ x.1 ∧ x.1 < d.now.length ∧ Sect x.2
  armed0 : 0 ≤ d.armed
  armed1 : d.armed ≤ 9223372036854775807
  falls0 : 0 ≤ d.falls
def flat (ss : List (List Int)) : List Value := nums .u8 ss.flatten
def wflat (ws : List (Int × List Int)) : List Value := (ws.map fun x => Value.int .i64 x.1 :: nums .u8 x.2).flatten
/-- A disk in memory: its block, and its rows. -/
def DiskAt (w : World) (S : Nat → Prop) (g : Nat) (d : DS) (vs vn vw : Value) : Prop :=
  d.Ok ∧ S g ∧ w.heap[g]? = some (.cells #[vs, vn, vw, .int .i64 d.armed, .bool d.down, .int .i64 d.falls] 115 (0, 0)) ∧
  Own w S 122 64 vs d.safe.length (flat d.safe) ∧ Own w S 122 64 vn d.now.length (flat d.now) ∧ Own w S 124 65 vw d.wr.length (wflat d.wr) ∧ (vs.ownBlock = none ∨ vs.ownBlock ≠ vn.ownBlock)
theorem DiskAt.kp {d : DS} {vs vn vw : Value} (h : DiskAt w S g d vs vn vw) (hk : Kp S' w w1) (hd : ∀ k, S k → k < w.heap.size → ¬ S' k) : DiskAt w1 S g d vs vn vw := by
  obtain ⟨h1, h2, h3, h4, h5, h6, h7⟩ := h
  exact ⟨h1, h2, (hk.block g (blk_lt h3) (hd g h2 (blk_lt h3))).trans h3, h4.kp hk hd, h5.kp hk hd, h6.kp hk hd, h7⟩
theorem DiskAt.below {d : DS} {vs vn vw : Value} (h : DiskAt w S g d vs vn vw) (hb : Below w.heap.size w w1) : DiskAt w1 S g d vs vn vw := h.kp (S' := fun _ => False) (Kp.of_below _ hb) (fun _ _ _ h => h)
theorem DiskAt.mono {d : DS} {vs vn vw : Value} (h : DiskAt w S g d vs vn vw) (hs : ∀ k, S k → S' k) : DiskAt w S' g d vs vn vw := by
  obtain ⟨h1, h2, h3, h4, h5, h6, h7⟩ := h
  exact ⟨h1, hs g h2, h3, h4.mono hs, h5.mono hs, h6.mono hs, h7⟩
/-- A field of the block is changed. -/
theorem DiskAt.set {d d' : DS} {vs vn vw u : Value} {i : Nat} (h : DiskAt w S g d vs vn vw) (hok : d'.Ok)
    (hc : (#[vs, vn, vw, .int .i64 d.armed, .bool d.down, .int .i64 d.falls] : Array Value).setIfInBounds i u = #[vs, vn, vw, .int .i64 d'.armed, .bool d'.down, .int .i64 d'.falls])
    (h1 : d'.safe = d.safe) (h2 : d'.now = d.now) (h3 : d'.wr = d.wr) : DiskAt (w.setCell ⟨g, i, none⟩ u) S g d' vs vn vw := by
  obtain ⟨k1, k2, k3, k4, k5, k6, k7⟩ := h
  refine ⟨hok, k2, by rw [blk_set k3, hc], ?_, ?_, ?_, k7⟩
  · rw [h1]; exact k4.setCell (k4.type_ne k3 (by decide)) u
  · rw [h2]; exact k5.setCell (k5.type_ne k3 (by decide)) u
  · rw [h3]; exact k6.setCell (k6.type_ne k3 (by decide)) u
end
/-- The power goes off. -/
def DS.off (d : DS) : DS := { d with down := true, falls := d.falls + 1 }
theorem DS.Ok.off {d : DS} (h : d.Ok) : d.off.Ok := ⟨h.len, h.pos, h.lim, h.safe, h.now, h.wr, h.armed0, h.armed1, by have := h.falls0; show 0 ≤ d.falls + 1; omega⟩
set_option maxHeartbeats 4000000 in
set_option maxRecDepth 100000 in
theorem off_calls (w : World) (S : Nat → Prop) (g : Nat) (d : DS) (vs vn vw : Value) (h0 : DiskAt w S g d vs vn vw) (hf : d.falls ≤ 1000000) :
    Calls Try.prog 89 #[.pointer (some ⟨g, 0, none⟩)] w fun e w' => e = .returned (.tuple #[]) ∧ DiskAt w' S g d.off vs vn vw ∧ Kp S w w' := by
  have H := Aside0.mk h0
  have hf0 := h0.1.falls0
  have hb := h0.2.2.1
  have c5 : w.cell? ⟨g, 5, none⟩ = some (.int .i64 d.falls) := (blk_cell hb 5).trans rfl
  have c4 : w.cell? ⟨g, 4, none⟩ = some (.bool d.down) := (blk_cell hb 4).trans rfl
  have f5 := blk_frozen hb 5
  have f4 := blk_frozen hb 4
  clear h0 hb
  go_enter Try.func89, Try.ntmps89
  go_wp2
  go_end0
  have h1 : DiskAt (w.setCell ⟨g, 4, none⟩ (.bool true)) S g { d with down := true } vs vn vw := H.out.set ⟨H.out.1.len, H.out.1.pos, H.out.1.lim, H.out.1.safe, H.out.1.now, H.out.1.wr, H.out.1.armed0, H.out.1.armed1, H.out.1.falls0⟩ rfl rfl rfl rfl
  exact ⟨rfl, h1.set H.out.1.off rfl rfl rfl rfl, ((Kp.refl S w).setCell (.inl H.out.2.1) _).setCell (.inl H.out.2.1) _⟩
/-- A call is counted. -/
def DS.fails (d : DS) : Bool × DS := if d.armed = 0 then (false, d) else if 1 < d.armed then (false, { d with armed := d.armed - 1 }) else (true, { d with armed := 0, down := true, falls := d.falls + 1 })
theorem DS.Ok.arm {d : DS} (h : d.Ok) {n : Int} (h0 : 0 ≤ n) (h1 : n ≤ 9223372036854775807) : ({ d with armed := n } : DS).Ok := ⟨h.len, h.pos, h.lim, h.safe, h.now, h.wr, h0, h1, h.falls0⟩
set_option maxHeartbeats 4000000 in
set_option maxRecDepth 100000 in
theorem fails_calls (w : World) (S : Nat → Prop) (g : Nat) (d : DS) (vs vn vw : Value) (h0 : DiskAt w S g d vs vn vw) (hf : d.falls ≤ 1000000) :
    Calls Try.prog 86 #[.pointer (some ⟨g, 0, none⟩)] w fun e w' => e = .returned (.bool d.fails.1) ∧ DiskAt w' S g d.fails.2 vs vn vw ∧ Kp S w w' := by
  have H := Aside0.mk h0
  have ha0 := h0.1.armed0
  have ha1 := h0.1.armed1
  have hb := h0.2.2.1
  have c3 : w.cell? ⟨g, 3, none⟩ = some (.int .i64 d.armed) := (blk_cell hb 3).trans rfl
  have f3 := blk_frozen hb 3
  clear h0 hb
  by_cases h1 : d.armed = 0
  · have hE := Aside0.mk (show d.fails = (false, d) by unfold DS.fails; rw [if_pos h1])
    have b1 : (d.armed == 0) = true := by rw [beq_iff_eq]; exact h1
    clear h1
    go_enter Try.func86, Try.ntmps86
    go_wp2
    go_ret
    exact ⟨by rw [hE.out]; rfl, by rw [hE.out]; exact H.out, Kp.refl S w⟩
  · have b1 : (d.armed == 0) = false := by rw [beq_eq_false_iff_ne]; exact h1
    have hgt : 1 ≤ d.armed := by omega
    have h2' := H.out.set (H.out.1.arm (n := d.armed - 1) (by omega) (by omega)) (i := 3) (u := .int .i64 (d.armed - 1)) rfl rfl rfl rfl
    by_cases h2 : 1 < d.armed
    · have hE := Aside0.mk (show d.fails = (false, { d with armed := d.armed - 1 }) by unfold DS.fails; rw [if_neg h1, if_pos h2])
      have b2 : decide (0 < d.armed - 1) = true := by simp; omega
      have H2 := Aside0.mk h2'
      clear h1 h2'
      go_enter Try.func86, Try.ntmps86
      go_wp2
      go_ret
      exact ⟨by rw [hE.out]; rfl, by rw [hE.out]; exact H2.out, (Kp.refl S w).setCell (.inl H.out.2.1) _⟩
    · have hone : d.armed = 1 := by omega
      have hE := Aside0.mk (show d.fails = (true, { d with armed := 0, down := true, falls := d.falls + 1 }) by unfold DS.fails; rw [if_neg h1, if_neg h2])
      have H2 := Aside0.mk (show DiskAt (w.setCell ⟨g, 3, none⟩ (.int .i64 0)) S g { d with armed := 0 } vs vn vw by rw [hone] at h2'; exact h2')
      have hf2 := Aside0.mk hf
      rw [hone] at c3
      clear h1 h2 h2' b1 hgt ha0 ha1 hone hf
      go_enter Try.func86, Try.ntmps86
      go_wp2_with (go_at_call 89; (with_reducible refine (off_calls _ S g { d with armed := 0 } vs vn vw H2.out hf2.out).mono ?_); rintro e w2 ⟨rfl, hd, hk⟩; have HD := Aside0.mk hd; have HK := Aside0.mk hk; clear hd hk)
      go_ret
      exact ⟨by rw [hE.out]; rfl, by rw [hE.out]; exact HD.out, ((Kp.refl S w).setCell (.inl H.out.2.1) _).trans (HK.out.mono fun k hk => .inl hk)⟩
/-- Whether there is power, and such a sector. -/
def DS.check (d : DS) (at_ : Int) : Int := if d.down = true then 91 else if at_ < 0 ∨ (d.now.length : Int) ≤ at_ then 1 else 0
theorem Own.slice {w : World} {S : Nat → Prop} {e : TypeId} {size n : Nat} {v : Value} {xs : List Value} (h : Own w S e size v n xs) : ∃ A c, v = .slice A n c := own_slice h.1
set_option maxHeartbeats 4000000 in
set_option maxRecDepth 100000 in
theorem check_calls (w : World) (S : Nat → Prop) (g : Nat) (d : DS) (vs vn vw : Value) (i : Int) (h0 : DiskAt w S g d vs vn vw) :
    Calls Try.prog 85 #[.pointer (some ⟨g, 0, none⟩), .int .i64 i] w fun e w' => e = .returned (.int .i64 (d.check i)) ∧ Drawn0 w w' := by
  obtain ⟨A, c, rfl⟩ := h0.2.2.2.2.1.slice
  have hl := h0.1.lim
  have hb := h0.2.2.1
  have c4 : w.cell? ⟨g, 4, none⟩ = some (.bool d.down) := (blk_cell hb 4).trans rfl
  have c1 : w.cell? ⟨g, 1, none⟩ = some (.slice A d.now.length c) := (blk_cell hb 1).trans rfl
  clear h0 hb
  cases hd : d.down with
  | true =>
    have hE := Aside0.mk (show d.check i = 91 by unfold DS.check; rw [if_pos hd])
    rw [hd] at c4
    clear hd
    go_enter Try.func85, Try.ntmps85
    go_wp2
    go_ret
    exact ⟨by rw [hE.out]; rfl, by repeat (first | exact Drawn0.refl _ | apply Drawn0.step)⟩
  | false =>
    rw [hd] at c4
    by_cases h1 : i < 0
    · have hE := Aside0.mk (show d.check i = 1 by unfold DS.check; rw [if_neg (by simp [hd]), if_pos (.inl h1)])
      have b1 : decide (i < 0) = true := by simp; omega
      clear hd
      go_enter Try.func85, Try.ntmps85
      go_wp2
      go_ret
      exact ⟨by rw [hE.out]; rfl, by repeat (first | exact Drawn0.refl _ | apply Drawn0.step)⟩
    · have b1 : decide (i < 0) = false := by simp; omega
      by_cases h2 : (d.now.length : Int) ≤ i
      · have hE := Aside0.mk (show d.check i = 1 by unfold DS.check; rw [if_neg (by simp [hd]), if_pos (.inr h2)])
        have b2 : decide ((d.now.length : Int) ≤ i) = true := by simp; omega
        clear hd
        go_enter Try.func85, Try.ntmps85
        go_wp2
        go_ret
        exact ⟨by rw [hE.out]; rfl, by repeat (first | exact Drawn0.refl _ | apply Drawn0.step)⟩
      · have hE := Aside0.mk (show d.check i = 0 by unfold DS.check; rw [if_neg (by simp [hd]), if_neg (by omega)])
        have b2 : decide ((d.now.length : Int) ≤ i) = false := by simp; omega
        clear hd
        go_enter Try.func85, Try.ntmps85
        go_wp2
        go_ret
        exact ⟨by rw [hE.out]; rfl, by repeat (first | exact Drawn0.refl _ | apply Drawn0.step)⟩
set_option maxRecDepth 100000 in
theorem up_calls (w : World) (S : Nat → Prop) (g : Nat) (d : DS) (vs vn vw : Value) (h0 : DiskAt w S g d vs vn vw) :
    Calls Try.prog 42 #[.pointer (some ⟨g, 0, none⟩)] w fun e w' => e = .returned (.bool (!d.down)) ∧ Drawn0 w w' := by
  have hb := h0.2.2.1
  have c4 : w.cell? ⟨g, 4, none⟩ = some (.bool d.down) := (blk_cell hb 4).trans rfl
  clear h0 hb
  go_enter Try.func42, Try.ntmps42
  go_wp2
  go_ret
  exact ⟨rfl, by repeat (first | exact Drawn0.refl _ | apply Drawn0.step)⟩
set_option maxRecDepth 100000 in
theorem sectors_calls (w : World) (S : Nat → Prop) (g : Nat) (d : DS) (vs vn vw : Value) (h0 : DiskAt w S g d vs vn vw) :
    Calls Try.prog 44 #[.pointer (some ⟨g, 0, none⟩)] w fun e w' => e = .returned (.int .i64 (d.now.length : Int)) ∧ Drawn0 w w' := by
  obtain ⟨A, c, rfl⟩ := h0.2.2.2.2.1.slice
  have hb := h0.2.2.1
  have c1 : w.cell? ⟨g, 1, none⟩ = some (.slice A d.now.length c) := (blk_cell hb 1).trans rfl
  clear h0 hb
  go_enter Try.func44, Try.ntmps44
  go_wp2
  go_ret
  exact ⟨rfl, by repeat (first | exact Drawn0.refl _ | apply Drawn0.step)⟩
set_option maxRecDepth 100000 in
theorem arm_calls (w : World) (S : Nat → Prop) (g : Nat) (d : DS) (vs vn vw : Value) (n : Int) (h0 : DiskAt w S g d vs vn vw) (hn : n ≤ 9223372036854775807) :
    Calls Try.prog 38 #[.pointer (some ⟨g, 0, none⟩), .int .i64 n] w fun e w' => e = .returned (.tuple #[]) ∧ DiskAt w' S g { d with armed := if n < 0 then 0 else n } vs vn vw ∧ Kp S w w' := by
  have H := Aside0.mk h0
  have hb := h0.2.2.1
  have c3 : w.cell? ⟨g, 3, none⟩ = some (.int .i64 d.armed) := (blk_cell hb 3).trans rfl
  have f3 := blk_frozen hb 3
  clear h0 hb
  by_cases h1 : n < 0
  · have b1 : decide (n < 0) = true := by simp; omega
    go_enter Try.func38, Try.ntmps38
    go_wp2
    go_end0
    refine ⟨rfl, ?_, (Kp.refl S w).setCell (.inl H.out.2.1) _⟩
    first | exact H.out.set (H.out.1.arm (n := 0) (by omega) (by omega)) rfl rfl rfl rfl | (rw [show max n 0 = 0 by omega]; exact H.out.set (H.out.1.arm (n := 0) (by omega) (by omega)) rfl rfl rfl rfl)
  · have b1 : decide (n < 0) = false := by simp; omega
    go_enter Try.func38, Try.ntmps38
    go_wp2
    go_end0
    refine ⟨rfl, ?_, (Kp.refl S w).setCell (.inl H.out.2.1) _⟩
    first | exact H.out.set (H.out.1.arm (n := n) (by omega) (by omega)) rfl rfl rfl rfl | (rw [show max n 0 = n by omega]; exact H.out.set (H.out.1.arm (n := n) (by omega) (by omega)) rfl rfl rfl rfl)
end Go.Proofs.Ytkedodmlbepfnaa.Lg

-- from the working text Nd
set_option linter.unusedSimpArgs false
set_option linter.unusedVariables false
namespace Go.Proofs.Ytkedodmlbepfnaa.Lg
open Go.RowKit Go.Proofs.YtkedodmlbepfnaaW.PrintWords Go.Proofs.YtkedodmlbepfnaaW.PrintLast Go.Proofs.YtkedodmlbepfnaaW.PrintMore Go.Proofs.Ytkedodmlbepfnaa.Rg
def zero64 : Array Value := Array.replicate 64 (.int .u8 0)
theorem info122 : (Try.prog.info? 122).map (fun i => (i.zero, i.size, i.bytes)) = some (some (.agg zero64), 64, 64) := by kernel_rfl
theorem made_zero (m : Nat) : (madeCells zero64 m).toList = List.replicate m (.int .u8 0) := by
  apply List.ext_getElem
  · simp [madeCells]
  · intro i h1 h2
    have hm : i % 64 < 64 := Nat.mod_lt _ (by omega)
    simp [madeCells, zero64, getElem!_pos, hm]
def zsec : List Int := List.replicate 64 0
theorem flat_zero : ∀ n : Nat, flat (List.replicate n zsec) = List.replicate (n * 64) (.int .u8 0)
  | 0 => rfl
  | n + 1 => by
    have h := flat_zero n
    unfold flat at h ⊢
    rw [List.replicate_succ, List.flatten_cons, nums_append, h]
    have : nums .u8 zsec = List.replicate 64 (.int .u8 0) := by simp [nums, zsec]
    rw [this, List.replicate_append_replicate]
    congr 1
    omega
theorem zsec_ok : Sect zsec := ⟨by simp [zsec], fun x hx => by simp [zsec] at hx; omega⟩
def DS.new (n : Nat) : DS := { safe := List.replicate n zsec, now := List.replicate n zsec, wr := [], armed := 0, down := false, falls := 0 }
theorem DS.new_ok (n : Nat) (h : 1 ≤ n) (h' : n ≤ 4096) : (DS.new n).Ok :=
  ⟨by simp [DS.new], by simp [DS.new]; omega, by simp [DS.new]; omega, fun s hs => by have := List.eq_of_mem_replicate hs; subst this; exact zsec_ok, fun s hs => by have := List.eq_of_mem_replicate hs; subst this; exact zsec_ok, fun x hx => by simp [DS.new] at hx, by simp [DS.new], by simp [DS.new], by simp [DS.new]⟩
theorem own_zero (W : World) (S : Nat → Prop) (n g : Nat) (hg : g = W.heap.size) (hn : n ≤ 4096) (hS : S g) : Own (W.alloc (.cells (madeCells zero64 (n * 64)) 122)) S 122 64 (.slice (some ⟨g, 0, none⟩) n n) n (flat (List.replicate n zsec)) := by
  subst hg
  refine ⟨?_, fun k hk => by simp [Value.ownBlock] at hk; subst hk; exact hS⟩
  have h := World.ownsRow_lit (base := 0) (e := 122) (size := 64) W (madeCells zero64 (n * 64)) n (by omega) (by simp [maxLen]; omega) (size_madeCells _ _)
  rw [flat_zero, ← made_zero]
  exact h
theorem Own.nil (w : World) (S : Nat → Prop) (e : TypeId) (size : Nat) : Own w S e size (.slice none 0 0) 0 [] := ⟨own_nil w 0 e size, fun k hk => by simp [Value.ownBlock] at hk⟩
def ndWorld (w : World) (n a b : Nat) : World := (((w.alloc (.cells (madeCells zero64 (n * 64)) 122)).alloc (.cells (madeCells zero64 (n * 64)) 122)).alloc
  (.cells #[.slice (some ⟨a, 0, none⟩) n n, .slice (some ⟨b, 0, none⟩) n n, .slice none 0 0, .int .i64 0, .bool false, .int .i64 0] 115)).drew
theorem own_later {w w1 : World} {S : Nat → Prop} {e : TypeId} {size n : Nat} {v : Value} {xs : List Value} (h : Own w S e size v n xs) (hb : Below w.heap.size w w1) : Own w1 S e size v n xs := h.kp (S' := fun _ => False) (Kp.of_below _ hb) (fun _ _ _ h => h)
theorem newDisk_fin (w : World) (n : Nat) (h1 : 1 ≤ n) (h2 : n ≤ 4096) (a b : Nat) (hab : (a = w.heap.size ∧ b = w.heap.size + 1) ∨ (a = w.heap.size + 1 ∧ b = w.heap.size)) :
    DiskAt (ndWorld w n a b) (fun k => w.heap.size ≤ k) (w.heap.size + 1 + 1) (DS.new n) (.slice (some ⟨a, 0, none⟩) n n) (.slice (some ⟨b, 0, none⟩) n n) (.slice none 0 0) := by
  have hx : Own (ndWorld w n a b) (fun k => w.heap.size ≤ k) 122 64 (.slice (some ⟨w.heap.size, 0, none⟩) n n) n (flat (List.replicate n zsec)) :=
    own_later (own_zero w _ n _ rfl h2 (Nat.le_refl _)) (below_drew (below_alloc (below_alloc (Below.refl _ _) _) _))
  have hy : Own (ndWorld w n a b) (fun k => w.heap.size ≤ k) 122 64 (.slice (some ⟨w.heap.size + 1, 0, none⟩) n n) n (flat (List.replicate n zsec)) :=
    own_later (own_zero (w.alloc (.cells (madeCells zero64 (n * 64)) 122)) _ n _ (by simp) h2 (Nat.le_succ _)) (below_drew (below_alloc (Below.refl _ _) _))
  refine ⟨DS.new_ok n h1 h2, by show w.heap.size ≤ w.heap.size + 1 + 1; omega, ?_, ?_, ?_, Own.nil _ _ _ _, .inr ?_⟩
  · have h := blk_new ((w.alloc (.cells (madeCells zero64 (n * 64)) 122)).alloc (.cells (madeCells zero64 (n * 64)) 122)) (.cells #[.slice (some ⟨a, 0, none⟩) n n, .slice (some ⟨b, 0, none⟩) n n, .slice none 0 0, .int .i64 0, .bool false, .int .i64 0] 115)
    rw [show ((w.alloc (.cells (madeCells zero64 (n * 64)) 122)).alloc (.cells (madeCells zero64 (n * 64)) 122)).heap.size = w.heap.size + 1 + 1 by simp] at h
    exact h
  · rw [show (DS.new n).safe.length = n by simp [DS.new]]
    rcases hab with ⟨rfl, rfl⟩ | ⟨rfl, rfl⟩
    · exact hx
    · exact hy
  · rw [show (DS.new n).now.length = n by simp [DS.new]]
    rcases hab with ⟨rfl, rfl⟩ | ⟨rfl, rfl⟩
    · exact hy
    · exact hx
  · simp only [Value.ownBlock, ne_eq, Option.some.injEq]
    omega
theorem newDisk_below (w : World) (n a b : Nat) : Below w.heap.size w (ndWorld w n a b) := below_drew (below_alloc (below_alloc (below_alloc (Below.refl _ _) _) _) _)
set_option maxHeartbeats 4000000 in
set_option maxRecDepth 100000 in
theorem newDisk_calls (n : Nat) (w : World) (h1 : 1 ≤ n) (h2 : n ≤ 4096) :
    Calls Try.prog 29 #[.int .i64 (n : Int)] w fun e w' => ∃ g vs vn vw, e = .returned (.tuple #[.pointer (some ⟨g, 0, none⟩), .int .i64 0]) ∧ DiskAt w' (fun k => w.heap.size ≤ k) g (DS.new n) vs vn vw ∧ Below w.heap.size w w' := by
  obtain ⟨i0, hi, hz0, hz1, hz2⟩ := info_parts info122
  have kmk : ∀ W : World, (Instr.makeSlice 112 (.int .i64 (n : Int)) (.int .i64 (n : Int))).run Try.prog W = .ok (.slice (some ⟨W.heap.size, 0, none⟩) n n) (W.alloc (.cells (madeCells zero64 (n * 64)) 122)) := by
    intro W
    have h := run_make (P := Try.prog) W 112 122 i0 (.agg zero64) Try.underlying112 hi hz0 .i64 .i64 n n (by omega) (Int.le_refl _) (by rw [hz2]; omega) (by omega)
    rw [hz1] at h
    exact h
  have b1 : decide ((n : Int) < 1) = false := by simp; omega
  have b2 : decide ((4096 : Int) < (n : Int)) = false := by simp; omega
  clear hi hz0 hz1 hz2
  go_enter Try.func29, Try.ntmps29
  go_wp2
  go_region_with (fail)
  · go_wp2
    go_ret2
    exact ⟨_, _, _, _, rfl, newDisk_fin w n h1 h2 _ _ (.inl ⟨rfl, rfl⟩), newDisk_below w n _ _⟩
  · go_wp2
    go_ret2
    exact ⟨_, _, _, _, rfl, newDisk_fin w n h1 h2 _ _ (.inr ⟨rfl, rfl⟩), newDisk_below w n _ _⟩
end Go.Proofs.Ytkedodmlbepfnaa.Lg

-- from the working text Wr
set_option linter.unusedSimpArgs false
set_option linter.unusedVariables false
namespace Go.Proofs.Ytkedodmlbepfnaa.Lg
open Go.RowKit Go.Proofs.YtkedodmlbepfnaaW.PrintWords Go.Proofs.YtkedodmlbepfnaaW.PrintLast Go.Proofs.YtkedodmlbepfnaaW.PrintMore Go.Proofs.Ytkedodmlbepfnaa.Rg
/-- A piece of a row is replaced. -/
def patch (cur : List Value) (o : Nat) (b : List Value) : List Value := cur.take o ++ b ++ cur.drop (o + b.length)
theorem run_copy_str (w : World) (dT sT ty elem : TypeId) (g o dLen dCap : Nat) (cur : Array Value) (t : TypeId) (s : ByteArray) (hu : Try.prog.underlying dT = some (.slice elem)) (hz : (Try.prog.info? elem).map (·.size) = some 1)
    (hg : w.heap[g]? = some (.cells cur t (0, 0))) (hle : s.size ≤ dLen) (hfit : o + s.size ≤ cur.size) :
    (Builtin.copy_ #[dT, sT] ty #[.slice (some ⟨g, o, none⟩) dLen dCap, .string s]).run Try.prog w = .ok (goInt s.size) (w.setRow g (patch cur.toList o (nums .u8 (bytesOf s))).toArray) := by
  have hmin : Nat.min s.size dLen = s.size := Nat.min_eq_left hle
  have hlen : (nums .u8 (bytesOf s)).length = s.size := by rw [nums_length, bytesOf_length]
  have hst := run_storeCells_at Try.prog g o t (nums .u8 (bytesOf s)) 0 cur w hg (by rw [hlen]; omega) (by intro v hv; simp only [nums, List.mem_map] at hv; obtain ⟨x, _, rfl⟩ := hv; rfl)
  have he : (s.data.toList.map fun x => Value.int .u8 (x.toNat : Int)) = nums .u8 (bytesOf s) := by simp [nums, bytesOf]
  cases hq : Try.prog.info? elem with
  | none => simp [hq] at hz
  | some i =>
    have hi : i.size = 1 := by simpa [hq] using hz
    simp [Builtin.copy_, run_underlying hu, Builtin.lenOf, Builtin.firstCells, sizeOf, typeInfo, hq, hi, hmin]
    rw [List.take_of_length_le (by rw [he, hlen]; exact Nat.le_refl _), he, hst]
    rfl
theorem flat_set : ∀ (ss : List (List Int)) (i : Nat) (b : List Int), (∀ s ∈ ss, s.length = 64) → i < ss.length → b.length = 64 → patch (flat ss) (i * 64) (nums .u8 b) = flat (ss.set i b)
  | s :: ss, 0, b, h, hi, hb => by
    have hs := h s List.mem_cons_self
    unfold patch flat
    simp only [List.set_cons_zero, List.flatten_cons, nums_append, nums_length, Nat.zero_mul, List.take_zero, List.nil_append, Nat.zero_add]
    rw [hb, List.drop_append, List.drop_of_length_le (by rw [nums_length, hs]; omega), nums_length, hs]
    simp
  | s :: ss, i + 1, b, h, hi, hb => by
    have hs := h s List.mem_cons_self
    have ih := flat_set ss i b (fun t ht => h t (List.mem_cons_of_mem _ ht)) (by simpa using hi) hb
    unfold patch flat at ih ⊢
    simp only [List.set_cons_succ, List.flatten_cons, nums_append, nums_length] at ih ⊢
    rw [← ih, hb, List.take_append, List.take_of_length_le (by rw [nums_length, hs]; omega), List.drop_append, List.drop_of_length_le (by rw [nums_length, hs]; omega), nums_length, hs,
      show (i + 1) * 64 - 64 = i * 64 by omega, show (i + 1) * 64 + 64 - 64 = i * 64 + 64 by omega]
    simp
theorem patch_take {cur x b : List Value} {o m : Nat} (ht : cur.take m = x) (h : o + b.length ≤ m) (hm : m ≤ cur.length) : (patch cur o b).take m = patch x o b := by
  subst ht
  unfold patch
  rw [List.take_append, List.take_append, List.take_of_length_le (by rw [List.length_take]; omega), List.take_take, Nat.min_eq_left (by omega), List.length_append, List.length_take, Nat.min_eq_left (by omega),
    List.take_of_length_le (l := b) (by omega), List.drop_take]
theorem patch_length {cur b : List Value} {o : Nat} (h : o + b.length ≤ cur.length) : (patch cur o b).length = cur.length := by
  unfold patch
  rw [List.length_append, List.length_append, List.length_take, List.length_drop]
  omega
/-- A piece of a row of one's own is replaced. -/
theorem Own.patch {w : World} {S : Nat → Prop} {e : TypeId} {size n g c : Nat} {xs b : List Value} {o : Nat} {cur : Array Value} (h : Own w S e size (.slice (some ⟨g, 0, none⟩) n c) n xs) (hg : w.heap[g]? = some (.cells cur e (0, 0))) (hb : o + b.length ≤ n * size) :
    Own (w.setRow g (patch cur.toList o b).toArray) S e size (.slice (some ⟨g, 0, none⟩) n c) n (Lg.patch xs o b) := by
  obtain ⟨⟨h1, h2⟩, h3⟩ := h
  rcases h2 with ⟨h2, _⟩ | ⟨g', cap, cur', hv, hbs, hh, hnc, hcm, hcs, ht⟩
  · cases h2
  · injection hv with ha _ hc
    injection ha with ha
    injection ha with ha
    subst ha
    subst hc
    rw [hg] at hh
    injection hh with hh
    injection hh with hh
    subst hh
    have hle : n * size ≤ cur.toList.length := by
      have := Nat.mul_le_mul_right size hnc
      rw [Array.length_toList]; omega
    refine ⟨⟨?_, .inr ⟨g, c, _, rfl, hbs, setRow_heap w g cur _ e (0, 0) hg, hnc, hcm, ?_, ?_⟩⟩, h3⟩
    · rw [patch_length (by omega)]; exact h1
    · rw [List.size_toArray, patch_length (by omega), Array.length_toList]; exact hcs
    · rw [List.toList_toArray]; exact patch_take ht hb hle
theorem Own.setRow {w : World} {S : Nat → Prop} {e : TypeId} {size n g : Nat} {v : Value} {xs : List Value} (h : Own w S e size v n xs) (hp : v.ownBlock ≠ some g) (cs : Array Value) : Own (w.setRow g cs) S e size v n xs := by
  refine ⟨⟨h.1.1, ?_⟩, h.2⟩
  rcases h.1.2 with h2 | ⟨g', cap, cur, hv, hb, hh, r⟩
  · exact .inl h2
  · refine .inr ⟨g', cap, cur, hv, hb, (setRow_other w g g' cs (fun e' => hp (by rw [hv]; simp [Value.ownBlock, e']))).trans hh, r⟩
/-- One sector as it is read. -/
theorem Own.form {w : World} {S : Nat → Prop} {e : TypeId} {size n : Nat} {v : Value} {xs : List Value} (h : Own w S e size v n xs) (hn : 0 < n) : ∃ g c cur, v = .slice (some ⟨g, 0, none⟩) n c ∧ S g ∧ w.heap[g]? = some (.cells cur e (0, 0)) ∧ n ≤ c ∧ c ≤ 9223372036854775807 ∧ cur.size = c * size ∧ cur.toList.take (n * size) = xs := by
  rcases h.1.2 with ⟨_, h2⟩ | ⟨g, cap, cur, hv, hb, hh, hnc, hcm, hcs, ht⟩
  · omega
  · exact ⟨g, cap, cur, hv, h.2 g (by rw [hv]; rfl), hh, hnc, by simpa [maxLen] using hcm, hcs, ht⟩
theorem DS.Ok.setNow {d : DS} (h : d.Ok) (i : Nat) (b : List Int) (hb : Sect b) : ({ d with now := d.now.set i b } : DS).Ok :=
  ⟨by show d.safe.length = (d.now.set i b).length; rw [List.length_set]; exact h.len, by show 1 ≤ (d.now.set i b).length; rw [List.length_set]; exact h.pos, by show (d.now.set i b).length ≤ 4096; rw [List.length_set]; exact h.lim, h.safe,
   fun s hs => by rcases List.mem_or_eq_of_mem_set hs with h1 | h1
                  · exact h.now s h1
                  · subst h1; exact hb,
   fun x hx => by show 0 ≤ x.1 ∧ x.1 < ((d.now.set i b).length : Int) ∧ _; rw [List.length_set]; exact h.wr x hx, h.armed0, h.armed1, h.falls0⟩
theorem DiskAt.sector {w : World} {S : Nat → Prop} {g : Nat} {d : DS} {vs vw : Value} {gn c : Nat} {cur : Array Value} (h : DiskAt w S g d vs (.slice (some ⟨gn, 0, none⟩) d.now.length c) vw) (hg : w.heap[gn]? = some (.cells cur 122 (0, 0)))
    {i : Nat} {b : List Int} (hi : i < d.now.length) (hb : Sect b) :
    DiskAt (w.setRow gn (patch cur.toList (i * 64) (nums .u8 b)).toArray) S g { d with now := d.now.set i b } vs (.slice (some ⟨gn, 0, none⟩) d.now.length c) vw := by
  obtain ⟨h1, h2, h3, h4, h5, h6, h7⟩ := h
  have hgn : g ≠ gn := by intro e; subst e; rw [h3] at hg; injection hg with hg; injection hg with _ hg _; cases hg
  have hbl : (nums .u8 b).length = 64 := by rw [nums_length, hb.1]
  refine ⟨h1.setNow i b hb, h2, (setRow_other w gn g _ hgn).trans h3, h4.setRow ?_ _, ?_, h6.setRow ?_ _, h7⟩
  · rcases h7 with h7 | h7
    · rw [h7]; simp
    · exact h7
  · show Own _ S 122 64 _ (d.now.set i b).length (flat (d.now.set i b))
    rw [List.length_set, ← flat_set d.now i b (fun s hs => (h1.now s hs).1) hi hb.1]
    exact h5.patch hg (by rw [hbl]; omega)
  · exact h6.type_ne hg (by decide)
def DS.put (d : DS) (i : Nat) (b : List Int) : DS := { d with now := d.now.set i b, wr := d.wr ++ [((i : Int), b)] }
theorem bytes_sect {s : ByteArray} (h : s.size = 64) : Sect (bytesOf s) := ⟨by rw [bytesOf_length, h], fun x hx => by
  unfold bytesOf at hx
  obtain ⟨y, _, rfl⟩ := List.mem_map.1 hx
  have := y.toNat_lt
  omega⟩
theorem DS.Ok.put {d : DS} (h : d.Ok) {i : Nat} (hi : i < d.now.length) {b : List Int} (hb : Sect b) : (d.put i b).Ok := by
  have h' := h.setNow i b hb
  refine ⟨h'.len, h'.pos, h'.lim, h'.safe, h'.now, fun x hx => ?_, h'.armed0, h'.armed1, h'.falls0⟩
  rcases List.mem_append.1 hx with hx | hx
  · exact h'.wr x hx
  · rw [List.mem_singleton] at hx
    subst hx
    show 0 ≤ (i : Int) ∧ (i : Int) < ((d.now.set i b).length : Int) ∧ Sect b
    rw [List.length_set]
    exact ⟨by omega, by omega, hb⟩
theorem wflat_snoc (ws : List (Int × List Int)) (i : Int) (b : List Int) : wflat (ws ++ [(i, b)]) = wflat ws ++ (.int .i64 i :: nums .u8 b) := by simp [wflat]
/-- Between the append and the store. -/
def WrMid (w : World) (S : Nat → Prop) (g : Nat) (d : DS) (i : Nat) (b : List Int) (vs vn vw : Value) (v : Value) (W : World) : Prop :=
  W.heap[g]? = some (.cells #[vs, vn, vw, .int .i64 d.armed, .bool d.down, .int .i64 d.falls] 115 (0, 0)) ∧ Own W (Nw S w) 122 64 vs d.safe.length (flat d.safe) ∧ Own W (Nw S w) 122 64 vn d.now.length (flat (d.now.set i b)) ∧ Own W (Nw S w) 124 65 v (d.wr.length + 1) (wflat (d.wr ++ [((i : Int), b)])) ∧ Kp S w W
theorem WrMid.store {w : World} {S : Nat → Prop} {g : Nat} {d : DS} {i : Nat} {b : List Int} {vs vn vw v : Value} {W : World} (h : WrMid w S g d i b vs vn vw v W) (hok : d.Ok) (hi : i < d.now.length) (hb : Sect b) (hS : S g) (hne : vs.ownBlock = none ∨ vs.ownBlock ≠ vn.ownBlock) :
    DiskAt (W.setCell ⟨g, 2, none⟩ v) (Nw S w) g (d.put i b) vs vn v ∧ Kp S w (W.setCell ⟨g, 2, none⟩ v) := by
  obtain ⟨h1, h2, h3, h4, h5⟩ := h
  refine ⟨⟨hok.put hi hb, .inl hS, by rw [blk_set h1]; rfl, h2.setCell (h2.type_ne h1 (by decide)) v, ?_, ?_, hne⟩, h5.setCell (.inl hS) v⟩
  · show Own _ _ 122 64 vn (d.now.set i b).length (flat (d.now.set i b))
    rw [List.length_set]
    exact h3.setCell (h3.type_ne h1 (by decide)) v
  · show Own _ _ 124 65 v (d.wr ++ [((i : Int), b)]).length _
    rw [List.length_append, List.length_singleton]
    exact h4.setCell (h4.type_ne h1 (by decide)) v
end Go.Proofs.Ytkedodmlbepfnaa.Lg

-- from the working text Bd
set_option linter.unusedSimpArgs false
set_option linter.unusedVariables false
namespace Go.Proofs.Ytkedodmlbepfnaa.Lg
open Go.RowKit Go.Proofs.YtkedodmlbepfnaaW.PrintWords Go.Proofs.YtkedodmlbepfnaaW.PrintLast Go.Proofs.YtkedodmlbepfnaaW.PrintMore Go.Proofs.Ytkedodmlbepfnaa.Rg
theorem fold_patch (off : Nat) (v cs : Array Value) (h : off + v.size ≤ cs.size) : (v.zipIdx.foldl (fun cs (x : Value × Nat) => cs.setIfInBounds (off + x.2) x.1) cs).toList = patch cs.toList off v.toList := by
  have e : v.zipIdx.foldl (fun cs (x : Value × Nat) => cs.setIfInBounds (off + x.2) x.1) cs = (v.toList.zipIdx 0).foldl (fun cs (x : Value × Nat) => cs.setIfInBounds (off + x.2) x.1) cs := by
    rw [← Array.foldl_toList, Array.toList_zipIdx]
  obtain ⟨h1, h2⟩ := Great.foldl_set off v.toList 0 cs
  rw [e]
  apply List.ext_getElem?
  intro k
  rw [Array.getElem?_toList, h2 k]
  unfold patch
  simp only [Nat.add_zero, Array.length_toList]
  by_cases hk : off ≤ k ∧ k < off + v.size ∧ k < cs.size
  · rw [if_pos hk, List.append_assoc, List.getElem?_append_right (by rw [List.length_take, Array.length_toList]; omega), List.length_take, Array.length_toList, Nat.min_eq_left (by omega), List.getElem?_append_left (by rw [Array.length_toList]; omega)]
  · rw [if_neg hk, List.append_assoc]
    by_cases hlt : k < off
    · rw [List.getElem?_append_left (by rw [List.length_take, Array.length_toList]; omega), List.getElem?_take, if_pos hlt, Array.getElem?_toList]
    · rw [List.getElem?_append_right (by rw [List.length_take, Array.length_toList]; omega), List.length_take, Array.length_toList, Nat.min_eq_left (by omega)]
      by_cases hge : off + v.size ≤ k
      · rw [List.getElem?_append_right (by rw [Array.length_toList]; omega), Array.length_toList, List.getElem?_drop, ← Array.getElem?_toList]
        congr 1
        omega
      · have hkc : cs.size ≤ k := by omega
        omega
theorem info124z : (Try.prog.info? 124).bind (fun i => i.zero.map fun z => (z, i.size, i.bytes)) = some (.agg (#[.int .i64 0] ++ zero64), 65, 72) := by kernel_rfl
theorem places124 : (match Try.prog.underlying 124 with | some (.struct fields) => fields.toList.mapM (fun f => (Try.prog.info? f.type).map fun i => (f.offset, i.size)) | _ => none) = some [(0, 1), (1, 64)] := by kernel_rfl
set_option maxRecDepth 100000 in
theorem built124 (i : Int) (b : List Int) (hb : b.length = 64) : Try.prog.built 124 [(0, .int .i64 i), (1, .agg (nums .u8 b).toArray)] = some (.int .i64 i :: nums .u8 b).toArray := by
  have hz := info124z
  have hp := places124
  unfold Program.built
  cases hi : Try.prog.info? 124 with
  | none => rw [hi] at hz; cases hz
  | some it =>
    cases hu : Try.prog.underlying 124 with
    | none => rw [hu] at hp; cases hp
    | some d =>
      cases d with
      | struct fields =>
        rw [hi] at hz
        rw [hu] at hp
        simp only at hp
        cases hzz : it.zero with
        | none => simp [hzz] at hz
        | some z =>
          simp [hzz] at hz
          simp only [hp, hzz]
          obtain ⟨rfl, _, _⟩ := hz
          have hn : (nums .u8 b).length = 64 := by rw [nums_length, hb]
          have c1 : (Value.int .i64 i).cells = #[.int .i64 i] := rfl
          have c2 : (Value.agg (nums .u8 b).toArray).cells = (nums .u8 b).toArray := rfl
          have cz : (Value.agg (#[.int .i64 0] ++ zero64)).cells = #[.int .i64 0] ++ zero64 := rfl
          have sz : (#[Value.int .i64 0] ++ zero64).size = 65 := by simp [zero64]
          have p1 := fold_patch 0 #[.int .i64 i] (#[.int .i64 0] ++ zero64) (by rw [sz]; simp)
          have s1 : (#[Value.int .i64 i].zipIdx.foldl (fun (cs : Array Value) (x : Value × Nat) => cs.setIfInBounds (0 + x.2) x.1) (#[Value.int .i64 0] ++ zero64)).size = 65 := by
            rw [← Array.length_toList, p1, patch_length (by simp [zero64]), Array.length_toList, sz]
          have p2 := fold_patch 1 (nums .u8 b).toArray (#[Value.int .i64 i].zipIdx.foldl (fun (cs : Array Value) (x : Value × Nat) => cs.setIfInBounds (0 + x.2) x.1) (#[Value.int .i64 0] ++ zero64)) (by rw [s1, List.size_toArray, hn]; omega)
          unfold Instr.fill
          simp only [List.getElem?_toArray, List.getElem?_cons_zero]
          rw [cz, c1, if_neg (by rw [sz]; simp)]
          unfold Instr.fill
          simp only [List.getElem?_toArray, List.getElem?_cons_zero, List.getElem?_cons_succ]
          rw [c2, if_neg (by rw [s1, List.size_toArray, hn]; simp)]
          unfold Instr.fill
          congr 1
          apply Array.ext'
          rw [p2, p1]
          simp only [patch, List.take_zero, List.nil_append, List.length_singleton, Array.toList_append, List.toList_toArray, Nat.zero_add, List.singleton_append, List.take_succ_cons, List.take_zero, hn]
          rw [List.drop_of_length_le (by simp [zero64])]
          simp
      | _ => rw [hu] at hp; cases hp
set_option maxRecDepth 100000 in
theorem fill124 (c : Array Value) (hc : c.size = 65) : Instr.fill (fun i => some (i * 65, 65)) ((Array.range (1 * 65)).map ((Value.agg (#[.int .i64 0] ++ zero64)).cells[· % (Value.agg (#[.int .i64 0] ++ zero64)).cells.size]!)) [(0, .agg c)] = some c := by
  have c2 : (Value.agg c).cells = c := rfl
  have p := fold_patch 0 c ((Array.range (1 * 65)).map ((Value.agg (#[.int .i64 0] ++ zero64)).cells[· % (Value.agg (#[.int .i64 0] ++ zero64)).cells.size]!)) (by simp [hc])
  unfold Instr.fill
  simp only [Nat.zero_mul]
  rw [c2, if_neg (by simp [hc])]
  unfold Instr.fill
  congr 1
  apply Array.ext'
  rw [p]
  unfold patch
  rw [List.drop_of_length_le (by simp [hc])]
  simp
set_option maxRecDepth 100000 in
theorem run_slice124 (w : World) (c : Array Value) (hc : c.size = 65) : (Instr.buildSlice 113 1 #[(0, .agg c)]).run Try.prog w = .ok (.slice (some ⟨w.heap.size, 0, none⟩) 1 1) (w.alloc (.cells c 124)) := by
  have hz := info124z
  cases hi : Try.prog.info? 124 with
  | none => rw [hi] at hz; cases hz
  | some it =>
    rw [hi] at hz
    cases hzz : it.zero with
    | none => simp [hzz] at hz
    | some z =>
      simp [hzz] at hz
      obtain ⟨rfl, h2, _⟩ := hz
      refine run_buildSlice w 113 124 1 _ c it _ Try.underlying113 hi hzz (by rw [h2]; omega) (by rw [h2]; omega) ?_
      rw [h2]
      exact fill124 c hc
end Go.Proofs.Ytkedodmlbepfnaa.Lg
