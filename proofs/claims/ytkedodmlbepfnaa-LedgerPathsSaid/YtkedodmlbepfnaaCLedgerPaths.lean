/- LedgerPaths: for every list, place, root, entry and path the law returns true, and its arguments read afterwards as before. No condition. -/
import Derived.Test.YtkedodmlbepfnaaRows
import Derived.WalkKit
import Derived.ProofKit
import Derived.OpenShut
import Derived.ShutString
import Derived.ChangeOld
import Derived.Below
import Derived.SizedLaws
import Derived.Carry
import Derived.Test.YtkedodmlbepfnaaM4
set_option linter.unusedSimpArgs false
set_option linter.unusedVariables false
namespace Go.Proofs.Ytkedodmlbepfnaa.Lg
open Go.RowKit Go.Proofs.YtkedodmlbepfnaaW.PrintWords Go.Proofs.YtkedodmlbepfnaaW.PrintLast Go.Proofs.YtkedodmlbepfnaaW.PrintMore Go.Proofs.Ytkedodmlbepfnaa.Rg
theorem grownY_calls (l : List S23) (A : Option Addr) (c : Nat) (i : Int) (w : World) (hr0 : Kd.C k23 w A l.length l) (hc0 : l.length ≤ c) : Calls Try.prog 25 #[.slice A l.length c, .int .i64 i] w fun x w' => ∃ B d, x = .returned (.tuple #[.slice B (grownR l i).length d, .int .i64 (errG l i)]) ∧ (grownR l i).length ≤ d ∧ Kd.C (Kd.int .u64) w' B (grownR l i).length (grownR l i) ∧ Below w.heap.size w w' := by
  refine (grownX_calls l A c i w hr0 hc0).mono ?_
  rintro x w' ⟨v, rfl, hN, hb⟩
  obtain ⟨B, d, rfl, hd, hC⟩ := hN.reads
  exact ⟨B, d, rfl, hd, hC, hb⟩
theorem rgrownY_calls (l : List S23) (A : Option Addr) (c : Nat) (i : Int) (w : World) (hr0 : Kd.C k23 w A l.length l) (hc0 : l.length ≤ c) : Calls Try.prog 26 #[.slice A l.length c, .int .i64 i] w fun x w' => ∃ B d, x = .returned (.tuple #[.slice B (grownR l i).length d, .int .i64 (errG l i)]) ∧ (grownR l i).length ≤ d ∧ Kd.C (Kd.int .u64) w' B (grownR l i).length (grownR l i) ∧ Below w.heap.size w w' := by
  refine (rgrownX_calls l A c i w hr0 hc0).mono ?_
  rintro x w' ⟨v, rfl, hN, hb⟩
  obtain ⟨B, d, rfl, hd, hC⟩ := hN.reads
  exact ⟨B, d, rfl, hd, hC, hb⟩
theorem equalT_calls (xs : List Int) (A B : Option Addr) (c d : Nat) (w : World) (hr0 : Kd.C (Kd.int .u64) w A xs.length xs) (hc0 : xs.length ≤ c) (hs0 : Kd.C (Kd.int .u64) w B xs.length xs) (hd0 : xs.length ≤ d) :
    Calls Try.prog 22 #[.slice A xs.length c, .slice B xs.length d] w fun e w' => e = .returned (.bool true) ∧ Below w.heap.size w w' := by
  refine (equal_calls xs xs A B c d w hr0 hc0 hs0 hd0).mono ?_
  rintro x w' ⟨rfl, hb⟩
  exact ⟨by rw [decide_eq_true rfl], hb⟩
/-- The arguments, and what has come of the world. -/
def AI (w : World) (A : Option Addr) (l : List S23) (Ls : List (Option Addr × List Int)) (W : World) : Prop :=
  Below w.heap.size w W ∧ Kd.C k23 W A l.length l ∧ ∀ x ∈ Ls, Kd.C (Kd.int .u64) W x.1 x.2.length x.2
theorem AI.below {w W W' : World} {A : Option Addr} {l : List S23} {Ls : List (Option Addr × List Int)} (h : AI w A l Ls W) (hb : Below W.heap.size W W') : AI w A l Ls W' :=
  ⟨h.1.trans (hb.mono h.1.size), Kd.C_below h.2.1 hb, fun x hx => Kd.C_below (h.2.2 x hx) hb⟩
theorem AI.add {w W W' : World} {A B : Option Addr} {l : List S23} {Ls : List (Option Addr × List Int)} {xs : List Int} (h : AI w A l Ls W) (hb : Below W.heap.size W W') (hC : Kd.C (Kd.int .u64) W' B xs.length xs) : AI w A l ((B, xs) :: Ls) W' :=
  ⟨(h.below hb).1, (h.below hb).2.1, fun x hx => (List.mem_cons.1 hx).elim (fun e => e ▸ hC) ((h.below hb).2.2 x)⟩
set_option maxHeartbeats 8000000 in
set_option maxRecDepth 100000 in
theorem growth_walk (l : List S23) (A : Option Addr) (c : Nat) (i old root many : Int) (p : List Int) (B : Option Addr) (d : Nat) (w : World) (hr0 : Kd.C k23 w A l.length l) (hc0 : l.length ≤ c) (hp0 : Kd.C (Kd.int .u64) w B p.length p) (hd0 : p.length ≤ d) (hu : ∀ y ∈ p, U64 y) (ho : U64 old) :
    Calls Try.prog 5 #[.slice A l.length c, .int .i64 i, .int .u64 old, .int .u64 root, .int .i64 many, .slice B p.length d] w fun e w' => e = .returned (.bool true) ∧ Below w.heap.size w w' := by
  have HI : Aside0 (AI w A l [(B, p)] w) := Aside0.mk ⟨Below.refl _ _, hr0, fun x hx => by rw [List.mem_singleton] at hx; subst hx; exact hp0⟩
  clear hr0 hp0
  have HU := Aside0.mk hu
  have HO := Aside0.mk ho
  clear hu ho
  cases hF : Few l with
  | false =>
    go_enter Try.func5, Try.ntmps5
    go_wp2_with (first
      | (go_at_call 10; (with_reducible refine (sane_calls _).mono ?_); rintro e w1 ⟨rfl, hb⟩; have n1_ := Aside0.mk (HI.out.below hb); clear HI hb; have HI := n1_; clear n1_)
      | (go_at_call 11; have k1_ := HI.out.2.1; (with_reducible refine (few_calls l A c _ k1_ hc0).mono ?_); clear k1_; rintro e w1 ⟨rfl, hb⟩; rw [hF]; have n1_ := Aside0.mk (HI.out.below hb); clear HI hb; have HI := n1_; clear n1_))
    go_ret
    exact ⟨rfl, HI.out.1⟩
  | true =>
    by_cases hp : 40 < p.length
    · have b1 : decide ((40 : Int) < (p.length : Int)) = true := decide_eq_true (by omega)
      have b2 : decide (40 < p.length) = true := decide_eq_true hp
      go_enter Try.func5, Try.ntmps5
      go_wp2_with (first
        | (go_at_call 10; (with_reducible refine (sane_calls _).mono ?_); rintro e w1 ⟨rfl, hb⟩; have n1_ := Aside0.mk (HI.out.below hb); clear HI hb; have HI := n1_; clear n1_)
        | (go_at_call 11; have k1_ := HI.out.2.1; (with_reducible refine (few_calls l A c _ k1_ hc0).mono ?_); clear k1_; rintro e w1 ⟨rfl, hb⟩; rw [hF]; have n1_ := Aside0.mk (HI.out.below hb); clear HI hb; have HI := n1_; clear n1_))
      go_ret
      exact ⟨rfl, HI.out.1⟩
    · have b1 : decide ((40 : Int) < (p.length : Int)) = false := decide_eq_false (by omega)
      have b2 : decide (40 < p.length) = false := decide_eq_false hp
      have hp6 : p.length ≤ 1000000 := by omega
      go_enter Try.func5, Try.ntmps5
      go_wp2_with (first
        | (go_at_call 10; (with_reducible refine (sane_calls _).mono ?_); rintro e w1 ⟨rfl, hb⟩; have n1_ := Aside0.mk (HI.out.below hb); clear HI hb; have HI := n1_; clear n1_)
        | (go_at_call 11; have k1_ := HI.out.2.1; (with_reducible refine (few_calls l A c _ k1_ hc0).mono ?_); clear k1_; rintro e w1 ⟨rfl, hb⟩; rw [hF]; have n1_ := Aside0.mk (HI.out.below hb); clear HI hb; have HI := n1_; clear n1_)
        | (go_at_call 25; have k1_ := HI.out.2.1; (with_reducible refine (grownY_calls l A c i _ k1_ hc0).mono ?_); clear k1_; rintro e w1 ⟨B1, d1, rfl, hd1, hC1, hb⟩; have n1_ := Aside0.mk (HI.out.add hb hC1); clear HI hb hC1; have HI := n1_; clear n1_)
        | (go_at_call 26; have k1_ := HI.out.2.1; (with_reducible refine (rgrownY_calls l A c i _ k1_ hc0).mono ?_); clear k1_; rintro e w1 ⟨B2, d2, rfl, hd2, hC1, hb⟩; have n1_ := Aside0.mk (HI.out.add hb hC1); clear HI hb hC1; have HI := n1_; clear n1_)
        | (go_at_call 22; have k1_ := HI.out.2.2 (B1, grownR l i) (by simp); have k2_ := HI.out.2.2 (B2, grownR l i) (by simp); (with_reducible refine (equalT_calls (grownR l i) B1 B2 d1 d2 _ k1_ hd1 k2_ hd2).mono ?_); clear k1_ k2_; rintro e w1 ⟨rfl, hb⟩; have n1_ := Aside0.mk (HI.out.below hb); clear HI hb; have HI := n1_; clear n1_)
        | (go_at_call 27; have k1_ := HI.out.2.2 (B, p) (by simp); (with_reducible refine (checkGrownX_calls old i root many p B d _ k1_ hd0 hp6 HO.out HU.out).mono ?_); clear k1_; rintro e w1 ⟨rfl, hb⟩; have n1_ := Aside0.mk (HI.out.below hb); clear HI hb; have HI := n1_; clear n1_)
        | (go_at_call 28; have k1_ := HI.out.2.2 (B, p) (by simp); (with_reducible refine (rcheckGrownX_calls old i root many p B d _ k1_ hd0 hp6 HO.out HU.out).mono ?_); clear k1_; rintro e w1 ⟨rfl, hb⟩; have n1_ := Aside0.mk (HI.out.below hb); clear HI hb; have HI := n1_; clear n1_))
      go_ret
      exact ⟨rfl, HI.out.1⟩
end Go.Proofs.Ytkedodmlbepfnaa.Lg
set_option linter.unusedSimpArgs false
set_option linter.unusedVariables false
namespace Go.Proofs.Ytkedodmlbepfnaa.Lg
open Go.RowKit Go.Proofs.YtkedodmlbepfnaaW.PrintWords Go.Proofs.YtkedodmlbepfnaaW.PrintLast Go.Proofs.YtkedodmlbepfnaaW.PrintMore Go.Proofs.Ytkedodmlbepfnaa.Rg
theorem pathY_calls (l : List S23) (A : Option Addr) (c : Nat) (i : Int) (w : World) (hr0 : Kd.C k23 w A l.length l) (hc0 : l.length ≤ c) : Calls Try.prog 20 #[.slice A l.length c, .int .i64 i] w fun x w' => ∃ B d, x = .returned (.tuple #[.slice B (pathR l i).length d, .int .i64 (errP l i)]) ∧ (pathR l i).length ≤ d ∧ Kd.C (Kd.int .u64) w' B (pathR l i).length (pathR l i) ∧ Below w.heap.size w w' := by
  refine (pathX_calls l A c i w hr0 hc0).mono ?_
  rintro x w' ⟨v, rfl, hN, hb⟩
  obtain ⟨B, d, rfl, hd, hC⟩ := hN.reads
  exact ⟨B, d, rfl, hd, hC, hb⟩
theorem rpathY_calls (l : List S23) (A : Option Addr) (c : Nat) (i : Int) (w : World) (hr0 : Kd.C k23 w A l.length l) (hc0 : l.length ≤ c) : Calls Try.prog 21 #[.slice A l.length c, .int .i64 i] w fun x w' => ∃ B d, x = .returned (.tuple #[.slice B (pathR l i).length d, .int .i64 (errP l i)]) ∧ (pathR l i).length ≤ d ∧ Kd.C (Kd.int .u64) w' B (pathR l i).length (pathR l i) ∧ Below w.heap.size w w' := by
  refine (rpathX_calls l A c i w hr0 hc0).mono ?_
  rintro x w' ⟨v, rfl, hN, hb⟩
  obtain ⟨B, d, rfl, hd, hC⟩ := hN.reads
  exact ⟨B, d, rfl, hd, hC, hb⟩
def pathsRel (en : S23) (l : List S23) (i root many : Int) (p : List Int) (B B1 B2 : Option Addr) (d d1 d2 : Nat) : Nat → Value → World → Prop
  | 0, v, _ => v = .slice B1 (pathR l i).length d1
  | 1, v, _ => v = .slice B2 (pathR l i).length d2
  | 2, v, _ => v = .bool true
  | 3, v, _ => v = .bool true
  | 4, v, _ => v = .int .i64 (errP l i)
  | 5, v, _ => v = .int .i64 (errP l i)
  | 6, v, _ => v = .bool true
  | 7, v, _ => v = .bool true
  | 8, v, _ => v = .bool true
  | 9, v, _ => v = .int .u64 root
  | 10, v, _ => v = .int .i64 many
  | 11, v, _ => v = .int .i64 i
  | 12, v, _ => v = .agg #[.int .i64 en.f0, .int .i64 en.f1, .string en.f2]
  | 13, v, _ => v = .slice B p.length d
  | 14, v, _ => v = .int .i64 (errCP root many i en p)
  | 15, v, _ => v = .int .u64 root
  | 16, v, _ => v = .int .i64 many
  | 17, v, _ => v = .int .i64 i
  | 18, v, _ => v = .agg #[.int .i64 en.f0, .int .i64 en.f1, .string en.f2]
  | 19, v, _ => v = .slice B p.length d
  | 20, v, _ => v = .int .i64 (errCP root many i en p)
  | 21, v, _ => v = .bool true
  | 22, v, _ => v = .bool true
  | 23, v, _ => v = .bool true
  | _, _, _ => True
set_option maxHeartbeats 8000000 in
set_option maxRecDepth 100000 in
theorem paths_walk (l : List S23) (A : Option Addr) (c : Nat) (i root many : Int) (en : S23) (p : List Int) (B : Option Addr) (d : Nat) (w : World) (hr0 : Kd.C k23 w A l.length l) (hc0 : l.length ≤ c) (hp0 : Kd.C (Kd.int .u64) w B p.length p) (hd0 : p.length ≤ d) (hu : ∀ y ∈ p, U64 y) :
    Calls Try.prog 4 #[.slice A l.length c, .int .i64 i, .int .u64 root, .int .i64 many, .agg #[.int .i64 en.f0, .int .i64 en.f1, .string en.f2], .slice B p.length d] w fun e w' => e = .returned (.bool true) ∧ Below w.heap.size w w' := by
  have hB1 : Below w.heap.size w (w.alloc (.cells #[.int .i64 en.f0, .int .i64 en.f1, .string en.f2] 23)) := below_alloc (Below.refl _ _) _
  have HI : Aside0 (AI w A l [(B, p)] (w.alloc (.cells #[.int .i64 en.f0, .int .i64 en.f1, .string en.f2] 23))) := Aside0.mk ⟨hB1, Kd.C_below hr0 hB1, fun x hx => by rw [List.mem_singleton] at hx; subst hx; exact Kd.C_below hp0 hB1⟩
  have HX := Aside0.mk (blk_new w (.cells #[.int .i64 en.f0, .int .i64 en.f1, .string en.f2] 23))
  have HU := Aside0.mk hu
  clear hr0 hp0 hB1 hu
  cases hF : Few l with
  | false =>
    go_enter Try.func4, Try.ntmps4
    go_wp2_with (first
        | (go_at_call 10; (with_reducible refine (sane_calls _).mono ?_); rintro e1 w1 ⟨rfl, hb⟩; have n1_ := Aside0.mk (HI.out.below hb); have n2_ := Aside0.mk ((hb.block _ (blk_lt HX.out)).trans HX.out); clear HI HX hb; have HI := n1_; have HX := n2_; clear n1_ n2_; have x0 := (blk_cell HX.out 0).trans rfl; have x1 := (blk_cell HX.out 1).trans rfl; have x2 : _ = some (Value.string en.f2) := (blk_cell HX.out 2).trans rfl)
        | (go_at_call 11; have k1_ := HI.out.2.1; (with_reducible refine (few_calls l A c _ k1_ hc0).mono ?_); clear k1_; rintro e1 w1 ⟨rfl, hb⟩; rw [hF]; have n1_ := Aside0.mk (HI.out.below hb); have n2_ := Aside0.mk ((hb.block _ (blk_lt HX.out)).trans HX.out); clear HI HX hb; have HI := n1_; have HX := n2_; clear n1_ n2_; have x0 := (blk_cell HX.out 0).trans rfl; have x1 := (blk_cell HX.out 1).trans rfl; have x2 : _ = some (Value.string en.f2) := (blk_cell HX.out 2).trans rfl))
    go_ret
    exact ⟨rfl, HI.out.1⟩
  | true =>
    by_cases hq : 2500 < en.f2.size
    · have b1 : decide ((2500 : Int) < (en.f2.size : Int)) = true := decide_eq_true (by omega)
      have b2 : decide (2500 < en.f2.size) = true := decide_eq_true hq
      go_enter Try.func4, Try.ntmps4
      go_wp2_with (first
        | (go_at_call 10; (with_reducible refine (sane_calls _).mono ?_); rintro e1 w1 ⟨rfl, hb⟩; have n1_ := Aside0.mk (HI.out.below hb); have n2_ := Aside0.mk ((hb.block _ (blk_lt HX.out)).trans HX.out); clear HI HX hb; have HI := n1_; have HX := n2_; clear n1_ n2_; have x0 := (blk_cell HX.out 0).trans rfl; have x1 := (blk_cell HX.out 1).trans rfl; have x2 : _ = some (Value.string en.f2) := (blk_cell HX.out 2).trans rfl)
        | (go_at_call 11; have k1_ := HI.out.2.1; (with_reducible refine (few_calls l A c _ k1_ hc0).mono ?_); clear k1_; rintro e1 w1 ⟨rfl, hb⟩; rw [hF]; have n1_ := Aside0.mk (HI.out.below hb); have n2_ := Aside0.mk ((hb.block _ (blk_lt HX.out)).trans HX.out); clear HI HX hb; have HI := n1_; have HX := n2_; clear n1_ n2_; have x0 := (blk_cell HX.out 0).trans rfl; have x1 := (blk_cell HX.out 1).trans rfl; have x2 : _ = some (Value.string en.f2) := (blk_cell HX.out 2).trans rfl))
      go_ret
      exact ⟨rfl, HI.out.1⟩
    · have b1 : decide ((2500 : Int) < (en.f2.size : Int)) = false := decide_eq_false (by omega)
      have b2 : decide (2500 < en.f2.size) = false := decide_eq_false hq
      by_cases hp : 40 < p.length
      · have b3 : decide ((40 : Int) < (p.length : Int)) = true := decide_eq_true (by omega)
        have b4 : decide (40 < p.length) = true := decide_eq_true hp
        go_enter Try.func4, Try.ntmps4
        go_wp2_with (first
        | (go_at_call 10; (with_reducible refine (sane_calls _).mono ?_); rintro e1 w1 ⟨rfl, hb⟩; have n1_ := Aside0.mk (HI.out.below hb); have n2_ := Aside0.mk ((hb.block _ (blk_lt HX.out)).trans HX.out); clear HI HX hb; have HI := n1_; have HX := n2_; clear n1_ n2_; have x0 := (blk_cell HX.out 0).trans rfl; have x1 := (blk_cell HX.out 1).trans rfl; have x2 : _ = some (Value.string en.f2) := (blk_cell HX.out 2).trans rfl)
        | (go_at_call 11; have k1_ := HI.out.2.1; (with_reducible refine (few_calls l A c _ k1_ hc0).mono ?_); clear k1_; rintro e1 w1 ⟨rfl, hb⟩; rw [hF]; have n1_ := Aside0.mk (HI.out.below hb); have n2_ := Aside0.mk ((hb.block _ (blk_lt HX.out)).trans HX.out); clear HI HX hb; have HI := n1_; have HX := n2_; clear n1_ n2_; have x0 := (blk_cell HX.out 0).trans rfl; have x1 := (blk_cell HX.out 1).trans rfl; have x2 : _ = some (Value.string en.f2) := (blk_cell HX.out 2).trans rfl))
        go_ret
        exact ⟨rfl, HI.out.1⟩
      · have b3 : decide ((40 : Int) < (p.length : Int)) = false := decide_eq_false (by omega)
        have b4 : decide (40 < p.length) = false := decide_eq_false hp
        have hp6 : p.length ≤ 1000000 := by omega
        go_enter Try.func4, Try.ntmps4
        go_wp2_with (first
        | (go_at_call 10; (with_reducible refine (sane_calls _).mono ?_); rintro e1 w1 ⟨rfl, hb⟩; have n1_ := Aside0.mk (HI.out.below hb); have n2_ := Aside0.mk ((hb.block _ (blk_lt HX.out)).trans HX.out); clear HI HX hb; have HI := n1_; have HX := n2_; clear n1_ n2_; have x0 := (blk_cell HX.out 0).trans rfl; have x1 := (blk_cell HX.out 1).trans rfl; have x2 : _ = some (Value.string en.f2) := (blk_cell HX.out 2).trans rfl)
        | (go_at_call 11; have k1_ := HI.out.2.1; (with_reducible refine (few_calls l A c _ k1_ hc0).mono ?_); clear k1_; rintro e1 w1 ⟨rfl, hb⟩; rw [hF]; have n1_ := Aside0.mk (HI.out.below hb); have n2_ := Aside0.mk ((hb.block _ (blk_lt HX.out)).trans HX.out); clear HI HX hb; have HI := n1_; have HX := n2_; clear n1_ n2_; have x0 := (blk_cell HX.out 0).trans rfl; have x1 := (blk_cell HX.out 1).trans rfl; have x2 : _ = some (Value.string en.f2) := (blk_cell HX.out 2).trans rfl)
        | (go_at_call 20; have k1_ := HI.out.2.1; (with_reducible refine (pathY_calls l A c i _ k1_ hc0).mono ?_); clear k1_; rintro e1 w1 ⟨B1, d1, rfl, hd1, hC1, hb⟩; clear x0 x1 x2; have n1_ := Aside0.mk (HI.out.add hb hC1); have n2_ := Aside0.mk ((hb.block _ (blk_lt HX.out)).trans HX.out); clear HI HX hb hC1; have HI := n1_; have HX := n2_; clear n1_ n2_; have x0 := (blk_cell HX.out 0).trans rfl; have x1 := (blk_cell HX.out 1).trans rfl; have x2 : _ = some (Value.string en.f2) := (blk_cell HX.out 2).trans rfl)
        | (go_at_call 21; have k1_ := HI.out.2.1; (with_reducible refine (rpathY_calls l A c i _ k1_ hc0).mono ?_); clear k1_; rintro e1 w1 ⟨B2, d2, rfl, hd2, hC1, hb⟩; clear x0 x1 x2; have n1_ := Aside0.mk (HI.out.add hb hC1); have n2_ := Aside0.mk ((hb.block _ (blk_lt HX.out)).trans HX.out); clear HI HX hb hC1; have HI := n1_; have HX := n2_; clear n1_ n2_; have x0 := (blk_cell HX.out 0).trans rfl; have x1 := (blk_cell HX.out 1).trans rfl; have x2 : _ = some (Value.string en.f2) := (blk_cell HX.out 2).trans rfl))
        refine rg_ [0, 1, 2, 3, 4, 5, 6, 7, 8, 9, 10, 11, 12, 13, 14, 15, 16, 17, 18, 19, 20, 21, 22, 23] [(0, 45), (1, 46), (2, 47), (3, 48), (4, 49), (5, 50), (6, 51), (7, 52), (8, 53), (9, 54), (10, 55), (11, 56), (12, 57), (13, 58), (14, 59), (15, 60), (16, 61), (17, 62), (18, 63), (19, 64), (20, 65), (21, 66), (22, 67), (23, 12)] (bitsOf (rtab .any (opsOf Try.f4 7)).2) (pathsRel en l i root many p B B1 B2 d d1 d2) (by kernel_rfl) rfl (by kernel_rfl) rfl (by kernel_rfl) (fun j v w w' h _ => by revert h; unfold pathsRel; split <;> exact id) ?steps ?rend
        case steps =>
          refine steps_cons (fun a1 w2 hB hsz hdf hn hd => ⟨_, rfl, fun K hK => ?_⟩) ?_
          · have e13 := eval_of ((hn 13 rfl).trans rfl)
            refine value_ (v := .slice B1 (pathR l i).length d1) (w1 := w2) rfl rfl ?_ (hK _ _ (Below.refl _ _) rfl)
            clear hd hn hK
            simp only [execOp, Option.map_some, Option.map_none, List.map_toArray, List.map_cons, List.map_nil, List.getElem_toArray, List.getElem_cons_zero, List.getElem_cons_succ, e13]
            clear e13
            go_simp
          refine steps_cons (fun a1 w2 hB hsz hdf hn hd => ⟨_, rfl, fun K hK => ?_⟩) ?_
          · have e15 := eval_of ((hn 15 rfl).trans rfl)
            refine value_ (v := .slice B2 (pathR l i).length d2) (w1 := w2) rfl rfl ?_ (hK _ _ (Below.refl _ _) rfl)
            clear hd hn hK
            simp only [execOp, Option.map_some, Option.map_none, List.map_toArray, List.map_cons, List.map_nil, List.getElem_toArray, List.getElem_cons_zero, List.getElem_cons_succ, e15]
            clear e15
            go_simp
          refine steps_cons (fun a1 w2 hB hsz hdf hn hd => ⟨_, rfl, fun K hK => ?_⟩) ?_
          · obtain ⟨v45, h45, rfl⟩ := hd 0 45 rfl (by kernel_rfl)
            have e45 := eval_of h45
            clear h45
            obtain ⟨v46, h46, rfl⟩ := hd 1 46 rfl (by kernel_rfl)
            have e46 := eval_of h46
            clear h46
            refine goes_ Try.func22 (by kernel_rfl) rfl #[.slice B1 (pathR l i).length d1, .slice B2 (pathR l i).length d2] (by rfl) rfl rfl (by simp only [List.map_toArray, List.map_cons, List.map_nil, e45, e46]) ?_
            have hI_ := HI.out.below hB
            have k1_ := hI_.2.2 (B1, pathR l i) (by simp)
            have k2_ := hI_.2.2 (B2, pathR l i) (by simp)
            refine (equalT_calls (pathR l i) B1 B2 d1 d2 _ k1_ hd1 k2_ hd2).mono ?_
            rintro e3 w3 ⟨rfl, hbw⟩
            exact ⟨_, rfl, hK _ _ hbw rfl⟩
          refine steps_cons (fun a1 w2 hB hsz hdf hn hd => ⟨_, rfl, fun K hK => ?_⟩) ?_
          · obtain ⟨v47, h47, rfl⟩ := hd 2 47 rfl (by kernel_rfl)
            have e47 := eval_of h47
            clear h47
            refine value_ (v := .bool true) (w1 := w2) rfl rfl ?_ (hK _ _ (Below.refl _ _) rfl)
            clear hd hn hK
            simp only [execOp, Option.map_some, Option.map_none, List.map_toArray, List.map_cons, List.map_nil, List.getElem_toArray, List.getElem_cons_zero, List.getElem_cons_succ, e47]
            clear e47
            go_simp
          refine steps_cons (fun a1 w2 hB hsz hdf hn hd => ⟨_, rfl, fun K hK => ?_⟩) ?_
          · have e14 := eval_of ((hn 14 rfl).trans rfl)
            obtain ⟨v48g, h48g, q48g⟩ := hd 3 48 rfl (by kernel_rfl)
            have e48g : v48g = .bool true := q48g
            subst e48g
            refine value_ (v := .int .i64 (errP l i)) (w1 := w2) (wanted_of (j := 3) (b := true) (t := 48) rfl rfl h48g) rfl ?_ (hK _ _ (Below.refl _ _) rfl)
            clear hd hn hK
            simp only [execOp, Option.map_some, Option.map_none, List.map_toArray, List.map_cons, List.map_nil, List.getElem_toArray, List.getElem_cons_zero, List.getElem_cons_succ, e14]
            clear e14
            go_simp
          refine steps_cons (fun a1 w2 hB hsz hdf hn hd => ⟨_, rfl, fun K hK => ?_⟩) ?_
          · have e16 := eval_of ((hn 16 rfl).trans rfl)
            obtain ⟨v48g, h48g, q48g⟩ := hd 3 48 rfl (by kernel_rfl)
            have e48g : v48g = .bool true := q48g
            subst e48g
            refine value_ (v := .int .i64 (errP l i)) (w1 := w2) (wanted_of (j := 3) (b := true) (t := 48) rfl rfl h48g) rfl ?_ (hK _ _ (Below.refl _ _) rfl)
            clear hd hn hK
            simp only [execOp, Option.map_some, Option.map_none, List.map_toArray, List.map_cons, List.map_nil, List.getElem_toArray, List.getElem_cons_zero, List.getElem_cons_succ, e16]
            clear e16
            go_simp
          refine steps_cons (fun a1 w2 hB hsz hdf hn hd => ⟨_, rfl, fun K hK => ?_⟩) ?_
          · obtain ⟨v49, h49, rfl⟩ := hd 4 49 rfl (by kernel_rfl)
            have e49 := eval_of h49
            clear h49
            obtain ⟨v50, h50, rfl⟩ := hd 5 50 rfl (by kernel_rfl)
            have e50 := eval_of h50
            clear h50
            obtain ⟨v48g, h48g, q48g⟩ := hd 3 48 rfl (by kernel_rfl)
            have e48g : v48g = .bool true := q48g
            subst e48g
            refine value_ (v := .bool true) (w1 := w2) (wanted_of (j := 3) (b := true) (t := 48) rfl rfl h48g) rfl ?_ (hK _ _ (Below.refl _ _) rfl)
            clear hd hn hK
            simp only [execOp, Option.map_some, Option.map_none, List.map_toArray, List.map_cons, List.map_nil, List.getElem_toArray, List.getElem_cons_zero, List.getElem_cons_succ, e49, e50]
            clear e49 e50
            go_simp
          refine steps_cons (fun a1 w2 hB hsz hdf hn hd => ⟨_, rfl, fun K hK => ?_⟩) ?_
          · obtain ⟨v48, h48, rfl⟩ := hd 3 48 rfl (by kernel_rfl)
            have e48 := eval_of h48
            clear h48
            obtain ⟨v51, h51, rfl⟩ := hd 6 51 rfl (by kernel_rfl)
            have e51 := eval_of h51
            clear h51
            refine value_ (v := .bool true) (w1 := w2) rfl rfl ?_ (hK _ _ (Below.refl _ _) rfl)
            clear hd hn hK
            simp only [execOp, Option.map_some, Option.map_none, List.map_toArray, List.map_cons, List.map_nil, List.getElem_toArray, List.getElem_cons_zero, List.getElem_cons_succ, e48, e51]
            clear e48 e51
            go_simp
          refine steps_cons (fun a1 w2 hB hsz hdf hn hd => ⟨_, rfl, fun K hK => ?_⟩) ?_
          · obtain ⟨v52, h52, rfl⟩ := hd 7 52 rfl (by kernel_rfl)
            have e52 := eval_of h52
            clear h52
            refine value_ (v := .bool true) (w1 := w2) rfl rfl ?_ (hK _ _ (Below.refl _ _) rfl)
            clear hd hn hK
            simp only [execOp, Option.map_some, Option.map_none, List.map_toArray, List.map_cons, List.map_nil, List.getElem_toArray, List.getElem_cons_zero, List.getElem_cons_succ, e52]
            clear e52
            go_simp
          refine steps_cons (fun a1 w2 hB hsz hdf hn hd => ⟨_, rfl, fun K hK => ?_⟩) ?_
          · have e2 := eval_of ((hn 2 rfl).trans rfl)
            obtain ⟨v53g, h53g, q53g⟩ := hd 8 53 rfl (by kernel_rfl)
            have e53g : v53g = .bool true := q53g
            subst e53g
            refine value_ (v := .int .u64 root) (w1 := w2) (wanted_of (j := 8) (b := true) (t := 53) rfl rfl h53g) rfl ?_ (hK _ _ (Below.refl _ _) rfl)
            clear hd hn hK
            simp only [execOp, Option.map_some, Option.map_none, List.map_toArray, List.map_cons, List.map_nil, List.getElem_toArray, List.getElem_cons_zero, List.getElem_cons_succ, e2]
            clear e2
            go_simp
          refine steps_cons (fun a1 w2 hB hsz hdf hn hd => ⟨_, rfl, fun K hK => ?_⟩) ?_
          · have e3 := eval_of ((hn 3 rfl).trans rfl)
            obtain ⟨v53g, h53g, q53g⟩ := hd 8 53 rfl (by kernel_rfl)
            have e53g : v53g = .bool true := q53g
            subst e53g
            refine value_ (v := .int .i64 many) (w1 := w2) (wanted_of (j := 8) (b := true) (t := 53) rfl rfl h53g) rfl ?_ (hK _ _ (Below.refl _ _) rfl)
            clear hd hn hK
            simp only [execOp, Option.map_some, Option.map_none, List.map_toArray, List.map_cons, List.map_nil, List.getElem_toArray, List.getElem_cons_zero, List.getElem_cons_succ, e3]
            clear e3
            go_simp
          refine steps_cons (fun a1 w2 hB hsz hdf hn hd => ⟨_, rfl, fun K hK => ?_⟩) ?_
          · have e1 := eval_of ((hn 1 rfl).trans rfl)
            obtain ⟨v53g, h53g, q53g⟩ := hd 8 53 rfl (by kernel_rfl)
            have e53g : v53g = .bool true := q53g
            subst e53g
            refine value_ (v := .int .i64 i) (w1 := w2) (wanted_of (j := 8) (b := true) (t := 53) rfl rfl h53g) rfl ?_ (hK _ _ (Below.refl _ _) rfl)
            clear hd hn hK
            simp only [execOp, Option.map_some, Option.map_none, List.map_toArray, List.map_cons, List.map_nil, List.getElem_toArray, List.getElem_cons_zero, List.getElem_cons_succ, e1]
            clear e1
            go_simp
          refine steps_cons (fun a1 w2 hB hsz hdf hn hd => ⟨_, rfl, fun K hK => ?_⟩) ?_
          · have e10 := eval_of ((hn 10 rfl).trans rfl)
            obtain ⟨v53g, h53g, q53g⟩ := hd 8 53 rfl (by kernel_rfl)
            have e53g : v53g = .bool true := q53g
            subst e53g
            refine value_ (v := .agg #[.int .i64 en.f0, .int .i64 en.f1, .string en.f2]) (w1 := w2) (wanted_of (j := 8) (b := true) (t := 53) rfl rfl h53g) rfl ?_ (hK _ _ (Below.refl _ _) rfl)
            clear hd hn hK
            simp only [execOp, Option.map_some, Option.map_none, List.map_toArray, List.map_cons, List.map_nil, List.getElem_toArray, List.getElem_cons_zero, List.getElem_cons_succ, e10]
            clear e10
            have hbx := (hB.block _ (blk_lt HX.out)).trans HX.out
            have hx0 : w2.cell? ⟨w.heap.size, 0, none⟩ = some (.int .i64 en.f0) := (blk_cell hbx 0).trans rfl
            have hx1 : w2.cell? ⟨w.heap.size, 1, none⟩ = some (.int .i64 en.f1) := (blk_cell hbx 1).trans rfl
            have hx2 : w2.cell? ⟨w.heap.size, 2, none⟩ = some (.string en.f2) := (blk_cell hbx 2).trans rfl
            clear hB hbx
            go_simp
          refine steps_cons (fun a1 w2 hB hsz hdf hn hd => ⟨_, rfl, fun K hK => ?_⟩) ?_
          · have e5 := eval_of ((hn 5 rfl).trans rfl)
            obtain ⟨v53g, h53g, q53g⟩ := hd 8 53 rfl (by kernel_rfl)
            have e53g : v53g = .bool true := q53g
            subst e53g
            refine value_ (v := .slice B p.length d) (w1 := w2) (wanted_of (j := 8) (b := true) (t := 53) rfl rfl h53g) rfl ?_ (hK _ _ (Below.refl _ _) rfl)
            clear hd hn hK
            simp only [execOp, Option.map_some, Option.map_none, List.map_toArray, List.map_cons, List.map_nil, List.getElem_toArray, List.getElem_cons_zero, List.getElem_cons_succ, e5]
            clear e5
            go_simp
          refine steps_cons (fun a1 w2 hB hsz hdf hn hd => ⟨_, rfl, fun K hK => ?_⟩) ?_
          · obtain ⟨v54, h54, rfl⟩ := hd 9 54 rfl (by kernel_rfl)
            have e54 := eval_of h54
            clear h54
            obtain ⟨v55, h55, rfl⟩ := hd 10 55 rfl (by kernel_rfl)
            have e55 := eval_of h55
            clear h55
            obtain ⟨v56, h56, rfl⟩ := hd 11 56 rfl (by kernel_rfl)
            have e56 := eval_of h56
            clear h56
            obtain ⟨v57, h57, rfl⟩ := hd 12 57 rfl (by kernel_rfl)
            have e57 := eval_of h57
            clear h57
            obtain ⟨v58, h58, rfl⟩ := hd 13 58 rfl (by kernel_rfl)
            have e58 := eval_of h58
            clear h58
            obtain ⟨v53g, h53g, q53g⟩ := hd 8 53 rfl (by kernel_rfl)
            have e53g : v53g = .bool true := q53g
            subst e53g
            refine goes_ Try.func23 (by kernel_rfl) rfl #[.int .u64 root, .int .i64 many, .int .i64 i, .agg #[.int .i64 en.f0, .int .i64 en.f1, .string en.f2], .slice B p.length d] (wanted_of (j := 8) (b := true) (t := 53) rfl rfl h53g) rfl rfl (by simp only [List.map_toArray, List.map_cons, List.map_nil, e54, e55, e56, e57, e58]) ?_
            have hI_ := HI.out.below hB
            have k1_ := hI_.2.2 (B, p) (by simp)
            refine (checkPathX_calls root many i en p B d _ k1_ hd0 hp6 HU.out).mono ?_
            rintro e3 w3 ⟨rfl, hbw⟩
            exact ⟨_, rfl, hK _ _ hbw rfl⟩
          refine steps_cons (fun a1 w2 hB hsz hdf hn hd => ⟨_, rfl, fun K hK => ?_⟩) ?_
          · have e2 := eval_of ((hn 2 rfl).trans rfl)
            obtain ⟨v53g, h53g, q53g⟩ := hd 8 53 rfl (by kernel_rfl)
            have e53g : v53g = .bool true := q53g
            subst e53g
            refine value_ (v := .int .u64 root) (w1 := w2) (wanted_of (j := 8) (b := true) (t := 53) rfl rfl h53g) rfl ?_ (hK _ _ (Below.refl _ _) rfl)
            clear hd hn hK
            simp only [execOp, Option.map_some, Option.map_none, List.map_toArray, List.map_cons, List.map_nil, List.getElem_toArray, List.getElem_cons_zero, List.getElem_cons_succ, e2]
            clear e2
            go_simp
          refine steps_cons (fun a1 w2 hB hsz hdf hn hd => ⟨_, rfl, fun K hK => ?_⟩) ?_
          · have e3 := eval_of ((hn 3 rfl).trans rfl)
            obtain ⟨v53g, h53g, q53g⟩ := hd 8 53 rfl (by kernel_rfl)
            have e53g : v53g = .bool true := q53g
            subst e53g
            refine value_ (v := .int .i64 many) (w1 := w2) (wanted_of (j := 8) (b := true) (t := 53) rfl rfl h53g) rfl ?_ (hK _ _ (Below.refl _ _) rfl)
            clear hd hn hK
            simp only [execOp, Option.map_some, Option.map_none, List.map_toArray, List.map_cons, List.map_nil, List.getElem_toArray, List.getElem_cons_zero, List.getElem_cons_succ, e3]
            clear e3
            go_simp
          refine steps_cons (fun a1 w2 hB hsz hdf hn hd => ⟨_, rfl, fun K hK => ?_⟩) ?_
          · have e1 := eval_of ((hn 1 rfl).trans rfl)
            obtain ⟨v53g, h53g, q53g⟩ := hd 8 53 rfl (by kernel_rfl)
            have e53g : v53g = .bool true := q53g
            subst e53g
            refine value_ (v := .int .i64 i) (w1 := w2) (wanted_of (j := 8) (b := true) (t := 53) rfl rfl h53g) rfl ?_ (hK _ _ (Below.refl _ _) rfl)
            clear hd hn hK
            simp only [execOp, Option.map_some, Option.map_none, List.map_toArray, List.map_cons, List.map_nil, List.getElem_toArray, List.getElem_cons_zero, List.getElem_cons_succ, e1]
            clear e1
            go_simp
          refine steps_cons (fun a1 w2 hB hsz hdf hn hd => ⟨_, rfl, fun K hK => ?_⟩) ?_
          · have e10 := eval_of ((hn 10 rfl).trans rfl)
            obtain ⟨v53g, h53g, q53g⟩ := hd 8 53 rfl (by kernel_rfl)
            have e53g : v53g = .bool true := q53g
            subst e53g
            refine value_ (v := .agg #[.int .i64 en.f0, .int .i64 en.f1, .string en.f2]) (w1 := w2) (wanted_of (j := 8) (b := true) (t := 53) rfl rfl h53g) rfl ?_ (hK _ _ (Below.refl _ _) rfl)
            clear hd hn hK
            simp only [execOp, Option.map_some, Option.map_none, List.map_toArray, List.map_cons, List.map_nil, List.getElem_toArray, List.getElem_cons_zero, List.getElem_cons_succ, e10]
            clear e10
            have hbx := (hB.block _ (blk_lt HX.out)).trans HX.out
            have hx0 : w2.cell? ⟨w.heap.size, 0, none⟩ = some (.int .i64 en.f0) := (blk_cell hbx 0).trans rfl
            have hx1 : w2.cell? ⟨w.heap.size, 1, none⟩ = some (.int .i64 en.f1) := (blk_cell hbx 1).trans rfl
            have hx2 : w2.cell? ⟨w.heap.size, 2, none⟩ = some (.string en.f2) := (blk_cell hbx 2).trans rfl
            clear hB hbx
            go_simp
          refine steps_cons (fun a1 w2 hB hsz hdf hn hd => ⟨_, rfl, fun K hK => ?_⟩) ?_
          · have e5 := eval_of ((hn 5 rfl).trans rfl)
            obtain ⟨v53g, h53g, q53g⟩ := hd 8 53 rfl (by kernel_rfl)
            have e53g : v53g = .bool true := q53g
            subst e53g
            refine value_ (v := .slice B p.length d) (w1 := w2) (wanted_of (j := 8) (b := true) (t := 53) rfl rfl h53g) rfl ?_ (hK _ _ (Below.refl _ _) rfl)
            clear hd hn hK
            simp only [execOp, Option.map_some, Option.map_none, List.map_toArray, List.map_cons, List.map_nil, List.getElem_toArray, List.getElem_cons_zero, List.getElem_cons_succ, e5]
            clear e5
            go_simp
          refine steps_cons (fun a1 w2 hB hsz hdf hn hd => ⟨_, rfl, fun K hK => ?_⟩) ?_
          · obtain ⟨v60, h60, rfl⟩ := hd 15 60 rfl (by kernel_rfl)
            have e60 := eval_of h60
            clear h60
            obtain ⟨v61, h61, rfl⟩ := hd 16 61 rfl (by kernel_rfl)
            have e61 := eval_of h61
            clear h61
            obtain ⟨v62, h62, rfl⟩ := hd 17 62 rfl (by kernel_rfl)
            have e62 := eval_of h62
            clear h62
            obtain ⟨v63, h63, rfl⟩ := hd 18 63 rfl (by kernel_rfl)
            have e63 := eval_of h63
            clear h63
            obtain ⟨v64, h64, rfl⟩ := hd 19 64 rfl (by kernel_rfl)
            have e64 := eval_of h64
            clear h64
            obtain ⟨v53g, h53g, q53g⟩ := hd 8 53 rfl (by kernel_rfl)
            have e53g : v53g = .bool true := q53g
            subst e53g
            refine goes_ Try.func24 (by kernel_rfl) rfl #[.int .u64 root, .int .i64 many, .int .i64 i, .agg #[.int .i64 en.f0, .int .i64 en.f1, .string en.f2], .slice B p.length d] (wanted_of (j := 8) (b := true) (t := 53) rfl rfl h53g) rfl rfl (by simp only [List.map_toArray, List.map_cons, List.map_nil, e60, e61, e62, e63, e64]) ?_
            have hI_ := HI.out.below hB
            have k1_ := hI_.2.2 (B, p) (by simp)
            refine (rcheckPathX_calls root many i en p B d _ k1_ hd0 hp6 HU.out).mono ?_
            rintro e3 w3 ⟨rfl, hbw⟩
            exact ⟨_, rfl, hK _ _ hbw rfl⟩
          refine steps_cons (fun a1 w2 hB hsz hdf hn hd => ⟨_, rfl, fun K hK => ?_⟩) ?_
          · obtain ⟨v59, h59, rfl⟩ := hd 14 59 rfl (by kernel_rfl)
            have e59 := eval_of h59
            clear h59
            obtain ⟨v65, h65, rfl⟩ := hd 20 65 rfl (by kernel_rfl)
            have e65 := eval_of h65
            clear h65
            obtain ⟨v53g, h53g, q53g⟩ := hd 8 53 rfl (by kernel_rfl)
            have e53g : v53g = .bool true := q53g
            subst e53g
            refine value_ (v := .bool true) (w1 := w2) (wanted_of (j := 8) (b := true) (t := 53) rfl rfl h53g) rfl ?_ (hK _ _ (Below.refl _ _) rfl)
            clear hd hn hK
            simp only [execOp, Option.map_some, Option.map_none, List.map_toArray, List.map_cons, List.map_nil, List.getElem_toArray, List.getElem_cons_zero, List.getElem_cons_succ, e59, e65]
            clear e59 e65
            go_simp
          refine steps_cons (fun a1 w2 hB hsz hdf hn hd => ⟨_, rfl, fun K hK => ?_⟩) ?_
          · obtain ⟨v53, h53, rfl⟩ := hd 8 53 rfl (by kernel_rfl)
            have e53 := eval_of h53
            clear h53
            obtain ⟨v66, h66, rfl⟩ := hd 21 66 rfl (by kernel_rfl)
            have e66 := eval_of h66
            clear h66
            refine value_ (v := .bool true) (w1 := w2) rfl rfl ?_ (hK _ _ (Below.refl _ _) rfl)
            clear hd hn hK
            simp only [execOp, Option.map_some, Option.map_none, List.map_toArray, List.map_cons, List.map_nil, List.getElem_toArray, List.getElem_cons_zero, List.getElem_cons_succ, e53, e66]
            clear e53 e66
            go_simp
          refine steps_cons (fun a1 w2 hB hsz hdf hn hd => ⟨_, rfl, fun K hK => ?_⟩) ?_
          · obtain ⟨v67, h67, rfl⟩ := hd 22 67 rfl (by kernel_rfl)
            have e67 := eval_of h67
            clear h67
            refine value_ (v := .bool true) (w1 := w2) rfl rfl ?_ (hK _ _ (Below.refl _ _) rfl)
            clear hd hn hK
            simp only [execOp, Option.map_some, Option.map_none, List.map_toArray, List.map_cons, List.map_nil, List.getElem_toArray, List.getElem_cons_zero, List.getElem_cons_succ, e67]
            clear e67
            go_simp
          exact steps_nil
        case rend =>
          intro vals w2 hB hrr
          have hl : vals 23 = .bool true := hrr (23, 12) (by simp)
          have HZ := Aside0.mk (HI.out.below hB)
          clear hrr hB HX HI x0 x1 x2
          simp only [fill, Act.put, List.setIfInBounds_toArray, List.set_cons_zero, List.set_cons_succ, hl]
          go_wp2
          go_ret
          exact ⟨rfl, HZ.out.1⟩
end Go.Proofs.Ytkedodmlbepfnaa.Lg
namespace Go.Proofs.Ytkedodmlbepfnaa.ledgerPaths
open Go.ChangeShapes Go.WideShapes Go.ChangeAt Go.RowKit
open Go.ChangeMaps (open_string shut_string)
set_option linter.unusedVariables false
theorem own : ownKnob Try.prog.godebug = none := by kernel_rfl
theorem laidOut : laidOutB Try.prog = true := by kernel_rfl
set_option maxRecDepth 100000 in
theorem lifted (os : Os) (started : os.Started) (H : Type) (enc : TypeId × Value → H) :
    ReturnsInHanded {} Try.checked os 4 .any (Rows.ledgerPathsSpec.pre6 enc Try.prog Try.f4 Rows.ledgerPathsRow.domain false) (Rows.ledgerPathsSpec.post enc Try.prog Try.f4 false true false false) := by
  refine returnsInHanded_of_change_sized (C := Try.checked) own started (by kernel_rfl) Try.func4
    (ChangeSpec.witness6 (enc := enc) (C := Try.checked) false ⟨#[], #[.slice none 0 0, .int .i64 0, .int .u64 0, .int .i64 0, .agg #[.int .i64 0, .int .i64 0, .string ByteArray.empty], .slice none 0 0], []⟩ 8 (by kernel_rfl) (by kernel_rfl) (by kernel_rfl) (by kernel_rfl)) ?_
  intro W base args ds gs before hval0 hW hcnd hsz0 _
  have hval : ∀ (j : Nat) t v, Try.f4.params[j]? = some t → args[j]? = some v → Value.okWide Try.prog W .any base t v := hval0
  have hW' := hW
  obtain ⟨p, q, hA0, hV, rfl, hfz, hnd⟩ := hW
  have hA : DataW.TrodAll enc Try.prog W 0 (fun _ => true) true Try.f4.params.toList args.toList ds p := hA0
  rw [Try.params4] at hA hval
  obtain ⟨v0, vs0, d0, ds0, p0, q0, hargs, rfl, rfl, h0, r0⟩ := trodAll_cons hA
  obtain ⟨v1, vs1, d1, ds1, p1, q1, rfl, rfl, rfl, h1, r1⟩ := trodAll_cons r0
  obtain ⟨v2, vs2, d2, ds2, p2, q2, rfl, rfl, rfl, h2, r2⟩ := trodAll_cons r1
  obtain ⟨v3, vs3, d3, ds3, p3, q3, rfl, rfl, rfl, h3, r3⟩ := trodAll_cons r2
  obtain ⟨v4, vs4, d4, ds4, p4, q4, rfl, rfl, rfl, h4, r4⟩ := trodAll_cons r3
  obtain ⟨v5, vs5, d5, ds5, p5, q5, rfl, rfl, rfl, h5, r5⟩ := trodAll_cons r4
  obtain ⟨rfl, rfl, rfl⟩ := trodAll_nil r5
  obtain rfl : args = #[v0, v1, v2, v3, v4, v5] := by cases args; simp_all
  obtain ⟨rfl, rfl⟩ := trodVars_none hV
  obtain ⟨a0, len0, cap0, rfl⟩ := okWide_slice Try.underlying24 (hval 0 24 v0 rfl rfl)
  have k0 := h0
  have lt0 : ∀ x ∈ p0, x.block < W.heap.size := by obtain ⟨m, hm⟩ := k0; exact DataW.trod_lt m _ _ _ hm
  obtain ⟨z0, rfl, c0, w0⟩ := Lg.entries_of h0
  obtain ⟨a1, rfl, rfl, rfl, w1⟩ := open_int Try.underlying3 (hval 1 3 v1 rfl rfl) h1
  obtain ⟨a2, rfl, rfl, rfl, w2⟩ := open_int Try.underlying25 (hval 2 25 v2 rfl rfl) h2
  obtain ⟨a3, rfl, rfl, rfl, w3⟩ := open_int Try.underlying3 (hval 3 3 v3 rfl rfl) h3
  obtain ⟨x4, rfl, _⟩ := okWide_struct Try.underlying23 (hval 4 23 v4 rfl rfl)
  have k4 := h4
  have lt4 : ∀ x ∈ p4, x.block < W.heap.size := by obtain ⟨m, hm⟩ := k4; exact DataW.trod_lt m _ _ _ hm
  obtain ⟨e4, rfl⟩ := Lg.entry_arg h4
  obtain ⟨a5, len5, cap5, rfl⟩ := okWide_slice Try.underlying35 (hval 5 35 v5 rfl rfl)
  have k5 := h5
  have lt5 : ∀ x ∈ p5, x.block < W.heap.size := by obtain ⟨m, hm⟩ := k5; exact DataW.trod_lt m _ _ _ hm
  obtain ⟨z5, rfl, c5, w5, u5⟩ := Lg.numbers_of h5
  clear hA0 hval0 hsz0
  refine (Lg.paths_walk z0 a0 cap0 a1 a2 a3 e4 z5 a5 cap5 W w0 c0 w5 c5 u5).mono fun e W' ⟨he, bel⟩ => ?_
  subst he
  exact ⟨_, rfl, _, _, _, [], _, [], hW', trodAll_mk1 (shut_bool Try.underlying4 _), (trodAll_cons_mk (Below.trod laidOut (by kernel_rfl) (of_decide_eq_true (by kernel_rfl)) k0 bel lt0) (trodAll_cons_mk (shut_int Try.underlying3 w1) (trodAll_cons_mk (shut_int Try.underlying25 w2) (trodAll_cons_mk (shut_int Try.underlying3 w3) (trodAll_cons_mk (Below.trod laidOut (by kernel_rfl) (of_decide_eq_true (by kernel_rfl)) k4 bel lt4) (trodAll_cons_mk (Below.trod laidOut (by kernel_rfl) (of_decide_eq_true (by kernel_rfl)) k5 bel lt5) trodAll_mk0)))))), rfl, bel.frame _, fun h => by cases h⟩
theorem over : Rows.ledgerPathsRow.holds Try.pinned (OpenSpec.ofChange Rows.ledgerPathsSpec) :=
  OpenClaim.holds_of_wide 4 Try.f4 rfl rfl rfl rfl rfl rfl rfl ⟨rfl, rfl, rfl, rfl, rfl⟩ rfl rfl rfl rfl rfl (by kernel_rfl) Try.func4 (by kernel_rfl)
    (of_decide_eq_true (by kernel_rfl)) (by unfold Func.isWrapper; first | (rw [if_pos (by decide +kernel)]; kernel_rfl) | (rw [if_neg (by decide +kernel)]; exact ⟨rfl, rfl⟩))
    (fun os started H enc _ => lifted os started H enc)
theorem proved : Rows.LedgerPathsSaid := over
#print axioms proved
end Go.Proofs.Ytkedodmlbepfnaa.ledgerPaths
namespace Go.Proofs.Ytkedodmlbepfnaa
/-- The row, under a short name, for the claim. -/
theorem ledgerPaths_holds : Rows.LedgerPathsSaid := ledgerPaths.proved
end Go.Proofs.Ytkedodmlbepfnaa
