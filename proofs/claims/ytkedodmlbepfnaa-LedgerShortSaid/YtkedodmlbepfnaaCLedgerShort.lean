/- LedgerShort: for every list and two numbers the law returns true, and its arguments read afterwards as before. No condition. -/
import Derived.Test.YtkedodmlbepfnaaRows
import Derived.WalkKit
import Derived.ProofKit
import Derived.OpenShut
import Derived.ShutString
import Derived.ChangeOld
import Derived.Below
import Derived.SizedLaws
import Derived.Carry
import Derived.Test.YtkedodmlbepfnaaM4
set_option linter.unusedSimpArgs false
set_option linter.unusedVariables false
namespace Go.Proofs.Ytkedodmlbepfnaa.Lg
open Go.RowKit Go.Proofs.YtkedodmlbepfnaaW.PrintWords Go.Proofs.YtkedodmlbepfnaaW.PrintLast Go.Proofs.YtkedodmlbepfnaaW.PrintMore Go.Proofs.Ytkedodmlbepfnaa.Rg
theorem grownY_calls (l : List S23) (A : Option Addr) (c : Nat) (i : Int) (w : World) (hr0 : Kd.C k23 w A l.length l) (hc0 : l.length ≤ c) : Calls Try.prog 25 #[.slice A l.length c, .int .i64 i] w fun x w' => ∃ B d, x = .returned (.tuple #[.slice B (grownR l i).length d, .int .i64 (errG l i)]) ∧ (grownR l i).length ≤ d ∧ Kd.C (Kd.int .u64) w' B (grownR l i).length (grownR l i) ∧ Below w.heap.size w w' := by
  refine (grownX_calls l A c i w hr0 hc0).mono ?_
  rintro x w' ⟨v, rfl, hN, hb⟩
  obtain ⟨B, d, rfl, hd, hC⟩ := hN.reads
  exact ⟨B, d, rfl, hd, hC, hb⟩
theorem rgrownY_calls (l : List S23) (A : Option Addr) (c : Nat) (i : Int) (w : World) (hr0 : Kd.C k23 w A l.length l) (hc0 : l.length ≤ c) : Calls Try.prog 26 #[.slice A l.length c, .int .i64 i] w fun x w' => ∃ B d, x = .returned (.tuple #[.slice B (grownR l i).length d, .int .i64 (errG l i)]) ∧ (grownR l i).length ≤ d ∧ Kd.C (Kd.int .u64) w' B (grownR l i).length (grownR l i) ∧ Below w.heap.size w w' := by
  refine (rgrownX_calls l A c i w hr0 hc0).mono ?_
  rintro x w' ⟨v, rfl, hN, hb⟩
  obtain ⟨B, d, rfl, hd, hC⟩ := hN.reads
  exact ⟨B, d, rfl, hd, hC, hb⟩
theorem equalT_calls (xs : List Int) (A B : Option Addr) (c d : Nat) (w : World) (hr0 : Kd.C (Kd.int .u64) w A xs.length xs) (hc0 : xs.length ≤ c) (hs0 : Kd.C (Kd.int .u64) w B xs.length xs) (hd0 : xs.length ≤ d) :
    Calls Try.prog 22 #[.slice A xs.length c, .slice B xs.length d] w fun e w' => e = .returned (.bool true) ∧ Below w.heap.size w w' := by
  refine (equal_calls xs xs A B c d w hr0 hc0 hs0 hd0).mono ?_
  rintro x w' ⟨rfl, hb⟩
  exact ⟨by rw [decide_eq_true rfl], hb⟩
/-- The arguments, and what has come of the world. -/
def AI (w : World) (A : Option Addr) (l : List S23) (Ls : List (Option Addr × List Int)) (W : World) : Prop :=
  Below w.heap.size w W ∧ Kd.C k23 W A l.length l ∧ ∀ x ∈ Ls, Kd.C (Kd.int .u64) W x.1 x.2.length x.2
theorem AI.below {w W W' : World} {A : Option Addr} {l : List S23} {Ls : List (Option Addr × List Int)} (h : AI w A l Ls W) (hb : Below W.heap.size W W') : AI w A l Ls W' :=
  ⟨h.1.trans (hb.mono h.1.size), Kd.C_below h.2.1 hb, fun x hx => Kd.C_below (h.2.2 x hx) hb⟩
theorem AI.add {w W W' : World} {A B : Option Addr} {l : List S23} {Ls : List (Option Addr × List Int)} {xs : List Int} (h : AI w A l Ls W) (hb : Below W.heap.size W W') (hC : Kd.C (Kd.int .u64) W' B xs.length xs) : AI w A l ((B, xs) :: Ls) W' :=
  ⟨(h.below hb).1, (h.below hb).2.1, fun x hx => (List.mem_cons.1 hx).elim (fun e => e ▸ hC) ((h.below hb).2.2 x)⟩
set_option maxHeartbeats 8000000 in
set_option maxRecDepth 100000 in
theorem growth_walk (l : List S23) (A : Option Addr) (c : Nat) (i old root many : Int) (p : List Int) (B : Option Addr) (d : Nat) (w : World) (hr0 : Kd.C k23 w A l.length l) (hc0 : l.length ≤ c) (hp0 : Kd.C (Kd.int .u64) w B p.length p) (hd0 : p.length ≤ d) (hu : ∀ y ∈ p, U64 y) (ho : U64 old) :
    Calls Try.prog 5 #[.slice A l.length c, .int .i64 i, .int .u64 old, .int .u64 root, .int .i64 many, .slice B p.length d] w fun e w' => e = .returned (.bool true) ∧ Below w.heap.size w w' := by
  have HI : Aside0 (AI w A l [(B, p)] w) := Aside0.mk ⟨Below.refl _ _, hr0, fun x hx => by rw [List.mem_singleton] at hx; subst hx; exact hp0⟩
  clear hr0 hp0
  have HU := Aside0.mk hu
  have HO := Aside0.mk ho
  clear hu ho
  cases hF : Few l with
  | false =>
    go_enter Try.func5, Try.ntmps5
    go_wp2_with (first
      | (go_at_call 10; (with_reducible refine (sane_calls _).mono ?_); rintro e w1 ⟨rfl, hb⟩; have n1_ := Aside0.mk (HI.out.below hb); clear HI hb; have HI := n1_; clear n1_)
      | (go_at_call 11; have k1_ := HI.out.2.1; (with_reducible refine (few_calls l A c _ k1_ hc0).mono ?_); clear k1_; rintro e w1 ⟨rfl, hb⟩; rw [hF]; have n1_ := Aside0.mk (HI.out.below hb); clear HI hb; have HI := n1_; clear n1_))
    go_ret
    exact ⟨rfl, HI.out.1⟩
  | true =>
    by_cases hp : 40 < p.length
    · have b1 : decide ((40 : Int) < (p.length : Int)) = true := decide_eq_true (by omega)
      have b2 : decide (40 < p.length) = true := decide_eq_true hp
      go_enter Try.func5, Try.ntmps5
      go_wp2_with (first
        | (go_at_call 10; (with_reducible refine (sane_calls _).mono ?_); rintro e w1 ⟨rfl, hb⟩; have n1_ := Aside0.mk (HI.out.below hb); clear HI hb; have HI := n1_; clear n1_)
        | (go_at_call 11; have k1_ := HI.out.2.1; (with_reducible refine (few_calls l A c _ k1_ hc0).mono ?_); clear k1_; rintro e w1 ⟨rfl, hb⟩; rw [hF]; have n1_ := Aside0.mk (HI.out.below hb); clear HI hb; have HI := n1_; clear n1_))
      go_ret
      exact ⟨rfl, HI.out.1⟩
    · have b1 : decide ((40 : Int) < (p.length : Int)) = false := decide_eq_false (by omega)
      have b2 : decide (40 < p.length) = false := decide_eq_false hp
      have hp6 : p.length ≤ 1000000 := by omega
      go_enter Try.func5, Try.ntmps5
      go_wp2_with (first
        | (go_at_call 10; (with_reducible refine (sane_calls _).mono ?_); rintro e w1 ⟨rfl, hb⟩; have n1_ := Aside0.mk (HI.out.below hb); clear HI hb; have HI := n1_; clear n1_)
        | (go_at_call 11; have k1_ := HI.out.2.1; (with_reducible refine (few_calls l A c _ k1_ hc0).mono ?_); clear k1_; rintro e w1 ⟨rfl, hb⟩; rw [hF]; have n1_ := Aside0.mk (HI.out.below hb); clear HI hb; have HI := n1_; clear n1_)
        | (go_at_call 25; have k1_ := HI.out.2.1; (with_reducible refine (grownY_calls l A c i _ k1_ hc0).mono ?_); clear k1_; rintro e w1 ⟨B1, d1, rfl, hd1, hC1, hb⟩; have n1_ := Aside0.mk (HI.out.add hb hC1); clear HI hb hC1; have HI := n1_; clear n1_)
        | (go_at_call 26; have k1_ := HI.out.2.1; (with_reducible refine (rgrownY_calls l A c i _ k1_ hc0).mono ?_); clear k1_; rintro e w1 ⟨B2, d2, rfl, hd2, hC1, hb⟩; have n1_ := Aside0.mk (HI.out.add hb hC1); clear HI hb hC1; have HI := n1_; clear n1_)
        | (go_at_call 22; have k1_ := HI.out.2.2 (B1, grownR l i) (by simp); have k2_ := HI.out.2.2 (B2, grownR l i) (by simp); (with_reducible refine (equalT_calls (grownR l i) B1 B2 d1 d2 _ k1_ hd1 k2_ hd2).mono ?_); clear k1_ k2_; rintro e w1 ⟨rfl, hb⟩; have n1_ := Aside0.mk (HI.out.below hb); clear HI hb; have HI := n1_; clear n1_)
        | (go_at_call 27; have k1_ := HI.out.2.2 (B, p) (by simp); (with_reducible refine (checkGrownX_calls old i root many p B d _ k1_ hd0 hp6 HO.out HU.out).mono ?_); clear k1_; rintro e w1 ⟨rfl, hb⟩; have n1_ := Aside0.mk (HI.out.below hb); clear HI hb; have HI := n1_; clear n1_)
        | (go_at_call 28; have k1_ := HI.out.2.2 (B, p) (by simp); (with_reducible refine (rcheckGrownX_calls old i root many p B d _ k1_ hd0 hp6 HO.out HU.out).mono ?_); clear k1_; rintro e w1 ⟨rfl, hb⟩; have n1_ := Aside0.mk (HI.out.below hb); clear HI hb; have HI := n1_; clear n1_))
      go_ret
      exact ⟨rfl, HI.out.1⟩
end Go.Proofs.Ytkedodmlbepfnaa.Lg
set_option linter.unusedSimpArgs false
set_option linter.unusedVariables false
namespace Go.Proofs.Ytkedodmlbepfnaa.Lg
open Go.RowKit Go.Proofs.YtkedodmlbepfnaaW.PrintWords Go.Proofs.YtkedodmlbepfnaaW.PrintLast Go.Proofs.YtkedodmlbepfnaaW.PrintMore Go.Proofs.Ytkedodmlbepfnaa.Rg
theorem pathY_calls (l : List S23) (A : Option Addr) (c : Nat) (i : Int) (w : World) (hr0 : Kd.C k23 w A l.length l) (hc0 : l.length ≤ c) : Calls Try.prog 20 #[.slice A l.length c, .int .i64 i] w fun x w' => ∃ B d, x = .returned (.tuple #[.slice B (pathR l i).length d, .int .i64 (errP l i)]) ∧ (pathR l i).length ≤ d ∧ Kd.C (Kd.int .u64) w' B (pathR l i).length (pathR l i) ∧ Below w.heap.size w w' := by
  refine (pathX_calls l A c i w hr0 hc0).mono ?_
  rintro x w' ⟨v, rfl, hN, hb⟩
  obtain ⟨B, d, rfl, hd, hC⟩ := hN.reads
  exact ⟨B, d, rfl, hd, hC, hb⟩
theorem rpathY_calls (l : List S23) (A : Option Addr) (c : Nat) (i : Int) (w : World) (hr0 : Kd.C k23 w A l.length l) (hc0 : l.length ≤ c) : Calls Try.prog 21 #[.slice A l.length c, .int .i64 i] w fun x w' => ∃ B d, x = .returned (.tuple #[.slice B (pathR l i).length d, .int .i64 (errP l i)]) ∧ (pathR l i).length ≤ d ∧ Kd.C (Kd.int .u64) w' B (pathR l i).length (pathR l i) ∧ Below w.heap.size w w' := by
  refine (rpathX_calls l A c i w hr0 hc0).mono ?_
  rintro x w' ⟨v, rfl, hN, hb⟩
  obtain ⟨B, d, rfl, hd, hC⟩ := hN.reads
  exact ⟨B, d, rfl, hd, hC, hb⟩
def pathsRel (en : S23) (l : List S23) (i root many : Int) (p : List Int) (B B1 B2 : Option Addr) (d d1 d2 : Nat) : Nat → Value → World → Prop
  | 0, v, _ => v = .slice B1 (pathR l i).length d1
  | 1, v, _ => v = .slice B2 (pathR l i).length d2
  | 2, v, _ => v = .bool true
  | 3, v, _ => v = .bool true
  | 4, v, _ => v = .int .i64 (errP l i)
  | 5, v, _ => v = .int .i64 (errP l i)
  | 6, v, _ => v = .bool true
  | 7, v, _ => v = .bool true
  | 8, v, _ => v = .bool true
  | 9, v, _ => v = .int .u64 root
  | 10, v, _ => v = .int .i64 many
  | 11, v, _ => v = .int .i64 i
  | 12, v, _ => v = .agg #[.int .i64 en.f0, .int .i64 en.f1, .string en.f2]
  | 13, v, _ => v = .slice B p.length d
  | 14, v, _ => v = .int .i64 (errCP root many i en p)
  | 15, v, _ => v = .int .u64 root
  | 16, v, _ => v = .int .i64 many
  | 17, v, _ => v = .int .i64 i
  | 18, v, _ => v = .agg #[.int .i64 en.f0, .int .i64 en.f1, .string en.f2]
  | 19, v, _ => v = .slice B p.length d
  | 20, v, _ => v = .int .i64 (errCP root many i en p)
  | 21, v, _ => v = .bool true
  | 22, v, _ => v = .bool true
  | 23, v, _ => v = .bool true
  | _, _, _ => True
set_option maxHeartbeats 8000000 in
set_option maxRecDepth 100000 in
theorem paths_walk (l : List S23) (A : Option Addr) (c : Nat) (i root many : Int) (en : S23) (p : List Int) (B : Option Addr) (d : Nat) (w : World) (hr0 : Kd.C k23 w A l.length l) (hc0 : l.length ≤ c) (hp0 : Kd.C (Kd.int .u64) w B p.length p) (hd0 : p.length ≤ d) (hu : ∀ y ∈ p, U64 y) :
    Calls Try.prog 4 #[.slice A l.length c, .int .i64 i, .int .u64 root, .int .i64 many, .agg #[.int .i64 en.f0, .int .i64 en.f1, .string en.f2], .slice B p.length d] w fun e w' => e = .returned (.bool true) ∧ Below w.heap.size w w' := by
  have hB1 : Below w.heap.size w (w.alloc (.cells #[.int .i64 en.f0, .int .i64 en.f1, .string en.f2] 23)) := below_alloc (Below.refl _ _) _
  have HI : Aside0 (AI w A l [(B, p)] (w.alloc (.cells #[.int .i64 en.f0, .int .i64 en.f1, .string en.f2] 23))) := Aside0.mk ⟨hB1, Kd.C_below hr0 hB1, fun x hx => by rw [List.mem_singleton] at hx; subst hx; exact Kd.C_below hp0 hB1⟩
  have HX := Aside0.mk (blk_new w (.cells #[.int .i64 en.f0, .int .i64 en.f1, .string en.f2] 23))
  have HU := Aside0.mk hu
  clear hr0 hp0 hB1 hu
  cases hF : Few l with
  | false =>
    go_enter Try.func4, Try.ntmps4
    go_wp2_with (first
        | (go_at_call 10; (with_reducible refine (sane_calls _).mono ?_); rintro e1 w1 ⟨rfl, hb⟩; have n1_ := Aside0.mk (HI.out.below hb); have n2_ := Aside0.mk ((hb.block _ (blk_lt HX.out)).trans HX.out); clear HI HX hb; have HI := n1_; have HX := n2_; clear n1_ n2_; have x0 := (blk_cell HX.out 0).trans rfl; have x1 := (blk_cell HX.out 1).trans rfl; have x2 : _ = some (Value.string en.f2) := (blk_cell HX.out 2).trans rfl)
        | (go_at_call 11; have k1_ := HI.out.2.1; (with_reducible refine (few_calls l A c _ k1_ hc0).mono ?_); clear k1_; rintro e1 w1 ⟨rfl, hb⟩; rw [hF]; have n1_ := Aside0.mk (HI.out.below hb); have n2_ := Aside0.mk ((hb.block _ (blk_lt HX.out)).trans HX.out); clear HI HX hb; have HI := n1_; have HX := n2_; clear n1_ n2_; have x0 := (blk_cell HX.out 0).trans rfl; have x1 := (blk_cell HX.out 1).trans rfl; have x2 : _ = some (Value.string en.f2) := (blk_cell HX.out 2).trans rfl))
    go_ret
    exact ⟨rfl, HI.out.1⟩
  | true =>
    by_cases hq : 2500 < en.f2.size
    · have b1 : decide ((2500 : Int) < (en.f2.size : Int)) = true := decide_eq_true (by omega)
      have b2 : decide (2500 < en.f2.size) = true := decide_eq_true hq
      go_enter Try.func4, Try.ntmps4
      go_wp2_with (first
        | (go_at_call 10; (with_reducible refine (sane_calls _).mono ?_); rintro e1 w1 ⟨rfl, hb⟩; have n1_ := Aside0.mk (HI.out.below hb); have n2_ := Aside0.mk ((hb.block _ (blk_lt HX.out)).trans HX.out); clear HI HX hb; have HI := n1_; have HX := n2_; clear n1_ n2_; have x0 := (blk_cell HX.out 0).trans rfl; have x1 := (blk_cell HX.out 1).trans rfl; have x2 : _ = some (Value.string en.f2) := (blk_cell HX.out 2).trans rfl)
        | (go_at_call 11; have k1_ := HI.out.2.1; (with_reducible refine (few_calls l A c _ k1_ hc0).mono ?_); clear k1_; rintro e1 w1 ⟨rfl, hb⟩; rw [hF]; have n1_ := Aside0.mk (HI.out.below hb); have n2_ := Aside0.mk ((hb.block _ (blk_lt HX.out)).trans HX.out); clear HI HX hb; have HI := n1_; have HX := n2_; clear n1_ n2_; have x0 := (blk_cell HX.out 0).trans rfl; have x1 := (blk_cell HX.out 1).trans rfl; have x2 : _ = some (Value.string en.f2) := (blk_cell HX.out 2).trans rfl))
      go_ret
      exact ⟨rfl, HI.out.1⟩
    · have b1 : decide ((2500 : Int) < (en.f2.size : Int)) = false := decide_eq_false (by omega)
      have b2 : decide (2500 < en.f2.size) = false := decide_eq_false hq
      by_cases hp : 40 < p.length
      · have b3 : decide ((40 : Int) < (p.length : Int)) = true := decide_eq_true (by omega)
        have b4 : decide (40 < p.length) = true := decide_eq_true hp
        go_enter Try.func4, Try.ntmps4
        go_wp2_with (first
        | (go_at_call 10; (with_reducible refine (sane_calls _).mono ?_); rintro e1 w1 ⟨rfl, hb⟩; have n1_ := Aside0.mk (HI.out.below hb); have n2_ := Aside0.mk ((hb.block _ (blk_lt HX.out)).trans HX.out); clear HI HX hb; have HI := n1_; have HX := n2_; clear n1_ n2_; have x0 := (blk_cell HX.out 0).trans rfl; have x1 := (blk_cell HX.out 1).trans rfl; have x2 : _ = some (Value.string en.f2) := (blk_cell HX.out 2).trans rfl)
        | (go_at_call 11; have k1_ := HI.out.2.1; (with_reducible refine (few_calls l A c _ k1_ hc0).mono ?_); clear k1_; rintro e1 w1 ⟨rfl, hb⟩; rw [hF]; have n1_ := Aside0.mk (HI.out.below hb); have n2_ := Aside0.mk ((hb.block _ (blk_lt HX.out)).trans HX.out); clear HI HX hb; have HI := n1_; have HX := n2_; clear n1_ n2_; have x0 := (blk_cell HX.out 0).trans rfl; have x1 := (blk_cell HX.out 1).trans rfl; have x2 : _ = some (Value.string en.f2) := (blk_cell HX.out 2).trans rfl))
        go_ret
        exact ⟨rfl, HI.out.1⟩
      · have b3 : decide ((40 : Int) < (p.length : Int)) = false := decide_eq_false (by omega)
        have b4 : decide (40 < p.length) = false := decide_eq_false hp
        have hp6 : p.length ≤ 1000000 := by omega
        go_enter Try.func4, Try.ntmps4
        go_wp2_with (first
        | (go_at_call 10; (with_reducible refine (sane_calls _).mono ?_); rintro e1 w1 ⟨rfl, hb⟩; have n1_ := Aside0.mk (HI.out.below hb); have n2_ := Aside0.mk ((hb.block _ (blk_lt HX.out)).trans HX.out); clear HI HX hb; have HI := n1_; have HX := n2_; clear n1_ n2_; have x0 := (blk_cell HX.out 0).trans rfl; have x1 := (blk_cell HX.out 1).trans rfl; have x2 : _ = some (Value.string en.f2) := (blk_cell HX.out 2).trans rfl)
        | (go_at_call 11; have k1_ := HI.out.2.1; (with_reducible refine (few_calls l A c _ k1_ hc0).mono ?_); clear k1_; rintro e1 w1 ⟨rfl, hb⟩; rw [hF]; have n1_ := Aside0.mk (HI.out.below hb); have n2_ := Aside0.mk ((hb.block _ (blk_lt HX.out)).trans HX.out); clear HI HX hb; have HI := n1_; have HX := n2_; clear n1_ n2_; have x0 := (blk_cell HX.out 0).trans rfl; have x1 := (blk_cell HX.out 1).trans rfl; have x2 : _ = some (Value.string en.f2) := (blk_cell HX.out 2).trans rfl)
        | (go_at_call 20; have k1_ := HI.out.2.1; (with_reducible refine (pathY_calls l A c i _ k1_ hc0).mono ?_); clear k1_; rintro e1 w1 ⟨B1, d1, rfl, hd1, hC1, hb⟩; clear x0 x1 x2; have n1_ := Aside0.mk (HI.out.add hb hC1); have n2_ := Aside0.mk ((hb.block _ (blk_lt HX.out)).trans HX.out); clear HI HX hb hC1; have HI := n1_; have HX := n2_; clear n1_ n2_; have x0 := (blk_cell HX.out 0).trans rfl; have x1 := (blk_cell HX.out 1).trans rfl; have x2 : _ = some (Value.string en.f2) := (blk_cell HX.out 2).trans rfl)
        | (go_at_call 21; have k1_ := HI.out.2.1; (with_reducible refine (rpathY_calls l A c i _ k1_ hc0).mono ?_); clear k1_; rintro e1 w1 ⟨B2, d2, rfl, hd2, hC1, hb⟩; clear x0 x1 x2; have n1_ := Aside0.mk (HI.out.add hb hC1); have n2_ := Aside0.mk ((hb.block _ (blk_lt HX.out)).trans HX.out); clear HI HX hb hC1; have HI := n1_; have HX := n2_; clear n1_ n2_; have x0 := (blk_cell HX.out 0).trans rfl; have x1 := (blk_cell HX.out 1).trans rfl; have x2 : _ = some (Value.string en.f2) := (blk_cell HX.out 2).trans rfl))
        refine rg_ [0, 1, 2, 3, 4, 5, 6, 7, 8, 9, 10, 11, 12, 13, 14, 15, 16, 17, 18, 19, 20, 21, 22, 23] [(0, 45), (1, 46), (2, 47), (3, 48), (4, 49), (5, 50), (6, 51), (7, 52), (8, 53), (9, 54), (10, 55), (11, 56), (12, 57), (13, 58), (14, 59), (15, 60), (16, 61), (17, 62), (18, 63), (19, 64), (20, 65), (21, 66), (22, 67), (23, 12)] (bitsOf (rtab .any (opsOf Try.f4 7)).2) (pathsRel en l i root many p B B1 B2 d d1 d2) (by kernel_rfl) rfl (by kernel_rfl) rfl (by kernel_rfl) (fun j v w w' h _ => by revert h; unfold pathsRel; split <;> exact id) ?steps ?rend
        case steps =>
          refine steps_cons (fun a1 w2 hB hsz hdf hn hd => ⟨_, rfl, fun K hK => ?_⟩) ?_
          · have e13 := eval_of ((hn 13 rfl).trans rfl)
            refine value_ (v := .slice B1 (pathR l i).length d1) (w1 := w2) rfl rfl ?_ (hK _ _ (Below.refl _ _) rfl)
            clear hd hn hK
            simp only [execOp, Option.map_some, Option.map_none, List.map_toArray, List.map_cons, List.map_nil, List.getElem_toArray, List.getElem_cons_zero, List.getElem_cons_succ, e13]
            clear e13
            go_simp
          refine steps_cons (fun a1 w2 hB hsz hdf hn hd => ⟨_, rfl, fun K hK => ?_⟩) ?_
          · have e15 := eval_of ((hn 15 rfl).trans rfl)
            refine value_ (v := .slice B2 (pathR l i).length d2) (w1 := w2) rfl rfl ?_ (hK _ _ (Below.refl _ _) rfl)
            clear hd hn hK
            simp only [execOp, Option.map_some, Option.map_none, List.map_toArray, List.map_cons, List.map_nil, List.getElem_toArray, List.getElem_cons_zero, List.getElem_cons_succ, e15]
            clear e15
            go_simp
          refine steps_cons (fun a1 w2 hB hsz hdf hn hd => ⟨_, rfl, fun K hK => ?_⟩) ?_
          · obtain ⟨v45, h45, rfl⟩ := hd 0 45 rfl (by kernel_rfl)
            have e45 := eval_of h45
            clear h45
            obtain ⟨v46, h46, rfl⟩ := hd 1 46 rfl (by kernel_rfl)
            have e46 := eval_of h46
            clear h46
            refine goes_ Try.func22 (by kernel_rfl) rfl #[.slice B1 (pathR l i).length d1, .slice B2 (pathR l i).length d2] (by rfl) rfl rfl (by simp only [List.map_toArray, List.map_cons, List.map_nil, e45, e46]) ?_
            have hI_ := HI.out.below hB
            have k1_ := hI_.2.2 (B1, pathR l i) (by simp)
            have k2_ := hI_.2.2 (B2, pathR l i) (by simp)
            refine (equalT_calls (pathR l i) B1 B2 d1 d2 _ k1_ hd1 k2_ hd2).mono ?_
            rintro e3 w3 ⟨rfl, hbw⟩
            exact ⟨_, rfl, hK _ _ hbw rfl⟩
          refine steps_cons (fun a1 w2 hB hsz hdf hn hd => ⟨_, rfl, fun K hK => ?_⟩) ?_
          · obtain ⟨v47, h47, rfl⟩ := hd 2 47 rfl (by kernel_rfl)
            have e47 := eval_of h47
            clear h47
            refine value_ (v := .bool true) (w1 := w2) rfl rfl ?_ (hK _ _ (Below.refl _ _) rfl)
            clear hd hn hK
            simp only [execOp, Option.map_some, Option.map_none, List.map_toArray, List.map_cons, List.map_nil, List.getElem_toArray, List.getElem_cons_zero, List.getElem_cons_succ, e47]
            clear e47
            go_simp
          refine steps_cons (fun a1 w2 hB hsz hdf hn hd => ⟨_, rfl, fun K hK => ?_⟩) ?_
          · have e14 := eval_of ((hn 14 rfl).trans rfl)
            obtain ⟨v48g, h48g, q48g⟩ := hd 3 48 rfl (by kernel_rfl)
            have e48g : v48g = .bool true := q48g
            subst e48g
            refine value_ (v := .int .i64 (errP l i)) (w1 := w2) (wanted_of (j := 3) (b := true) (t := 48) rfl rfl h48g) rfl ?_ (hK _ _ (Below.refl _ _) rfl)
            clear hd hn hK
            simp only [execOp, Option.map_some, Option.map_none, List.map_toArray, List.map_cons, List.map_nil, List.getElem_toArray, List.getElem_cons_zero, List.getElem_cons_succ, e14]
            clear e14
            go_simp
          refine steps_cons (fun a1 w2 hB hsz hdf hn hd => ⟨_, rfl, fun K hK => ?_⟩) ?_
          · have e16 := eval_of ((hn 16 rfl).trans rfl)
            obtain ⟨v48g, h48g, q48g⟩ := hd 3 48 rfl (by kernel_rfl)
            have e48g : v48g = .bool true := q48g
            subst e48g
            refine value_ (v := .int .i64 (errP l i)) (w1 := w2) (wanted_of (j := 3) (b := true) (t := 48) rfl rfl h48g) rfl ?_ (hK _ _ (Below.refl _ _) rfl)
            clear hd hn hK
            simp only [execOp, Option.map_some, Option.map_none, List.map_toArray, List.map_cons, List.map_nil, List.getElem_toArray, List.getElem_cons_zero, List.getElem_cons_succ, e16]
            clear e16
            go_simp
          refine steps_cons (fun a1 w2 hB hsz hdf hn hd => ⟨_, rfl, fun K hK => ?_⟩) ?_
          · obtain ⟨v49, h49, rfl⟩ := hd 4 49 rfl (by kernel_rfl)
            have e49 := eval_of h49
            clear h49
            obtain ⟨v50, h50, rfl⟩ := hd 5 50 rfl (by kernel_rfl)
            have e50 := eval_of h50
            clear h50
            obtain ⟨v48g, h48g, q48g⟩ := hd 3 48 rfl (by kernel_rfl)
            have e48g : v48g = .bool true := q48g
            subst e48g
            refine value_ (v := .bool true) (w1 := w2) (wanted_of (j := 3) (b := true) (t := 48) rfl rfl h48g) rfl ?_ (hK _ _ (Below.refl _ _) rfl)
            clear hd hn hK
            simp only [execOp, Option.map_some, Option.map_none, List.map_toArray, List.map_cons, List.map_nil, List.getElem_toArray, List.getElem_cons_zero, List.getElem_cons_succ, e49, e50]
            clear e49 e50
            go_simp
          refine steps_cons (fun a1 w2 hB hsz hdf hn hd => ⟨_, rfl, fun K hK => ?_⟩) ?_
          · obtain ⟨v48, h48, rfl⟩ := hd 3 48 rfl (by kernel_rfl)
            have e48 := eval_of h48
            clear h48
            obtain ⟨v51, h51, rfl⟩ := hd 6 51 rfl (by kernel_rfl)
            have e51 := eval_of h51
            clear h51
            refine value_ (v := .bool true) (w1 := w2) rfl rfl ?_ (hK _ _ (Below.refl _ _) rfl)
            clear hd hn hK
            simp only [execOp, Option.map_some, Option.map_none, List.map_toArray, List.map_cons, List.map_nil, List.getElem_toArray, List.getElem_cons_zero, List.getElem_cons_succ, e48, e51]
            clear e48 e51
            go_simp
          refine steps_cons (fun a1 w2 hB hsz hdf hn hd => ⟨_, rfl, fun K hK => ?_⟩) ?_
          · obtain ⟨v52, h52, rfl⟩ := hd 7 52 rfl (by kernel_rfl)
            have e52 := eval_of h52
            clear h52
            refine value_ (v := .bool true) (w1 := w2) rfl rfl ?_ (hK _ _ (Below.refl _ _) rfl)
            clear hd hn hK
            simp only [execOp, Option.map_some, Option.map_none, List.map_toArray, List.map_cons, List.map_nil, List.getElem_toArray, List.getElem_cons_zero, List.getElem_cons_succ, e52]
            clear e52
            go_simp
          refine steps_cons (fun a1 w2 hB hsz hdf hn hd => ⟨_, rfl, fun K hK => ?_⟩) ?_
          · have e2 := eval_of ((hn 2 rfl).trans rfl)
            obtain ⟨v53g, h53g, q53g⟩ := hd 8 53 rfl (by kernel_rfl)
            have e53g : v53g = .bool true := q53g
            subst e53g
            refine value_ (v := .int .u64 root) (w1 := w2) (wanted_of (j := 8) (b := true) (t := 53) rfl rfl h53g) rfl ?_ (hK _ _ (Below.refl _ _) rfl)
            clear hd hn hK
            simp only [execOp, Option.map_some, Option.map_none, List.map_toArray, List.map_cons, List.map_nil, List.getElem_toArray, List.getElem_cons_zero, List.getElem_cons_succ, e2]
            clear e2
            go_simp
          refine steps_cons (fun a1 w2 hB hsz hdf hn hd => ⟨_, rfl, fun K hK => ?_⟩) ?_
          · have e3 := eval_of ((hn 3 rfl).trans rfl)
            obtain ⟨v53g, h53g, q53g⟩ := hd 8 53 rfl (by kernel_rfl)
            have e53g : v53g = .bool true := q53g
            subst e53g
            refine value_ (v := .int .i64 many) (w1 := w2) (wanted_of (j := 8) (b := true) (t := 53) rfl rfl h53g) rfl ?_ (hK _ _ (Below.refl _ _) rfl)
            clear hd hn hK
            simp only [execOp, Option.map_some, Option.map_none, List.map_toArray, List.map_cons, List.map_nil, List.getElem_toArray, List.getElem_cons_zero, List.getElem_cons_succ, e3]
            clear e3
            go_simp
          refine steps_cons (fun a1 w2 hB hsz hdf hn hd => ⟨_, rfl, fun K hK => ?_⟩) ?_
          · have e1 := eval_of ((hn 1 rfl).trans rfl)
            obtain ⟨v53g, h53g, q53g⟩ := hd 8 53 rfl (by kernel_rfl)
            have e53g : v53g = .bool true := q53g
            subst e53g
            refine value_ (v := .int .i64 i) (w1 := w2) (wanted_of (j := 8) (b := true) (t := 53) rfl rfl h53g) rfl ?_ (hK _ _ (Below.refl _ _) rfl)
            clear hd hn hK
            simp only [execOp, Option.map_some, Option.map_none, List.map_toArray, List.map_cons, List.map_nil, List.getElem_toArray, List.getElem_cons_zero, List.getElem_cons_succ, e1]
            clear e1
            go_simp
          refine steps_cons (fun a1 w2 hB hsz hdf hn hd => ⟨_, rfl, fun K hK => ?_⟩) ?_
          · have e10 := eval_of ((hn 10 rfl).trans rfl)
            obtain ⟨v53g, h53g, q53g⟩ := hd 8 53 rfl (by kernel_rfl)
            have e53g : v53g = .bool true := q53g
            subst e53g
            refine value_ (v := .agg #[.int .i64 en.f0, .int .i64 en.f1, .string en.f2]) (w1 := w2) (wanted_of (j := 8) (b := true) (t := 53) rfl rfl h53g) rfl ?_ (hK _ _ (Below.refl _ _) rfl)
            clear hd hn hK
            simp only [execOp, Option.map_some, Option.map_none, List.map_toArray, List.map_cons, List.map_nil, List.getElem_toArray, List.getElem_cons_zero, List.getElem_cons_succ, e10]
            clear e10
            have hbx := (hB.block _ (blk_lt HX.out)).trans HX.out
            have hx0 : w2.cell? ⟨w.heap.size, 0, none⟩ = some (.int .i64 en.f0) := (blk_cell hbx 0).trans rfl
            have hx1 : w2.cell? ⟨w.heap.size, 1, none⟩ = some (.int .i64 en.f1) := (blk_cell hbx 1).trans rfl
            have hx2 : w2.cell? ⟨w.heap.size, 2, none⟩ = some (.string en.f2) := (blk_cell hbx 2).trans rfl
            clear hB hbx
            go_simp
          refine steps_cons (fun a1 w2 hB hsz hdf hn hd => ⟨_, rfl, fun K hK => ?_⟩) ?_
          · have e5 := eval_of ((hn 5 rfl).trans rfl)
            obtain ⟨v53g, h53g, q53g⟩ := hd 8 53 rfl (by kernel_rfl)
            have e53g : v53g = .bool true := q53g
            subst e53g
            refine value_ (v := .slice B p.length d) (w1 := w2) (wanted_of (j := 8) (b := true) (t := 53) rfl rfl h53g) rfl ?_ (hK _ _ (Below.refl _ _) rfl)
            clear hd hn hK
            simp only [execOp, Option.map_some, Option.map_none, List.map_toArray, List.map_cons, List.map_nil, List.getElem_toArray, List.getElem_cons_zero, List.getElem_cons_succ, e5]
            clear e5
            go_simp
          refine steps_cons (fun a1 w2 hB hsz hdf hn hd => ⟨_, rfl, fun K hK => ?_⟩) ?_
          · obtain ⟨v54, h54, rfl⟩ := hd 9 54 rfl (by kernel_rfl)
            have e54 := eval_of h54
            clear h54
            obtain ⟨v55, h55, rfl⟩ := hd 10 55 rfl (by kernel_rfl)
            have e55 := eval_of h55
            clear h55
            obtain ⟨v56, h56, rfl⟩ := hd 11 56 rfl (by kernel_rfl)
            have e56 := eval_of h56
            clear h56
            obtain ⟨v57, h57, rfl⟩ := hd 12 57 rfl (by kernel_rfl)
            have e57 := eval_of h57
            clear h57
            obtain ⟨v58, h58, rfl⟩ := hd 13 58 rfl (by kernel_rfl)
            have e58 := eval_of h58
            clear h58
            obtain ⟨v53g, h53g, q53g⟩ := hd 8 53 rfl (by kernel_rfl)
            have e53g : v53g = .bool true := q53g
            subst e53g
            refine goes_ Try.func23 (by kernel_rfl) rfl #[.int .u64 root, .int .i64 many, .int .i64 i, .agg #[.int .i64 en.f0, .int .i64 en.f1, .string en.f2], .slice B p.length d] (wanted_of (j := 8) (b := true) (t := 53) rfl rfl h53g) rfl rfl (by simp only [List.map_toArray, List.map_cons, List.map_nil, e54, e55, e56, e57, e58]) ?_
            have hI_ := HI.out.below hB
            have k1_ := hI_.2.2 (B, p) (by simp)
            refine (checkPathX_calls root many i en p B d _ k1_ hd0 hp6 HU.out).mono ?_
            rintro e3 w3 ⟨rfl, hbw⟩
            exact ⟨_, rfl, hK _ _ hbw rfl⟩
          refine steps_cons (fun a1 w2 hB hsz hdf hn hd => ⟨_, rfl, fun K hK => ?_⟩) ?_
          · have e2 := eval_of ((hn 2 rfl).trans rfl)
            obtain ⟨v53g, h53g, q53g⟩ := hd 8 53 rfl (by kernel_rfl)
            have e53g : v53g = .bool true := q53g
            subst e53g
            refine value_ (v := .int .u64 root) (w1 := w2) (wanted_of (j := 8) (b := true) (t := 53) rfl rfl h53g) rfl ?_ (hK _ _ (Below.refl _ _) rfl)
            clear hd hn hK
            simp only [execOp, Option.map_some, Option.map_none, List.map_toArray, List.map_cons, List.map_nil, List.getElem_toArray, List.getElem_cons_zero, List.getElem_cons_succ, e2]
            clear e2
            go_simp
          refine steps_cons (fun a1 w2 hB hsz hdf hn hd => ⟨_, rfl, fun K hK => ?_⟩) ?_
          · have e3 := eval_of ((hn 3 rfl).trans rfl)
            obtain ⟨v53g, h53g, q53g⟩ := hd 8 53 rfl (by kernel_rfl)
            have e53g : v53g = .bool true := q53g
            subst e53g
            refine value_ (v := .int .i64 many) (w1 := w2) (wanted_of (j := 8) (b := true) (t := 53) rfl rfl h53g) rfl ?_ (hK _ _ (Below.refl _ _) rfl)
            clear hd hn hK
            simp only [execOp, Option.map_some, Option.map_none, List.map_toArray, List.map_cons, List.map_nil, List.getElem_toArray, List.getElem_cons_zero, List.getElem_cons_succ, e3]
            clear e3
            go_simp
          refine steps_cons (fun a1 w2 hB hsz hdf hn hd => ⟨_, rfl, fun K hK => ?_⟩) ?_
          · have e1 := eval_of ((hn 1 rfl).trans rfl)
            obtain ⟨v53g, h53g, q53g⟩ := hd 8 53 rfl (by kernel_rfl)
            have e53g : v53g = .bool true := q53g
            subst e53g
            refine value_ (v := .int .i64 i) (w1 := w2) (wanted_of (j := 8) (b := true) (t := 53) rfl rfl h53g) rfl ?_ (hK _ _ (Below.refl _ _) rfl)
            clear hd hn hK
            simp only [execOp, Option.map_some, Option.map_none, List.map_toArray, List.map_cons, List.map_nil, List.getElem_toArray, List.getElem_cons_zero, List.getElem_cons_succ, e1]
            clear e1
            go_simp
          refine steps_cons (fun a1 w2 hB hsz hdf hn hd => ⟨_, rfl, fun K hK => ?_⟩) ?_
          · have e10 := eval_of ((hn 10 rfl).trans rfl)
            obtain ⟨v53g, h53g, q53g⟩ := hd 8 53 rfl (by kernel_rfl)
            have e53g : v53g = .bool true := q53g
            subst e53g
            refine value_ (v := .agg #[.int .i64 en.f0, .int .i64 en.f1, .string en.f2]) (w1 := w2) (wanted_of (j := 8) (b := true) (t := 53) rfl rfl h53g) rfl ?_ (hK _ _ (Below.refl _ _) rfl)
            clear hd hn hK
            simp only [execOp, Option.map_some, Option.map_none, List.map_toArray, List.map_cons, List.map_nil, List.getElem_toArray, List.getElem_cons_zero, List.getElem_cons_succ, e10]
            clear e10
            have hbx := (hB.block _ (blk_lt HX.out)).trans HX.out
            have hx0 : w2.cell? ⟨w.heap.size, 0, none⟩ = some (.int .i64 en.f0) := (blk_cell hbx 0).trans rfl
            have hx1 : w2.cell? ⟨w.heap.size, 1, none⟩ = some (.int .i64 en.f1) := (blk_cell hbx 1).trans rfl
            have hx2 : w2.cell? ⟨w.heap.size, 2, none⟩ = some (.string en.f2) := (blk_cell hbx 2).trans rfl
            clear hB hbx
            go_simp
          refine steps_cons (fun a1 w2 hB hsz hdf hn hd => ⟨_, rfl, fun K hK => ?_⟩) ?_
          · have e5 := eval_of ((hn 5 rfl).trans rfl)
            obtain ⟨v53g, h53g, q53g⟩ := hd 8 53 rfl (by kernel_rfl)
            have e53g : v53g = .bool true := q53g
            subst e53g
            refine value_ (v := .slice B p.length d) (w1 := w2) (wanted_of (j := 8) (b := true) (t := 53) rfl rfl h53g) rfl ?_ (hK _ _ (Below.refl _ _) rfl)
            clear hd hn hK
            simp only [execOp, Option.map_some, Option.map_none, List.map_toArray, List.map_cons, List.map_nil, List.getElem_toArray, List.getElem_cons_zero, List.getElem_cons_succ, e5]
            clear e5
            go_simp
          refine steps_cons (fun a1 w2 hB hsz hdf hn hd => ⟨_, rfl, fun K hK => ?_⟩) ?_
          · obtain ⟨v60, h60, rfl⟩ := hd 15 60 rfl (by kernel_rfl)
            have e60 := eval_of h60
            clear h60
            obtain ⟨v61, h61, rfl⟩ := hd 16 61 rfl (by kernel_rfl)
            have e61 := eval_of h61
            clear h61
            obtain ⟨v62, h62, rfl⟩ := hd 17 62 rfl (by kernel_rfl)
            have e62 := eval_of h62
            clear h62
            obtain ⟨v63, h63, rfl⟩ := hd 18 63 rfl (by kernel_rfl)
            have e63 := eval_of h63
            clear h63
            obtain ⟨v64, h64, rfl⟩ := hd 19 64 rfl (by kernel_rfl)
            have e64 := eval_of h64
            clear h64
            obtain ⟨v53g, h53g, q53g⟩ := hd 8 53 rfl (by kernel_rfl)
            have e53g : v53g = .bool true := q53g
            subst e53g
            refine goes_ Try.func24 (by kernel_rfl) rfl #[.int .u64 root, .int .i64 many, .int .i64 i, .agg #[.int .i64 en.f0, .int .i64 en.f1, .string en.f2], .slice B p.length d] (wanted_of (j := 8) (b := true) (t := 53) rfl rfl h53g) rfl rfl (by simp only [List.map_toArray, List.map_cons, List.map_nil, e60, e61, e62, e63, e64]) ?_
            have hI_ := HI.out.below hB
            have k1_ := hI_.2.2 (B, p) (by simp)
            refine (rcheckPathX_calls root many i en p B d _ k1_ hd0 hp6 HU.out).mono ?_
            rintro e3 w3 ⟨rfl, hbw⟩
            exact ⟨_, rfl, hK _ _ hbw rfl⟩
          refine steps_cons (fun a1 w2 hB hsz hdf hn hd => ⟨_, rfl, fun K hK => ?_⟩) ?_
          · obtain ⟨v59, h59, rfl⟩ := hd 14 59 rfl (by kernel_rfl)
            have e59 := eval_of h59
            clear h59
            obtain ⟨v65, h65, rfl⟩ := hd 20 65 rfl (by kernel_rfl)
            have e65 := eval_of h65
            clear h65
            obtain ⟨v53g, h53g, q53g⟩ := hd 8 53 rfl (by kernel_rfl)
            have e53g : v53g = .bool true := q53g
            subst e53g
            refine value_ (v := .bool true) (w1 := w2) (wanted_of (j := 8) (b := true) (t := 53) rfl rfl h53g) rfl ?_ (hK _ _ (Below.refl _ _) rfl)
            clear hd hn hK
            simp only [execOp, Option.map_some, Option.map_none, List.map_toArray, List.map_cons, List.map_nil, List.getElem_toArray, List.getElem_cons_zero, List.getElem_cons_succ, e59, e65]
            clear e59 e65
            go_simp
          refine steps_cons (fun a1 w2 hB hsz hdf hn hd => ⟨_, rfl, fun K hK => ?_⟩) ?_
          · obtain ⟨v53, h53, rfl⟩ := hd 8 53 rfl (by kernel_rfl)
            have e53 := eval_of h53
            clear h53
            obtain ⟨v66, h66, rfl⟩ := hd 21 66 rfl (by kernel_rfl)
            have e66 := eval_of h66
            clear h66
            refine value_ (v := .bool true) (w1 := w2) rfl rfl ?_ (hK _ _ (Below.refl _ _) rfl)
            clear hd hn hK
            simp only [execOp, Option.map_some, Option.map_none, List.map_toArray, List.map_cons, List.map_nil, List.getElem_toArray, List.getElem_cons_zero, List.getElem_cons_succ, e53, e66]
            clear e53 e66
            go_simp
          refine steps_cons (fun a1 w2 hB hsz hdf hn hd => ⟨_, rfl, fun K hK => ?_⟩) ?_
          · obtain ⟨v67, h67, rfl⟩ := hd 22 67 rfl (by kernel_rfl)
            have e67 := eval_of h67
            clear h67
            refine value_ (v := .bool true) (w1 := w2) rfl rfl ?_ (hK _ _ (Below.refl _ _) rfl)
            clear hd hn hK
            simp only [execOp, Option.map_some, Option.map_none, List.map_toArray, List.map_cons, List.map_nil, List.getElem_toArray, List.getElem_cons_zero, List.getElem_cons_succ, e67]
            clear e67
            go_simp
          exact steps_nil
        case rend =>
          intro vals w2 hB hrr
          have hl : vals 23 = .bool true := hrr (23, 12) (by simp)
          have HZ := Aside0.mk (HI.out.below hB)
          clear hrr hB HX HI x0 x1 x2
          simp only [fill, Act.put, List.setIfInBounds_toArray, List.set_cons_zero, List.set_cons_succ, hl]
          go_wp2
          go_ret
          exact ⟨rfl, HZ.out.1⟩
end Go.Proofs.Ytkedodmlbepfnaa.Lg
set_option linter.unusedSimpArgs false
set_option linter.unusedVariables false
namespace Go.Proofs.Ytkedodmlbepfnaa.Lg
open Go.RowKit Go.Proofs.YtkedodmlbepfnaaW.PrintWords Go.Proofs.YtkedodmlbepfnaaW.PrintLast Go.Proofs.YtkedodmlbepfnaaW.PrintMore Go.Proofs.Ytkedodmlbepfnaa.Rg
theorem split_half {n m : Nat} (h : 2 ≤ n) (hm : n ≤ 2 ^ m) : ∃ k, m = k + 1 ∧ splitS n ≤ 2 ^ k ∧ n - splitS n ≤ 2 ^ k := by
  have h1 := split_lt h
  have h2 := split_le h
  have h3 : 2 ^ ((n - 1).log2) < 2 ^ m := Nat.lt_of_lt_of_le h1 hm
  have h4 : (n - 1).log2 < m := (Nat.pow_lt_pow_iff_right (by decide)).1 h3
  refine ⟨m - 1, by omega, ?_, ?_⟩
  · exact Nat.pow_le_pow_right (by decide) (by omega)
  · have h5 : splitS n ≤ 2 ^ (m - 1) := Nat.pow_le_pow_right (by decide) (by omega)
    omega
theorem pathF_short : ∀ (f : Nat) (l : List S23) (i m : Nat), l.length ≤ 2 ^ m → 1 ≤ l.length → (pathF f l i).length ≤ m := by
  intro f
  induction f with
  | zero => intro l i m h h1; simp [pathF]
  | succ f ih =>
    intro l i m h h1
    rw [pathF]
    split
    · simp
    · have h2 : 2 ≤ l.length := by omega
      obtain ⟨k, rfl, ha, hb⟩ := split_half h2 h
      have hs := split_lt h2
      have hp := split_pos l.length
      split
      · rw [List.length_append, List.length_singleton]
        have := ih (l.take (splitS l.length)) i k (by rw [List.length_take]; omega) (by rw [List.length_take]; omega)
        omega
      · rw [List.length_append, List.length_singleton]
        have := ih (l.drop (splitS l.length)) (i - splitS l.length) k (by rw [List.length_drop]; omega) (by rw [List.length_drop]; omega)
        omega
theorem grownF_short : ∀ (f : Nat) (l : List S23) (i m : Nat) (b : Bool), l.length ≤ 2 ^ m → 1 ≤ i → i ≤ l.length → (grownF f l i b).length ≤ m + 1 := by
  intro f
  induction f with
  | zero => intro l i m b h h0 h1; simp [grownF]
  | succ f ih =>
    intro l i m b h h0 h1
    rw [grownF]
    split
    · split <;> simp
    · have h2 : 2 ≤ l.length := by omega
      obtain ⟨k, rfl, ha, hb⟩ := split_half h2 h
      have hs := split_lt h2
      have hp := split_pos l.length
      split
      · rw [List.length_append, List.length_singleton]
        have := ih (l.take (splitS l.length)) i k b (by rw [List.length_take]; omega) h0 (by rw [List.length_take]; omega)
        omega
      · rw [List.length_append, List.length_singleton]
        have := ih (l.drop (splitS l.length)) (i - splitS l.length) k false (by rw [List.length_drop]; omega) (by omega) (by rw [List.length_drop]; omega)
        omega
theorem pathR_short (l : List S23) (i : Int) (m : Nat) (h : l.length ≤ 2 ^ m) (h1 : 1 ≤ l.length) : (pathR l i).length ≤ m := by
  unfold pathR
  split
  · exact pathF_short _ l _ m h h1
  · simp
theorem grownR_short (l : List S23) (i : Int) (m : Nat) (h : l.length ≤ 2 ^ m) (h1 : 1 ≤ l.length) : (grownR l i).length ≤ m + 1 := by
  unfold grownR
  split
  · rename_i he
    have h2 : ¬ (i < 1 ∨ (l.length : Int) < i) := by
      intro hh
      unfold errG at he
      by_cases hl : errL l = 0
      · rw [if_pos hl, if_pos hh] at he; cases he
      · rw [if_neg hl] at he; exact hl he
    exact grownF_short _ l _ m true h (by omega) (by omega)
  · simp
theorem pathR_err (l : List S23) (i : Int) (h : errP l i ≠ 0) : pathR l i = [] := by unfold pathR; rw [if_neg h]
theorem grownR_err (l : List S23) (i : Int) (h : errG l i ≠ 0) : grownR l i = [] := by unfold grownR; rw [if_neg h]
theorem pathE_calls (l : List S23) (A : Option Addr) (c : Nat) (i : Int) (w : World) (hr0 : Kd.C k23 w A l.length l) (hc0 : l.length ≤ c) (he : errP l i ≠ 0) : Calls Try.prog 20 #[.slice A l.length c, .int .i64 i] w fun x w' => ∃ B d, x = .returned (.tuple #[.slice B 0 d, .int .i64 (errP l i)]) ∧ Below w.heap.size w w' := by
  refine (pathY_calls l A c i w hr0 hc0).mono ?_
  rintro x w' ⟨B, d, rfl, _, _, hb⟩
  exact ⟨B, d, by rw [pathR_err l i he]; rfl, hb⟩
theorem grownE_calls (l : List S23) (A : Option Addr) (c : Nat) (i : Int) (w : World) (hr0 : Kd.C k23 w A l.length l) (hc0 : l.length ≤ c) (he : errG l i ≠ 0) : Calls Try.prog 25 #[.slice A l.length c, .int .i64 i] w fun x w' => ∃ B d, x = .returned (.tuple #[.slice B 0 d, .int .i64 (errG l i)]) ∧ Below w.heap.size w w' := by
  refine (grownY_calls l A c i w hr0 hc0).mono ?_
  rintro x w' ⟨B, d, rfl, _, _, hb⟩
  exact ⟨B, d, by rw [grownR_err l i he]; rfl, hb⟩
theorem pathO_calls (l : List S23) (A : Option Addr) (c : Nat) (i : Int) (w : World) (hr0 : Kd.C k23 w A l.length l) (hc0 : l.length ≤ c) (he : errP l i = 0) (m : Nat) (h : l.length ≤ 2 ^ m) (h1 : 1 ≤ l.length) : Calls Try.prog 20 #[.slice A l.length c, .int .i64 i] w fun x w' => ∃ B n d, x = .returned (.tuple #[.slice B n d, .int .i64 0]) ∧ n ≤ m ∧ Below w.heap.size w w' := by
  refine (pathY_calls l A c i w hr0 hc0).mono ?_
  rintro x w' ⟨B, d, rfl, _, _, hb⟩
  exact ⟨B, _, d, by rw [he], pathR_short l i m h h1, hb⟩
theorem grownO_calls (l : List S23) (A : Option Addr) (c : Nat) (i : Int) (w : World) (hr0 : Kd.C k23 w A l.length l) (hc0 : l.length ≤ c) (he : errG l i = 0) (m : Nat) (h : l.length ≤ 2 ^ m) (h1 : 1 ≤ l.length) : Calls Try.prog 25 #[.slice A l.length c, .int .i64 i] w fun x w' => ∃ B n d, x = .returned (.tuple #[.slice B n d, .int .i64 0]) ∧ n ≤ m + 1 ∧ Below w.heap.size w w' := by
  refine (grownY_calls l A c i w hr0 hc0).mono ?_
  rintro x w' ⟨B, d, rfl, _, _, hb⟩
  exact ⟨B, _, d, by rw [he], grownR_short l i m h h1, hb⟩
theorem half_step {n k m : Nat} (h : n / 2 ^ k = m) : n / 2 ^ (k + 1) = m / 2 := by rw [Nat.pow_succ, ← Nat.div_div_eq_div_mul, h]
theorem half_done {n k : Nat} (h : n / 2 ^ k = 0) (h1 : 1 ≤ n + 1) : n + 1 ≤ 2 ^ k := by
  have := (Nat.div_eq_zero_iff).1 h
  have h2 : 0 < 2 ^ k := Nat.two_pow_pos k
  omega
theorem tdiv2 (m : Nat) : Int.tdiv (m : Int) 2 = ((m / 2 : Nat) : Int) := rfl
set_option maxHeartbeats 8000000 in
set_option maxRecDepth 100000 in
theorem short_walk (l : List S23) (A : Option Addr) (c : Nat) (i j : Int) (w : World) (hr0 : Kd.C k23 w A l.length l) (hc0 : l.length ≤ c) :
    Calls Try.prog 6 #[.slice A l.length c, .int .i64 i, .int .i64 j] w fun e w' => e = .returned (.bool true) ∧ Below w.heap.size w w' := by
  have HI : Aside0 (AI w A l [] w) := Aside0.mk ⟨Below.refl _ _, hr0, fun x hx => by cases hx⟩
  clear hr0
  by_cases hl : 40 < l.length
  · have b1 : decide ((40 : Int) < (l.length : Int)) = true := decide_eq_true (by omega)
    have b2 : decide (40 < l.length) = true := decide_eq_true hl
    go_enter Try.func6, Try.ntmps6
    go_wp2_with (first
      | (go_at_call 10; (with_reducible refine (sane_calls _).mono ?_); rintro e w1 ⟨rfl, hb⟩; have n1_ := Aside0.mk (HI.out.below hb); clear HI hb; have HI := n1_; clear n1_))
    go_ret
    exact ⟨rfl, HI.out.1⟩
  · have b1 : decide ((40 : Int) < (l.length : Int)) = false := decide_eq_false (by omega)
    have b2 : decide (40 < l.length) = false := decide_eq_false hl
    cases hF : Few l with
    | false =>
      go_enter Try.func6, Try.ntmps6
      go_wp2_with (first
        | (go_at_call 10; (with_reducible refine (sane_calls _).mono ?_); rintro e w1 ⟨rfl, hb⟩; have n1_ := Aside0.mk (HI.out.below hb); clear HI hb; have HI := n1_; clear n1_)
        | (go_at_call 11; have k1_ := HI.out.2.1; (with_reducible refine (few_calls l A c _ k1_ hc0).mono ?_); clear k1_; rintro e w1 ⟨rfl, hb⟩; rw [hF]; have n1_ := Aside0.mk (HI.out.below hb); clear HI hb; have HI := n1_; clear n1_))
      go_ret
      exact ⟨rfl, HI.out.1⟩
    | true =>
      by_cases h0 : l.length = 0
      · have b3 : ((l.length : Int) == 0) = true := by rw [beq_iff_eq]; omega
        have b4 : (l.length == 0) = true := by rw [beq_iff_eq]; exact h0
        clear h0
        go_enter Try.func6, Try.ntmps6
        go_wp2_with (first
          | (go_at_call 10; (with_reducible refine (sane_calls _).mono ?_); rintro e w1 ⟨rfl, hb⟩; have n1_ := Aside0.mk (HI.out.below hb); clear HI hb; have HI := n1_; clear n1_)
          | (go_at_call 11; have k1_ := HI.out.2.1; (with_reducible refine (few_calls l A c _ k1_ hc0).mono ?_); clear k1_; rintro e w1 ⟨rfl, hb⟩; rw [hF]; have n1_ := Aside0.mk (HI.out.below hb); clear HI hb; have HI := n1_; clear n1_))
        go_ret
        exact ⟨rfl, HI.out.1⟩
      · have b3 : ((l.length : Int) == 0) = false := by rw [beq_eq_false_iff_ne]; omega
        have b4 : (l.length == 0) = false := by rw [beq_eq_false_iff_ne]; exact h0
        go_enter Try.func6, Try.ntmps6
        go_wp2_with (first
          | (go_at_call 10; (with_reducible refine (sane_calls _).mono ?_); rintro e w1 ⟨rfl, hb⟩; have n1_ := Aside0.mk (HI.out.below hb); clear HI hb; have HI := n1_; clear n1_)
          | (go_at_call 11; have k1_ := HI.out.2.1; (with_reducible refine (few_calls l A c _ k1_ hc0).mono ?_); clear k1_; rintro e w1 ⟨rfl, hb⟩; rw [hF]; have n1_ := Aside0.mk (HI.out.below hb); clear HI hb; have HI := n1_; clear n1_))
        have hl1 : 1 ≤ l.length := by omega
        have hl40 : l.length ≤ 40 := by omega
        clear b3 b4 b1 b2 hF h0 hl
        go_loopw [7, 8] (fun v7 v8 w' => ∃ k m : Nat, v7 = .int .i64 (k : Int) ∧ v8 = .int .i64 (m : Int) ∧ k + m ≤ 40 ∧ (l.length - 1) / 2 ^ k = m ∧ Aside0 (AI w A l [] w')) (fun _ v _ => (intOf v).toNat)
        case atStart => exact ⟨0, l.length - 1, rfl, by congr 1; omega, by omega, by simp, HI⟩
        case round =>
          obtain ⟨k, m, rfl, rfl, hkm, hdiv, HA⟩ := hrel
          clear HI
          by_cases hm : 0 < m
          · have d1 : decide ((0 : Int) < (m : Int)) = true := decide_eq_true (by omega)
            have d2 : decide (0 < m) = true := decide_eq_true hm
            have d3 := tdiv2 m
            have hh := half_step hdiv
            have HH := Aside0.mk hh
            clear hh hdiv
            go_wp2
            go_roundw
            case rel => exact ⟨k + 1, m / 2, by go_num, by go_num, by omega, HH.out, HA⟩
            case measure => simp [intOf]; omega
          · have hz : m = 0 := by omega
            subst hz
            have HD := Aside0.mk (show l.length ≤ 2 ^ k by have := half_done hdiv (by omega); omega)
            clear hdiv hm
            by_cases he1 : errP l i = 0
            · by_cases he2 : errG l j = 0
              · go_wp2_with (first
                  | (go_at_call 20; have k1_ := HA.out.2.1; (with_reducible refine (pathO_calls l A c i _ k1_ hc0 he1 k HD.out hl1).mono ?_); clear k1_; rintro e w1 ⟨B1, n1, d1, rfl, hn1, hb⟩; have q1_ : decide ((n1 : Int) ≤ (k : Int)) = true := decide_eq_true (by omega); have q2_ : decide (n1 ≤ k) = true := decide_eq_true hn1; have n1_ := Aside0.mk (HA.out.below hb); clear HA hb; have HA := n1_; clear n1_)
                  | (go_at_call 25; have k1_ := HA.out.2.1; (with_reducible refine (grownO_calls l A c j _ k1_ hc0 he2 k HD.out hl1).mono ?_); clear k1_; rintro e w1 ⟨B2, n2, d2, rfl, hn2, hb⟩; have q3_ : decide ((n2 : Int) ≤ (k : Int) + 1) = true := decide_eq_true (by omega); have q4_ : decide (n2 ≤ k + 1) = true := decide_eq_true hn2; have n1_ := Aside0.mk (HA.out.below hb); clear HA hb; have HA := n1_; clear n1_))
                go_ret
                exact ⟨rfl, HA.out.1⟩
              · have r2_ : (errG l j != 0) = true := by simp [he2]
                go_wp2_with (first
                  | (go_at_call 20; have k1_ := HA.out.2.1; (with_reducible refine (pathO_calls l A c i _ k1_ hc0 he1 k HD.out hl1).mono ?_); clear k1_; rintro e w1 ⟨B1, n1, d1, rfl, hn1, hb⟩; have q1_ : decide ((n1 : Int) ≤ (k : Int)) = true := decide_eq_true (by omega); have q2_ : decide (n1 ≤ k) = true := decide_eq_true hn1; have n1_ := Aside0.mk (HA.out.below hb); clear HA hb; have HA := n1_; clear n1_)
                  | (go_at_call 25; have k1_ := HA.out.2.1; (with_reducible refine (grownE_calls l A c j _ k1_ hc0 he2).mono ?_); clear k1_; rintro e w1 ⟨B2, d2, rfl, hb⟩; skip; have n1_ := Aside0.mk (HA.out.below hb); clear HA hb; have HA := n1_; clear n1_))
                go_ret
                exact ⟨rfl, HA.out.1⟩
            · by_cases he2 : errG l j = 0
              · have r1_ : (errP l i != 0) = true := by simp [he1]
                go_wp2_with (first
                  | (go_at_call 20; have k1_ := HA.out.2.1; (with_reducible refine (pathE_calls l A c i _ k1_ hc0 he1).mono ?_); clear k1_; rintro e w1 ⟨B1, d1, rfl, hb⟩; skip; have n1_ := Aside0.mk (HA.out.below hb); clear HA hb; have HA := n1_; clear n1_)
                  | (go_at_call 25; have k1_ := HA.out.2.1; (with_reducible refine (grownO_calls l A c j _ k1_ hc0 he2 k HD.out hl1).mono ?_); clear k1_; rintro e w1 ⟨B2, n2, d2, rfl, hn2, hb⟩; have q3_ : decide ((n2 : Int) ≤ (k : Int) + 1) = true := decide_eq_true (by omega); have q4_ : decide (n2 ≤ k + 1) = true := decide_eq_true hn2; have n1_ := Aside0.mk (HA.out.below hb); clear HA hb; have HA := n1_; clear n1_))
                go_ret
                exact ⟨rfl, HA.out.1⟩
              · have r1_ : (errP l i != 0) = true := by simp [he1]
                have r2_ : (errG l j != 0) = true := by simp [he2]
                go_wp2_with (first
                  | (go_at_call 20; have k1_ := HA.out.2.1; (with_reducible refine (pathE_calls l A c i _ k1_ hc0 he1).mono ?_); clear k1_; rintro e w1 ⟨B1, d1, rfl, hb⟩; skip; have n1_ := Aside0.mk (HA.out.below hb); clear HA hb; have HA := n1_; clear n1_)
                  | (go_at_call 25; have k1_ := HA.out.2.1; (with_reducible refine (grownE_calls l A c j _ k1_ hc0 he2).mono ?_); clear k1_; rintro e w1 ⟨B2, d2, rfl, hb⟩; skip; have n1_ := Aside0.mk (HA.out.below hb); clear HA hb; have HA := n1_; clear n1_))
                go_ret
                exact ⟨rfl, HA.out.1⟩
end Go.Proofs.Ytkedodmlbepfnaa.Lg
namespace Go.Proofs.Ytkedodmlbepfnaa.ledgerShort
open Go.ChangeShapes Go.WideShapes Go.ChangeAt Go.RowKit
open Go.ChangeMaps (open_string shut_string)
set_option linter.unusedVariables false
theorem own : ownKnob Try.prog.godebug = none := by kernel_rfl
theorem laidOut : laidOutB Try.prog = true := by kernel_rfl
set_option maxRecDepth 100000 in
theorem lifted (os : Os) (started : os.Started) (H : Type) (enc : TypeId × Value → H) :
    ReturnsInHanded {} Try.checked os 6 .any (Rows.ledgerShortSpec.pre6 enc Try.prog Try.f6 Rows.ledgerShortRow.domain false) (Rows.ledgerShortSpec.post enc Try.prog Try.f6 false true false false) := by
  refine returnsInHanded_of_change_sized (C := Try.checked) own started (by kernel_rfl) Try.func6
    (ChangeSpec.witness6 (enc := enc) (C := Try.checked) false ⟨#[], #[.slice none 0 0, .int .i64 0, .int .i64 0], []⟩ 8 (by kernel_rfl) (by kernel_rfl) (by kernel_rfl) (by kernel_rfl)) ?_
  intro W base args ds gs before hval0 hW hcnd hsz0 _
  have hval : ∀ (j : Nat) t v, Try.f6.params[j]? = some t → args[j]? = some v → Value.okWide Try.prog W .any base t v := hval0
  have hW' := hW
  obtain ⟨p, q, hA0, hV, rfl, hfz, hnd⟩ := hW
  have hA : DataW.TrodAll enc Try.prog W 0 (fun _ => true) true Try.f6.params.toList args.toList ds p := hA0
  rw [Try.params6] at hA hval
  obtain ⟨v0, vs0, d0, ds0, p0, q0, hargs, rfl, rfl, h0, r0⟩ := trodAll_cons hA
  obtain ⟨v1, vs1, d1, ds1, p1, q1, rfl, rfl, rfl, h1, r1⟩ := trodAll_cons r0
  obtain ⟨v2, vs2, d2, ds2, p2, q2, rfl, rfl, rfl, h2, r2⟩ := trodAll_cons r1
  obtain ⟨rfl, rfl, rfl⟩ := trodAll_nil r2
  obtain rfl : args = #[v0, v1, v2] := by cases args; simp_all
  obtain ⟨rfl, rfl⟩ := trodVars_none hV
  obtain ⟨a0, len0, cap0, rfl⟩ := okWide_slice Try.underlying24 (hval 0 24 v0 rfl rfl)
  have k0 := h0
  have lt0 : ∀ x ∈ p0, x.block < W.heap.size := by obtain ⟨m, hm⟩ := k0; exact DataW.trod_lt m _ _ _ hm
  obtain ⟨z0, rfl, c0, w0⟩ := Lg.entries_of h0
  obtain ⟨a1, rfl, rfl, rfl, w1⟩ := open_int Try.underlying3 (hval 1 3 v1 rfl rfl) h1
  obtain ⟨a2, rfl, rfl, rfl, w2⟩ := open_int Try.underlying3 (hval 2 3 v2 rfl rfl) h2
  clear hA0 hval0 hsz0
  refine (Lg.short_walk z0 a0 cap0 a1 a2 W w0 c0).mono fun e W' ⟨he, bel⟩ => ?_
  subst he
  exact ⟨_, rfl, _, _, _, [], _, [], hW', trodAll_mk1 (shut_bool Try.underlying4 _), (trodAll_cons_mk (Below.trod laidOut (by kernel_rfl) (of_decide_eq_true (by kernel_rfl)) k0 bel lt0) (trodAll_cons_mk (shut_int Try.underlying3 w1) (trodAll_cons_mk (shut_int Try.underlying3 w2) trodAll_mk0))), rfl, bel.frame _, fun h => by cases h⟩
theorem over : Rows.ledgerShortRow.holds Try.pinned (OpenSpec.ofChange Rows.ledgerShortSpec) :=
  OpenClaim.holds_of_wide 6 Try.f6 rfl rfl rfl rfl rfl rfl rfl ⟨rfl, rfl, rfl, rfl, rfl⟩ rfl rfl rfl rfl rfl (by kernel_rfl) Try.func6 (by kernel_rfl)
    (of_decide_eq_true (by kernel_rfl)) (by unfold Func.isWrapper; first | (rw [if_pos (by decide +kernel)]; kernel_rfl) | (rw [if_neg (by decide +kernel)]; exact ⟨rfl, rfl⟩))
    (fun os started H enc _ => lifted os started H enc)
theorem proved : Rows.LedgerShortSaid := over
#print axioms proved
end Go.Proofs.Ytkedodmlbepfnaa.ledgerShort
namespace Go.Proofs.Ytkedodmlbepfnaa
/-- The row, under a short name, for the claim. -/
theorem ledgerShort_holds : Rows.LedgerShortSaid := ledgerShort.proved
end Go.Proofs.Ytkedodmlbepfnaa
