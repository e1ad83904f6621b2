/- LedgerTrees: for every entry, list and two numbers the law returns true, and its arguments read afterwards as before. No condition. -/
import Derived.Test.YtkedodmlbepfnaaRows
import Derived.WalkKit
import Derived.ProofKit
import Derived.OpenShut
import Derived.ShutString
import Derived.ChangeOld
import Derived.Below
import Derived.SizedLaws
import Derived.Carry
import Derived.Test.YtkedodmlbepfnaaM4
set_option linter.unusedSimpArgs false
set_option linter.unusedVariables false
namespace Go.Proofs.Ytkedodmlbepfnaa.Lg
open Go.RowKit Go.Proofs.YtkedodmlbepfnaaW.PrintWords Go.Proofs.YtkedodmlbepfnaaW.PrintLast Go.Proofs.YtkedodmlbepfnaaW.PrintMore Go.Proofs.Ytkedodmlbepfnaa.Rg
theorem grownY_calls (l : List S23) (A : Option Addr) (c : Nat) (i : Int) (w : World) (hr0 : Kd.C k23 w A l.length l) (hc0 : l.length ≤ c) : Calls Try.prog 25 #[.slice A l.length c, .int .i64 i] w fun x w' => ∃ B d, x = .returned (.tuple #[.slice B (grownR l i).length d, .int .i64 (errG l i)]) ∧ (grownR l i).length ≤ d ∧ Kd.C (Kd.int .u64) w' B (grownR l i).length (grownR l i) ∧ Below w.heap.size w w' := by
  refine (grownX_calls l A c i w hr0 hc0).mono ?_
  rintro x w' ⟨v, rfl, hN, hb⟩
  obtain ⟨B, d, rfl, hd, hC⟩ := hN.reads
  exact ⟨B, d, rfl, hd, hC, hb⟩
theorem rgrownY_calls (l : List S23) (A : Option Addr) (c : Nat) (i : Int) (w : World) (hr0 : Kd.C k23 w A l.length l) (hc0 : l.length ≤ c) : Calls Try.prog 26 #[.slice A l.length c, .int .i64 i] w fun x w' => ∃ B d, x = .returned (.tuple #[.slice B (grownR l i).length d, .int .i64 (errG l i)]) ∧ (grownR l i).length ≤ d ∧ Kd.C (Kd.int .u64) w' B (grownR l i).length (grownR l i) ∧ Below w.heap.size w w' := by
  refine (rgrownX_calls l A c i w hr0 hc0).mono ?_
  rintro x w' ⟨v, rfl, hN, hb⟩
  obtain ⟨B, d, rfl, hd, hC⟩ := hN.reads
  exact ⟨B, d, rfl, hd, hC, hb⟩
theorem equalT_calls (xs : List Int) (A B : Option Addr) (c d : Nat) (w : World) (hr0 : Kd.C (Kd.int .u64) w A xs.length xs) (hc0 : xs.length ≤ c) (hs0 : Kd.C (Kd.int .u64) w B xs.length xs) (hd0 : xs.length ≤ d) :
    Calls Try.prog 22 #[.slice A xs.length c, .slice B xs.length d] w fun e w' => e = .returned (.bool true) ∧ Below w.heap.size w w' := by
  refine (equal_calls xs xs A B c d w hr0 hc0 hs0 hd0).mono ?_
  rintro x w' ⟨rfl, hb⟩
  exact ⟨by rw [decide_eq_true rfl], hb⟩
/-- The arguments, and what has come of the world. -/
def AI (w : World) (A : Option Addr) (l : List S23) (Ls : List (Option Addr × List Int)) (W : World) : Prop :=
  Below w.heap.size w W ∧ Kd.C k23 W A l.length l ∧ ∀ x ∈ Ls, Kd.C (Kd.int .u64) W x.1 x.2.length x.2
theorem AI.below {w W W' : World} {A : Option Addr} {l : List S23} {Ls : List (Option Addr × List Int)} (h : AI w A l Ls W) (hb : Below W.heap.size W W') : AI w A l Ls W' :=
  ⟨h.1.trans (hb.mono h.1.size), Kd.C_below h.2.1 hb, fun x hx => Kd.C_below (h.2.2 x hx) hb⟩
theorem AI.add {w W W' : World} {A B : Option Addr} {l : List S23} {Ls : List (Option Addr × List Int)} {xs : List Int} (h : AI w A l Ls W) (hb : Below W.heap.size W W') (hC : Kd.C (Kd.int .u64) W' B xs.length xs) : AI w A l ((B, xs) :: Ls) W' :=
  ⟨(h.below hb).1, (h.below hb).2.1, fun x hx => (List.mem_cons.1 hx).elim (fun e => e ▸ hC) ((h.below hb).2.2 x)⟩
set_option maxHeartbeats 8000000 in
set_option maxRecDepth 100000 in
theorem growth_walk (l : List S23) (A : Option Addr) (c : Nat) (i old root many : Int) (p : List Int) (B : Option Addr) (d : Nat) (w : World) (hr0 : Kd.C k23 w A l.length l) (hc0 : l.length ≤ c) (hp0 : Kd.C (Kd.int .u64) w B p.length p) (hd0 : p.length ≤ d) (hu : ∀ y ∈ p, U64 y) (ho : U64 old) :
    Calls Try.prog 5 #[.slice A l.length c, .int .i64 i, .int .u64 old, .int .u64 root, .int .i64 many, .slice B p.length d] w fun e w' => e = .returned (.bool true) ∧ Below w.heap.size w w' := by
  have HI : Aside0 (AI w A l [(B, p)] w) := Aside0.mk ⟨Below.refl _ _, hr0, fun x hx => by rw [List.mem_singleton] at hx; subst hx; exact hp0⟩
  clear hr0 hp0
  have HU := Aside0.mk hu
  have HO := Aside0.mk ho
  clear hu ho
  cases hF : Few l with
  | false =>
    go_enter Try.func5, Try.ntmps5
    go_wp2_with (first
      | (go_at_call 10; (with_reducible refine (sane_calls _).mono ?_); rintro e w1 ⟨rfl, hb⟩; have n1_ := Aside0.mk (HI.out.below hb); clear HI hb; have HI := n1_; clear n1_)
      | (go_at_call 11; have k1_ := HI.out.2.1; (with_reducible refine (few_calls l A c _ k1_ hc0).mono ?_); clear k1_; rintro e w1 ⟨rfl, hb⟩; rw [hF]; have n1_ := Aside0.mk (HI.out.below hb); clear HI hb; have HI := n1_; clear n1_))
    go_ret
    exact ⟨rfl, HI.out.1⟩
  | true =>
    by_cases hp : 40 < p.length
    · have b1 : decide ((40 : Int) < (p.length : Int)) = true := decide_eq_true (by omega)
      have b2 : decide (40 < p.length) = true := decide_eq_true hp
      go_enter Try.func5, Try.ntmps5
      go_wp2_with (first
        | (go_at_call 10; (with_reducible refine (sane_calls _).mono ?_); rintro e w1 ⟨rfl, hb⟩; have n1_ := Aside0.mk (HI.out.below hb); clear HI hb; have HI := n1_; clear n1_)
        | (go_at_call 11; have k1_ := HI.out.2.1; (with_reducible refine (few_calls l A c _ k1_ hc0).mono ?_); clear k1_; rintro e w1 ⟨rfl, hb⟩; rw [hF]; have n1_ := Aside0.mk (HI.out.below hb); clear HI hb; have HI := n1_; clear n1_))
      go_ret
      exact ⟨rfl, HI.out.1⟩
    · have b1 : decide ((40 : Int) < (p.length : Int)) = false := decide_eq_false (by omega)
      have b2 : decide (40 < p.length) = false := decide_eq_false hp
      have hp6 : p.length ≤ 1000000 := by omega
      go_enter Try.func5, Try.ntmps5
      go_wp2_with (first
        | (go_at_call 10; (with_reducible refine (sane_calls _).mono ?_); rintro e w1 ⟨rfl, hb⟩; have n1_ := Aside0.mk (HI.out.below hb); clear HI hb; have HI := n1_; clear n1_)
        | (go_at_call 11; have k1_ := HI.out.2.1; (with_reducible refine (few_calls l A c _ k1_ hc0).mono ?_); clear k1_; rintro e w1 ⟨rfl, hb⟩; rw [hF]; have n1_ := Aside0.mk (HI.out.below hb); clear HI hb; have HI := n1_; clear n1_)
        | (go_at_call 25; have k1_ := HI.out.2.1; (with_reducible refine (grownY_calls l A c i _ k1_ hc0).mono ?_); clear k1_; rintro e w1 ⟨B1, d1, rfl, hd1, hC1, hb⟩; have n1_ := Aside0.mk (HI.out.add hb hC1); clear HI hb hC1; have HI := n1_; clear n1_)
        | (go_at_call 26; have k1_ := HI.out.2.1; (with_reducible refine (rgrownY_calls l A c i _ k1_ hc0).mono ?_); clear k1_; rintro e w1 ⟨B2, d2, rfl, hd2, hC1, hb⟩; have n1_ := Aside0.mk (HI.out.add hb hC1); clear HI hb hC1; have HI := n1_; clear n1_)
        | (go_at_call 22; have k1_ := HI.out.2.2 (B1, grownR l i) (by simp); have k2_ := HI.out.2.2 (B2, grownR l i) (by simp); (with_reducible refine (equalT_calls (grownR l i) B1 B2 d1 d2 _ k1_ hd1 k2_ hd2).mono ?_); clear k1_ k2_; rintro e w1 ⟨rfl, hb⟩; have n1_ := Aside0.mk (HI.out.below hb); clear HI hb; have HI := n1_; clear n1_)
        | (go_at_call 27; have k1_ := HI.out.2.2 (B, p) (by simp); (with_reducible refine (checkGrownX_calls old i root many p B d _ k1_ hd0 hp6 HO.out HU.out).mono ?_); clear k1_; rintro e w1 ⟨rfl, hb⟩; have n1_ := Aside0.mk (HI.out.below hb); clear HI hb; have HI := n1_; clear n1_)
        | (go_at_call 28; have k1_ := HI.out.2.2 (B, p) (by simp); (with_reducible refine (rcheckGrownX_calls old i root many p B d _ k1_ hd0 hp6 HO.out HU.out).mono ?_); clear k1_; rintro e w1 ⟨rfl, hb⟩; have n1_ := Aside0.mk (HI.out.below hb); clear HI hb; have HI := n1_; clear n1_))
      go_ret
      exact ⟨rfl, HI.out.1⟩
end Go.Proofs.Ytkedodmlbepfnaa.Lg
set_option linter.unusedSimpArgs false
set_option linter.unusedVariables false
namespace Go.Proofs.Ytkedodmlbepfnaa.Lg
open Go.RowKit Go.Proofs.YtkedodmlbepfnaaW.PrintWords Go.Proofs.YtkedodmlbepfnaaW.PrintLast Go.Proofs.YtkedodmlbepfnaaW.PrintMore Go.Proofs.Ytkedodmlbepfnaa.Rg
def leafR (en : S23) : Int := if Valid en then leafS en else 0
def rootR (l : List S23) : Int := if errL l = 0 then rootS l else 0
theorem leafY_calls (en : S23) (w : World) : Calls Try.prog 12 #[.agg #[.int .i64 en.f0, .int .i64 en.f1, .string en.f2]] w fun x w' => x = .returned (.tuple #[.int .u64 (leafR en), .int .i64 (errE en)]) ∧ Below w.heap.size w w' := leafX_calls en w
theorem rleafY_calls (en : S23) (w : World) : Calls Try.prog 13 #[.agg #[.int .i64 en.f0, .int .i64 en.f1, .string en.f2]] w fun x w' => x = .returned (.tuple #[.int .u64 (leafR en), .int .i64 (errE en)]) ∧ Below w.heap.size w w' := rleafX_calls en w
theorem rootY_calls (l : List S23) (A : Option Addr) (c : Nat) (w : World) (hr0 : Kd.C k23 w A l.length l) (hc0 : l.length ≤ c) : Calls Try.prog 14 #[.slice A l.length c] w fun x w' => x = .returned (.tuple #[.int .u64 (rootR l), .int .i64 (errL l)]) ∧ Below w.heap.size w w' := rootX_calls l A c w hr0 hc0
theorem rrootY_calls (l : List S23) (A : Option Addr) (c : Nat) (w : World) (hr0 : Kd.C k23 w A l.length l) (hc0 : l.length ≤ c) : Calls Try.prog 15 #[.slice A l.length c] w fun x w' => x = .returned (.tuple #[.int .u64 (rootR l), .int .i64 (errL l)]) ∧ Below w.heap.size w w' := rrootX_calls l A c w hr0 hc0
def treesRel (en : S23) (l : List S23) (a b : Int) : Nat → Value → World → Prop
  | 0, v, _ => v = .agg #[.int .i64 en.f0, .int .i64 en.f1, .string en.f2]
  | 1, v, _ => v = .int .i64 (errE en)
  | 2, v, _ => v = .agg #[.int .i64 en.f0, .int .i64 en.f1, .string en.f2]
  | 3, v, _ => v = .int .i64 (errE en)
  | 4, v, _ => v = .bool true
  | 5, v, _ => v = .bool true
  | 6, v, _ => v = .int .u64 (leafR en)
  | 7, v, _ => v = .int .u64 (leafR en)
  | 8, v, _ => v = .bool true
  | 9, v, _ => v = .bool true
  | 10, v, _ => v = .bool true
  | 11, v, _ => v = .int .i64 (errE en)
  | 12, v, _ => v = .int .i64 (errE en)
  | 13, v, _ => v = .bool true
  | 14, v, _ => v = .bool true
  | 15, v, _ => v = .bool true
  | 16, v, _ => v = .int .u64 a
  | 17, v, _ => v = .int .u64 b
  | 18, v, _ => v = .int .u64 (nodeS a b)
  | 19, v, _ => v = .int .u64 a
  | 20, v, _ => v = .int .u64 b
  | 21, v, _ => v = .int .u64 (nodeS a b)
  | 22, v, _ => v = .bool true
  | 23, v, _ => v = .bool true
  | 24, v, _ => v = .bool true
  | 25, v, _ => v = .int .u64 (rootR l)
  | 26, v, _ => v = .int .u64 (rootR l)
  | 27, v, _ => v = .bool true
  | 28, v, _ => v = .bool true
  | 29, v, _ => v = .bool true
  | 30, v, _ => v = .int .i64 (errL l)
  | 31, v, _ => v = .int .i64 (errL l)
  | 32, v, _ => v = .bool true
  | 33, v, _ => v = .bool true
  | 34, v, _ => v = .bool true
  | _, _, _ => True
set_option maxHeartbeats 8000000 in
set_option maxRecDepth 100000 in
theorem trees_walk (en : S23) (l : List S23) (A : Option Addr) (c : Nat) (a b : Int) (w : World) (hr0 : Kd.C k23 w A l.length l) (hc0 : l.length ≤ c) (ha : U64 a) (hbb : U64 b) :
    Calls Try.prog 3 #[.agg #[.int .i64 en.f0, .int .i64 en.f1, .string en.f2], .slice A l.length c, .int .u64 a, .int .u64 b] w fun e w' => e = .returned (.bool true) ∧ Below w.heap.size w w' := by
  have hB1 : Below w.heap.size w (w.alloc (.cells #[.int .i64 en.f0, .int .i64 en.f1, .string en.f2] 23)) := below_alloc (Below.refl _ _) _
  have HI : Aside0 (AI w A l [] (w.alloc (.cells #[.int .i64 en.f0, .int .i64 en.f1, .string en.f2] 23))) := Aside0.mk ⟨hB1, Kd.C_below hr0 hB1, fun x hx => by cases hx⟩
  have HX := Aside0.mk (blk_new w (.cells #[.int .i64 en.f0, .int .i64 en.f1, .string en.f2] 23))
  have HA := Aside0.mk ha
  have HBB := Aside0.mk hbb
  clear hr0 hB1 ha hbb
  cases hF : Few l with
  | false =>
    go_enter Try.func3, Try.ntmps3
    go_wp2_with (first
        | (go_at_call 10; (with_reducible refine (sane_calls _).mono ?_); rintro e1 w1 ⟨rfl, hb⟩; have n1_ := Aside0.mk (HI.out.below hb); have n2_ := Aside0.mk ((hb.block _ (blk_lt HX.out)).trans HX.out); clear HI HX hb; have HI := n1_; have HX := n2_; clear n1_ n2_; have x0 := (blk_cell HX.out 0).trans rfl; have x1 := (blk_cell HX.out 1).trans rfl; have x2 : _ = some (Value.string en.f2) := (blk_cell HX.out 2).trans rfl)
        | (go_at_call 11; have k1_ := HI.out.2.1; (with_reducible refine (few_calls l A c _ k1_ hc0).mono ?_); clear k1_; rintro e1 w1 ⟨rfl, hb⟩; rw [hF]; have n1_ := Aside0.mk (HI.out.below hb); have n2_ := Aside0.mk ((hb.block _ (blk_lt HX.out)).trans HX.out); clear HI HX hb; have HI := n1_; have HX := n2_; clear n1_ n2_; have x0 := (blk_cell HX.out 0).trans rfl; have x1 := (blk_cell HX.out 1).trans rfl; have x2 : _ = some (Value.string en.f2) := (blk_cell HX.out 2).trans rfl))
    go_ret
    exact ⟨rfl, HI.out.1⟩
  | true =>
    by_cases hp : 2500 < en.f2.size
    · have b1 : decide ((2500 : Int) < (en.f2.size : Int)) = true := decide_eq_true (by omega)
      have b2 : decide (2500 < en.f2.size) = true := decide_eq_true hp
      go_enter Try.func3, Try.ntmps3
      go_wp2_with (first
        | (go_at_call 10; (with_reducible refine (sane_calls _).mono ?_); rintro e1 w1 ⟨rfl, hb⟩; have n1_ := Aside0.mk (HI.out.below hb); have n2_ := Aside0.mk ((hb.block _ (blk_lt HX.out)).trans HX.out); clear HI HX hb; have HI := n1_; have HX := n2_; clear n1_ n2_; have x0 := (blk_cell HX.out 0).trans rfl; have x1 := (blk_cell HX.out 1).trans rfl; have x2 : _ = some (Value.string en.f2) := (blk_cell HX.out 2).trans rfl)
        | (go_at_call 11; have k1_ := HI.out.2.1; (with_reducible refine (few_calls l A c _ k1_ hc0).mono ?_); clear k1_; rintro e1 w1 ⟨rfl, hb⟩; rw [hF]; have n1_ := Aside0.mk (HI.out.below hb); have n2_ := Aside0.mk ((hb.block _ (blk_lt HX.out)).trans HX.out); clear HI HX hb; have HI := n1_; have HX := n2_; clear n1_ n2_; have x0 := (blk_cell HX.out 0).trans rfl; have x1 := (blk_cell HX.out 1).trans rfl; have x2 : _ = some (Value.string en.f2) := (blk_cell HX.out 2).trans rfl))
      go_ret
      exact ⟨rfl, HI.out.1⟩
    · have b1 : decide ((2500 : Int) < (en.f2.size : Int)) = false := decide_eq_false (by omega)
      have b2 : decide (2500 < en.f2.size) = false := decide_eq_false hp
      go_enter Try.func3, Try.ntmps3
      go_wp2_with (first
        | (go_at_call 10; (with_reducible refine (sane_calls _).mono ?_); rintro e1 w1 ⟨rfl, hb⟩; have n1_ := Aside0.mk (HI.out.below hb); have n2_ := Aside0.mk ((hb.block _ (blk_lt HX.out)).trans HX.out); clear HI HX hb; have HI := n1_; have HX := n2_; clear n1_ n2_; have x0 := (blk_cell HX.out 0).trans rfl; have x1 := (blk_cell HX.out 1).trans rfl; have x2 : _ = some (Value.string en.f2) := (blk_cell HX.out 2).trans rfl)
        | (go_at_call 11; have k1_ := HI.out.2.1; (with_reducible refine (few_calls l A c _ k1_ hc0).mono ?_); clear k1_; rintro e1 w1 ⟨rfl, hb⟩; rw [hF]; have n1_ := Aside0.mk (HI.out.below hb); have n2_ := Aside0.mk ((hb.block _ (blk_lt HX.out)).trans HX.out); clear HI HX hb; have HI := n1_; have HX := n2_; clear n1_ n2_; have x0 := (blk_cell HX.out 0).trans rfl; have x1 := (blk_cell HX.out 1).trans rfl; have x2 : _ = some (Value.string en.f2) := (blk_cell HX.out 2).trans rfl)
        | (go_at_call 12; (with_reducible refine (leafY_calls en _).mono ?_); rintro e1 w1 ⟨rfl, hb⟩; clear x0 x1 x2; have n1_ := Aside0.mk (HI.out.below hb); have n2_ := Aside0.mk ((hb.block _ (blk_lt HX.out)).trans HX.out); clear HI HX hb; have HI := n1_; have HX := n2_; clear n1_ n2_; have x0 := (blk_cell HX.out 0).trans rfl; have x1 := (blk_cell HX.out 1).trans rfl; have x2 : _ = some (Value.string en.f2) := (blk_cell HX.out 2).trans rfl)
        | (go_at_call 13; (with_reducible refine (rleafY_calls en _).mono ?_); rintro e1 w1 ⟨rfl, hb⟩; clear x0 x1 x2; have n1_ := Aside0.mk (HI.out.below hb); have n2_ := Aside0.mk ((hb.block _ (blk_lt HX.out)).trans HX.out); clear HI HX hb; have HI := n1_; have HX := n2_; clear n1_ n2_; have x0 := (blk_cell HX.out 0).trans rfl; have x1 := (blk_cell HX.out 1).trans rfl; have x2 : _ = some (Value.string en.f2) := (blk_cell HX.out 2).trans rfl)
        | (go_at_call 14; have k1_ := HI.out.2.1; (with_reducible refine (rootY_calls l A c _ k1_ hc0).mono ?_); clear k1_; rintro e1 w1 ⟨rfl, hb⟩; clear x0 x1 x2; have n1_ := Aside0.mk (HI.out.below hb); have n2_ := Aside0.mk ((hb.block _ (blk_lt HX.out)).trans HX.out); clear HI HX hb; have HI := n1_; have HX := n2_; clear n1_ n2_; have x0 := (blk_cell HX.out 0).trans rfl; have x1 := (blk_cell HX.out 1).trans rfl; have x2 : _ = some (Value.string en.f2) := (blk_cell HX.out 2).trans rfl)
        | (go_at_call 15; have k1_ := HI.out.2.1; (with_reducible refine (rrootY_calls l A c _ k1_ hc0).mono ?_); clear k1_; rintro e1 w1 ⟨rfl, hb⟩; clear x0 x1 x2; have n1_ := Aside0.mk (HI.out.below hb); have n2_ := Aside0.mk ((hb.block _ (blk_lt HX.out)).trans HX.out); clear HI HX hb; have HI := n1_; have HX := n2_; clear n1_ n2_; have x0 := (blk_cell HX.out 0).trans rfl; have x1 := (blk_cell HX.out 1).trans rfl; have x2 : _ = some (Value.string en.f2) := (blk_cell HX.out 2).trans rfl))
      refine rg_ [0, 1, 2, 3, 4, 5, 6, 7, 8, 9, 10, 11, 12, 13, 14, 15, 16, 17, 18, 19, 20, 21, 22, 23, 24, 25, 26, 27, 28, 29, 30, 31, 32, 33, 34] [(0, 48), (1, 49), (2, 50), (3, 51), (4, 52), (5, 53), (6, 54), (7, 55), (8, 56), (9, 57), (10, 58), (11, 59), (12, 60), (13, 61), (14, 62), (15, 63), (16, 64), (17, 65), (18, 66), (19, 67), (20, 68), (21, 69), (22, 70), (23, 71), (24, 72), (25, 73), (26, 74), (27, 75), (28, 76), (29, 77), (30, 78), (31, 79), (32, 80), (33, 81), (34, 8)] (bitsOf (rtab .any (opsOf Try.f3 9)).2) (treesRel en l a b) (by kernel_rfl) rfl (by kernel_rfl) rfl (by kernel_rfl) (fun j v w w' h _ => by revert h; unfold treesRel; split <;> exact id) ?steps ?rend
      case steps =>
        refine steps_cons (fun a1 w2 hB hsz hdf hn hd => ⟨_, rfl, fun K hK => ?_⟩) ?_
        · have e4 := eval_of ((hn 4 rfl).trans rfl)
          refine value_ (v := .agg #[.int .i64 en.f0, .int .i64 en.f1, .string en.f2]) (w1 := w2) rfl rfl ?_ (hK _ _ (Below.refl _ _) rfl)
          clear hd hn hK
          simp only [execOp, Option.map_some, Option.map_none, List.map_toArray, List.map_cons, List.map_nil, List.getElem_toArray, List.getElem_cons_zero, List.getElem_cons_succ, e4]
          clear e4
          have hbx := (hB.block _ (blk_lt HX.out)).trans HX.out
          have hx0 : w2.cell? ⟨w.heap.size, 0, none⟩ = some (.int .i64 en.f0) := (blk_cell hbx 0).trans rfl
          have hx1 : w2.cell? ⟨w.heap.size, 1, none⟩ = some (.int .i64 en.f1) := (blk_cell hbx 1).trans rfl
          have hx2 : w2.cell? ⟨w.heap.size, 2, none⟩ = some (.string en.f2) := (blk_cell hbx 2).trans rfl
          clear hB hbx
          go_simp
        refine steps_cons (fun a1 w2 hB hsz hdf hn hd => ⟨_, rfl, fun K hK => ?_⟩) ?_
        · obtain ⟨v48, h48, rfl⟩ := hd 0 48 rfl (by kernel_rfl)
          have e48 := eval_of h48
          clear h48
          refine goes_ Try.func16 (by kernel_rfl) rfl #[.agg #[.int .i64 en.f0, .int .i64 en.f1, .string en.f2]] (by rfl) rfl rfl (by simp only [List.map_toArray, List.map_cons, List.map_nil, e48]) ?_
          refine (checkE_calls en _).mono ?_
          rintro e3 w3 ⟨rfl, hbw⟩
          exact ⟨_, rfl, hK _ _ hbw rfl⟩
        refine steps_cons (fun a1 w2 hB hsz hdf hn hd => ⟨_, rfl, fun K hK => ?_⟩) ?_
        · have e4 := eval_of ((hn 4 rfl).trans rfl)
          refine value_ (v := .agg #[.int .i64 en.f0, .int .i64 en.f1, .string en.f2]) (w1 := w2) rfl rfl ?_ (hK _ _ (Below.refl _ _) rfl)
          clear hd hn hK
          simp only [execOp, Option.map_some, Option.map_none, List.map_toArray, List.map_cons, List.map_nil, List.getElem_toArray, List.getElem_cons_zero, List.getElem_cons_succ, e4]
          clear e4
          have hbx := (hB.block _ (blk_lt HX.out)).trans HX.out
          have hx0 : w2.cell? ⟨w.heap.size, 0, none⟩ = some (.int .i64 en.f0) := (blk_cell hbx 0).trans rfl
          have hx1 : w2.cell? ⟨w.heap.size, 1, none⟩ = some (.int .i64 en.f1) := (blk_cell hbx 1).trans rfl
          have hx2 : w2.cell? ⟨w.heap.size, 2, none⟩ = some (.string en.f2) := (blk_cell hbx 2).trans rfl
          clear hB hbx
          go_simp
        refine steps_cons (fun a1 w2 hB hsz hdf hn hd => ⟨_, rfl, fun K hK => ?_⟩) ?_
        · obtain ⟨v50, h50, rfl⟩ := hd 2 50 rfl (by kernel_rfl)
          have e50 := eval_of h50
          clear h50
          refine goes_ Try.func17 (by kernel_rfl) rfl #[.agg #[.int .i64 en.f0, .int .i64 en.f1, .string en.f2]] (by rfl) rfl rfl (by simp only [List.map_toArray, List.map_cons, List.map_nil, e50]) ?_
          refine (rcheckE_calls en _).mono ?_
          rintro e3 w3 ⟨rfl, hbw⟩
          exact ⟨_, rfl, hK _ _ hbw rfl⟩
        refine steps_cons (fun a1 w2 hB hsz hdf hn hd => ⟨_, rfl, fun K hK => ?_⟩) ?_
        · obtain ⟨v49, h49, rfl⟩ := hd 1 49 rfl (by kernel_rfl)
          have e49 := eval_of h49
          clear h49
          obtain ⟨v51, h51, rfl⟩ := hd 3 51 rfl (by kernel_rfl)
          have e51 := eval_of h51
          clear h51
          refine value_ (v := .bool true) (w1 := w2) rfl rfl ?_ (hK _ _ (Below.refl _ _) rfl)
          clear hd hn hK
          simp only [execOp, Option.map_some, Option.map_none, List.map_toArray, List.map_cons, List.map_nil, List.getElem_toArray, List.getElem_cons_zero, List.getElem_cons_succ, e49, e51]
          clear e49 e51
          go_simp
        refine steps_cons (fun a1 w2 hB hsz hdf hn hd => ⟨_, rfl, fun K hK => ?_⟩) ?_
        · obtain ⟨v52, h52, rfl⟩ := hd 4 52 rfl (by kernel_rfl)
          have e52 := eval_of h52
          clear h52
          refine value_ (v := .bool true) (w1 := w2) rfl rfl ?_ (hK _ _ (Below.refl _ _) rfl)
          clear hd hn hK
          simp only [execOp, Option.map_some, Option.map_none, List.map_toArray, List.map_cons, List.map_nil, List.getElem_toArray, List.getElem_cons_zero, List.getElem_cons_succ, e52]
          clear e52
          go_simp
        refine steps_cons (fun a1 w2 hB hsz hdf hn hd => ⟨_, rfl, fun K hK => ?_⟩) ?_
        · have e9 := eval_of ((hn 9 rfl).trans rfl)
          obtain ⟨v53g, h53g, q53g⟩ := hd 5 53 rfl (by kernel_rfl)
          have e53g : v53g = .bool true := q53g
          subst e53g
          refine value_ (v := .int .u64 (leafR en)) (w1 := w2) (wanted_of (j := 5) (b := true) (t := 53) rfl rfl h53g) rfl ?_ (hK _ _ (Below.refl _ _) rfl)
          clear hd hn hK
          simp only [execOp, Option.map_some, Option.map_none, List.map_toArray, List.map_cons, List.map_nil, List.getElem_toArray, List.getElem_cons_zero, List.getElem_cons_succ, e9]
          clear e9
          go_simp
        refine steps_cons (fun a1 w2 hB hsz hdf hn hd => ⟨_, rfl, fun K hK => ?_⟩) ?_
        · have e11 := eval_of ((hn 11 rfl).trans rfl)
          obtain ⟨v53g, h53g, q53g⟩ := hd 5 53 rfl (by kernel_rfl)
          have e53g : v53g = .bool true := q53g
          subst e53g
          refine value_ (v := .int .u64 (leafR en)) (w1 := w2) (wanted_of (j := 5) (b := true) (t := 53) rfl rfl h53g) rfl ?_ (hK _ _ (Below.refl _ _) rfl)
          clear hd hn hK
          simp only [execOp, Option.map_some, Option.map_none, List.map_toArray, List.map_cons, List.map_nil, List.getElem_toArray, List.getElem_cons_zero, List.getElem_cons_succ, e11]
          clear e11
          go_simp
        refine steps_cons (fun a1 w2 hB hsz hdf hn hd => ⟨_, rfl, fun K hK => ?_⟩) ?_
        · obtain ⟨v54, h54, rfl⟩ := hd 6 54 rfl (by kernel_rfl)
          have e54 := eval_of h54
          clear h54
          obtain ⟨v55, h55, rfl⟩ := hd 7 55 rfl (by kernel_rfl)
          have e55 := eval_of h55
          clear h55
          obtain ⟨v53g, h53g, q53g⟩ := hd 5 53 rfl (by kernel_rfl)
          have e53g : v53g = .bool true := q53g
          subst e53g
          refine value_ (v := .bool true) (w1 := w2) (wanted_of (j := 5) (b := true) (t := 53) rfl rfl h53g) rfl ?_ (hK _ _ (Below.refl _ _) rfl)
          clear hd hn hK
          simp only [execOp, Option.map_some, Option.map_none, List.map_toArray, List.map_cons, List.map_nil, List.getElem_toArray, List.getElem_cons_zero, List.getElem_cons_succ, e54, e55]
          clear e54 e55
          go_simp
        refine steps_cons (fun a1 w2 hB hsz hdf hn hd => ⟨_, rfl, fun K hK => ?_⟩) ?_
        · obtain ⟨v53, h53, rfl⟩ := hd 5 53 rfl (by kernel_rfl)
          have e53 := eval_of h53
          clear h53
          obtain ⟨v56, h56, rfl⟩ := hd 8 56 rfl (by kernel_rfl)
          have e56 := eval_of h56
          clear h56
          refine value_ (v := .bool true) (w1 := w2) rfl rfl ?_ (hK _ _ (Below.refl _ _) rfl)
          clear hd hn hK
          simp only [execOp, Option.map_some, Option.map_none, List.map_toArray, List.map_cons, List.map_nil, List.getElem_toArray, List.getElem_cons_zero, List.getElem_cons_succ, e53, e56]
          clear e53 e56
          go_simp
        refine steps_cons (fun a1 w2 hB hsz hdf hn hd => ⟨_, rfl, fun K hK => ?_⟩) ?_
        · obtain ⟨v57, h57, rfl⟩ := hd 9 57 rfl (by kernel_rfl)
          have e57 := eval_of h57
          clear h57
          refine value_ (v := .bool true) (w1 := w2) rfl rfl ?_ (hK _ _ (Below.refl _ _) rfl)
          clear hd hn hK
          simp only [execOp, Option.map_some, Option.map_none, List.map_toArray, List.map_cons, List.map_nil, List.getElem_toArray, List.getElem_cons_zero, List.getElem_cons_succ, e57]
          clear e57
          go_simp
        refine steps_cons (fun a1 w2 hB hsz hdf hn hd => ⟨_, rfl, fun K hK => ?_⟩) ?_
        · have e10 := eval_of ((hn 10 rfl).trans rfl)
          obtain ⟨v58g, h58g, q58g⟩ := hd 10 58 rfl (by kernel_rfl)
          have e58g : v58g = .bool true := q58g
          subst e58g
          refine value_ (v := .int .i64 (errE en)) (w1 := w2) (wanted_of (j := 10) (b := true) (t := 58) rfl rfl h58g) rfl ?_ (hK _ _ (Below.refl _ _) rfl)
          clear hd hn hK
          simp only [execOp, Option.map_some, Option.map_none, List.map_toArray, List.map_cons, List.map_nil, List.getElem_toArray, List.getElem_cons_zero, List.getElem_cons_succ, e10]
          clear e10
          go_simp
        refine steps_cons (fun a1 w2 hB hsz hdf hn hd => ⟨_, rfl, fun K hK => ?_⟩) ?_
        · have e12 := eval_of ((hn 12 rfl).trans rfl)
          obtain ⟨v58g, h58g, q58g⟩ := hd 10 58 rfl (by kernel_rfl)
          have e58g : v58g = .bool true := q58g
          subst e58g
          refine value_ (v := .int .i64 (errE en)) (w1 := w2) (wanted_of (j := 10) (b := true) (t := 58) rfl rfl h58g) rfl ?_ (hK _ _ (Below.refl _ _) rfl)
          clear hd hn hK
          simp only [execOp, Option.map_some, Option.map_none, List.map_toArray, List.map_cons, List.map_nil, List.getElem_toArray, List.getElem_cons_zero, List.getElem_cons_succ, e12]
          clear e12
          go_simp
        refine steps_cons (fun a1 w2 hB hsz hdf hn hd => ⟨_, rfl, fun K hK => ?_⟩) ?_
        · obtain ⟨v59, h59, rfl⟩ := hd 11 59 rfl (by kernel_rfl)
          have e59 := eval_of h59
          clear h59
          obtain ⟨v60, h60, rfl⟩ := hd 12 60 rfl (by kernel_rfl)
          have e60 := eval_of h60
          clear h60
          obtain ⟨v58g, h58g, q58g⟩ := hd 10 58 rfl (by kernel_rfl)
          have e58g : v58g = .bool true := q58g
          subst e58g
          refine value_ (v := .bool true) (w1 := w2) (wanted_of (j := 10) (b := true) (t := 58) rfl rfl h58g) rfl ?_ (hK _ _ (Below.refl _ _) rfl)
          clear hd hn hK
          simp only [execOp, Option.map_some, Option.map_none, List.map_toArray, List.map_cons, List.map_nil, List.getElem_toArray, List.getElem_cons_zero, List.getElem_cons_succ, e59, e60]
          clear e59 e60
          go_simp
        refine steps_cons (fun a1 w2 hB hsz hdf hn hd => ⟨_, rfl, fun K hK => ?_⟩) ?_
        · obtain ⟨v58, h58, rfl⟩ := hd 10 58 rfl (by kernel_rfl)
          have e58 := eval_of h58
          clear h58
          obtain ⟨v61, h61, rfl⟩ := hd 13 61 rfl (by kernel_rfl)
          have e61 := eval_of h61
          clear h61
          refine value_ (v := .bool true) (w1 := w2) rfl rfl ?_ (hK _ _ (Below.refl _ _) rfl)
          clear hd hn hK
          simp only [execOp, Option.map_some, Option.map_none, List.map_toArray, List.map_cons, List.map_nil, List.getElem_toArray, List.getElem_cons_zero, List.getElem_cons_succ, e58, e61]
          clear e58 e61
          go_simp
        refine steps_cons (fun a1 w2 hB hsz hdf hn hd => ⟨_, rfl, fun K hK => ?_⟩) ?_
        · obtain ⟨v62, h62, rfl⟩ := hd 14 62 rfl (by kernel_rfl)
          have e62 := eval_of h62
          clear h62
          refine value_ (v := .bool true) (w1 := w2) rfl rfl ?_ (hK _ _ (Below.refl _ _) rfl)
          clear hd hn hK
          simp only [execOp, Option.map_some, Option.map_none, List.map_toArray, List.map_cons, List.map_nil, List.getElem_toArray, List.getElem_cons_zero, List.getElem_cons_succ, e62]
          clear e62
          go_simp
        refine steps_cons (fun a1 w2 hB hsz hdf hn hd => ⟨_, rfl, fun K hK => ?_⟩) ?_
        · have e2 := eval_of ((hn 2 rfl).trans rfl)
          obtain ⟨v63g, h63g, q63g⟩ := hd 15 63 rfl (by kernel_rfl)
          have e63g : v63g = .bool true := q63g
          subst e63g
          refine value_ (v := .int .u64 a) (w1 := w2) (wanted_of (j := 15) (b := true) (t := 63) rfl rfl h63g) rfl ?_ (hK _ _ (Below.refl _ _) rfl)
          clear hd hn hK
          simp only [execOp, Option.map_some, Option.map_none, List.map_toArray, List.map_cons, List.map_nil, List.getElem_toArray, List.getElem_cons_zero, List.getElem_cons_succ, e2]
          clear e2
          go_simp
        refine steps_cons (fun a1 w2 hB hsz hdf hn hd => ⟨_, rfl, fun K hK => ?_⟩) ?_
        · have e3 := eval_of ((hn 3 rfl).trans rfl)
          obtain ⟨v63g, h63g, q63g⟩ := hd 15 63 rfl (by kernel_rfl)
          have e63g : v63g = .bool true := q63g
          subst e63g
          refine value_ (v := .int .u64 b) (w1 := w2) (wanted_of (j := 15) (b := true) (t := 63) rfl rfl h63g) rfl ?_ (hK _ _ (Below.refl _ _) rfl)
          clear hd hn hK
          simp only [execOp, Option.map_some, Option.map_none, List.map_toArray, List.map_cons, List.map_nil, List.getElem_toArray, List.getElem_cons_zero, List.getElem_cons_succ, e3]
          clear e3
          go_simp
        refine steps_cons (fun a1 w2 hB hsz hdf hn hd => ⟨_, rfl, fun K hK => ?_⟩) ?_
        · obtain ⟨v64, h64, rfl⟩ := hd 16 64 rfl (by kernel_rfl)
          have e64 := eval_of h64
          clear h64
          obtain ⟨v65, h65, rfl⟩ := hd 17 65 rfl (by kernel_rfl)
          have e65 := eval_of h65
          clear h65
          obtain ⟨v63g, h63g, q63g⟩ := hd 15 63 rfl (by kernel_rfl)
          have e63g : v63g = .bool true := q63g
          subst e63g
          refine goes_ Try.func18 (by kernel_rfl) rfl #[.int .u64 a, .int .u64 b] (wanted_of (j := 15) (b := true) (t := 63) rfl rfl h63g) rfl rfl (by simp only [List.map_toArray, List.map_cons, List.map_nil, e64, e65]) ?_
          refine (node_any a b _).mono ?_
          rintro e3 w3 ⟨rfl, hbw⟩
          exact ⟨_, rfl, hK _ _ hbw rfl⟩
        refine steps_cons (fun a1 w2 hB hsz hdf hn hd => ⟨_, rfl, fun K hK => ?_⟩) ?_
        · have e2 := eval_of ((hn 2 rfl).trans rfl)
          obtain ⟨v63g, h63g, q63g⟩ := hd 15 63 rfl (by kernel_rfl)
          have e63g : v63g = .bool true := q63g
          subst e63g
          refine value_ (v := .int .u64 a) (w1 := w2) (wanted_of (j := 15) (b := true) (t := 63) rfl rfl h63g) rfl ?_ (hK _ _ (Below.refl _ _) rfl)
          clear hd hn hK
          simp only [execOp, Option.map_some, Option.map_none, List.map_toArray, List.map_cons, List.map_nil, List.getElem_toArray, List.getElem_cons_zero, List.getElem_cons_succ, e2]
          clear e2
          go_simp
        refine steps_cons (fun a1 w2 hB hsz hdf hn hd => ⟨_, rfl, fun K hK => ?_⟩) ?_
        · have e3 := eval_of ((hn 3 rfl).trans rfl)
          obtain ⟨v63g, h63g, q63g⟩ := hd 15 63 rfl (by kernel_rfl)
          have e63g : v63g = .bool true := q63g
          subst e63g
          refine value_ (v := .int .u64 b) (w1 := w2) (wanted_of (j := 15) (b := true) (t := 63) rfl rfl h63g) rfl ?_ (hK _ _ (Below.refl _ _) rfl)
          clear hd hn hK
          simp only [execOp, Option.map_some, Option.map_none, List.map_toArray, List.map_cons, List.map_nil, List.getElem_toArray, List.getElem_cons_zero, List.getElem_cons_succ, e3]
          clear e3
          go_simp
        refine steps_cons (fun a1 w2 hB hsz hdf hn hd => ⟨_, rfl, fun K hK => ?_⟩) ?_
        · obtain ⟨v67, h67, rfl⟩ := hd 19 67 rfl (by kernel_rfl)
          have e67 := eval_of h67
          clear h67
          obtain ⟨v68, h68, rfl⟩ := hd 20 68 rfl (by kernel_rfl)
          have e68 := eval_of h68
          clear h68
          obtain ⟨v63g, h63g, q63g⟩ := hd 15 63 rfl (by kernel_rfl)
          have e63g : v63g = .bool true := q63g
          subst e63g
          refine goes_ Try.func19 (by kernel_rfl) rfl #[.int .u64 a, .int .u64 b] (wanted_of (j := 15) (b := true) (t := 63) rfl rfl h63g) rfl rfl (by simp only [List.map_toArray, List.map_cons, List.map_nil, e67, e68]) ?_
          refine (rnode_any a b HA.out HBB.out _).mono ?_
          rintro e3 w3 ⟨rfl, hbw⟩
          exact ⟨_, rfl, hK _ _ hbw rfl⟩
        refine steps_cons (fun a1 w2 hB hsz hdf hn hd => ⟨_, rfl, fun K hK => ?_⟩) ?_
        · obtain ⟨v66, h66, rfl⟩ := hd 18 66 rfl (by kernel_rfl)
          have e66 := eval_of h66
          clear h66
          obtain ⟨v69, h69, rfl⟩ := hd 21 69 rfl (by kernel_rfl)
          have e69 := eval_of h69
          clear h69
          obtain ⟨v63g, h63g, q63g⟩ := hd 15 63 rfl (by kernel_rfl)
          have e63g : v63g = .bool true := q63g
          subst e63g
          refine value_ (v := .bool true) (w1 := w2) (wanted_of (j := 15) (b := true) (t := 63) rfl rfl h63g) rfl ?_ (hK _ _ (Below.refl _ _) rfl)
          clear hd hn hK
          simp only [execOp, Option.map_some, Option.map_none, List.map_toArray, List.map_cons, List.map_nil, List.getElem_toArray, List.getElem_cons_zero, List.getElem_cons_succ, e66, e69]
          clear e66 e69
          go_simp
        refine steps_cons (fun a1 w2 hB hsz hdf hn hd => ⟨_, rfl, fun K hK => ?_⟩) ?_
        · obtain ⟨v63, h63, rfl⟩ := hd 15 63 rfl (by kernel_rfl)
          have e63 := eval_of h63
          clear h63
          obtain ⟨v70, h70, rfl⟩ := hd 22 70 rfl (by kernel_rfl)
          have e70 := eval_of h70
          clear h70
          refine value_ (v := .bool true) (w1 := w2) rfl rfl ?_ (hK _ _ (Below.refl _ _) rfl)
          clear hd hn hK
          simp only [execOp, Option.map_some, Option.map_none, List.map_toArray, List.map_cons, List.map_nil, List.getElem_toArray, List.getElem_cons_zero, List.getElem_cons_succ, e63, e70]
          clear e63 e70
          go_simp
        refine steps_cons (fun a1 w2 hB hsz hdf hn hd => ⟨_, rfl, fun K hK => ?_⟩) ?_
        · obtain ⟨v71, h71, rfl⟩ := hd 23 71 rfl (by kernel_rfl)
          have e71 := eval_of h71
          clear h71
          refine value_ (v := .bool true) (w1 := w2) rfl rfl ?_ (hK _ _ (Below.refl _ _) rfl)
          clear hd hn hK
          simp only [execOp, Option.map_some, Option.map_none, List.map_toArray, List.map_cons, List.map_nil, List.getElem_toArray, List.getElem_cons_zero, List.getElem_cons_succ, e71]
          clear e71
          go_simp
        refine steps_cons (fun a1 w2 hB hsz hdf hn hd => ⟨_, rfl, fun K hK => ?_⟩) ?_
        · have e13 := eval_of ((hn 13 rfl).trans rfl)
          obtain ⟨v72g, h72g, q72g⟩ := hd 24 72 rfl (by kernel_rfl)
          have e72g : v72g = .bool true := q72g
          subst e72g
          refine value_ (v := .int .u64 (rootR l)) (w1 := w2) (wanted_of (j := 24) (b := true) (t := 72) rfl rfl h72g) rfl ?_ (hK _ _ (Below.refl _ _) rfl)
          clear hd hn hK
          simp only [execOp, Option.map_some, Option.map_none, List.map_toArray, List.map_cons, List.map_nil, List.getElem_toArray, List.getElem_cons_zero, List.getElem_cons_succ, e13]
          clear e13
          go_simp
        refine steps_cons (fun a1 w2 hB hsz hdf hn hd => ⟨_, rfl, fun K hK => ?_⟩) ?_
        · have e15 := eval_of ((hn 15 rfl).trans rfl)
          obtain ⟨v72g, h72g, q72g⟩ := hd 24 72 rfl (by kernel_rfl)
          have e72g : v72g = .bool true := q72g
          subst e72g
          refine value_ (v := .int .u64 (rootR l)) (w1 := w2) (wanted_of (j := 24) (b := true) (t := 72) rfl rfl h72g) rfl ?_ (hK _ _ (Below.refl _ _) rfl)
          clear hd hn hK
          simp only [execOp, Option.map_some, Option.map_none, List.map_toArray, List.map_cons, List.map_nil, List.getElem_toArray, List.getElem_cons_zero, List.getElem_cons_succ, e15]
          clear e15
          go_simp
        refine steps_cons (fun a1 w2 hB hsz hdf hn hd => ⟨_, rfl, fun K hK => ?_⟩) ?_
        · obtain ⟨v73, h73, rfl⟩ := hd 25 73 rfl (by kernel_rfl)
          have e73 := eval_of h73
          clear h73
          obtain ⟨v74, h74, rfl⟩ := hd 26 74 rfl (by kernel_rfl)
          have e74 := eval_of h74
          clear h74
          obtain ⟨v72g, h72g, q72g⟩ := hd 24 72 rfl (by kernel_rfl)
          have e72g : v72g = .bool true := q72g
          subst e72g
          refine value_ (v := .bool true) (w1 := w2) (wanted_of (j := 24) (b := true) (t := 72) rfl rfl h72g) rfl ?_ (hK _ _ (Below.refl _ _) rfl)
          clear hd hn hK
          simp only [execOp, Option.map_some, Option.map_none, List.map_toArray, List.map_cons, List.map_nil, List.getElem_toArray, List.getElem_cons_zero, List.getElem_cons_succ, e73, e74]
          clear e73 e74
          go_simp
        refine steps_cons (fun a1 w2 hB hsz hdf hn hd => ⟨_, rfl, fun K hK => ?_⟩) ?_
        · obtain ⟨v72, h72, rfl⟩ := hd 24 72 rfl (by kernel_rfl)
          have e72 := eval_of h72
          clear h72
          obtain ⟨v75, h75, rfl⟩ := hd 27 75 rfl (by kernel_rfl)
          have e75 := eval_of h75
          clear h75
          refine value_ (v := .bool true) (w1 := w2) rfl rfl ?_ (hK _ _ (Below.refl _ _) rfl)
          clear hd hn hK
          simp only [execOp, Option.map_some, Option.map_none, List.map_toArray, List.map_cons, List.map_nil, List.getElem_toArray, List.getElem_cons_zero, List.getElem_cons_succ, e72, e75]
          clear e72 e75
          go_simp
        refine steps_cons (fun a1 w2 hB hsz hdf hn hd => ⟨_, rfl, fun K hK => ?_⟩) ?_
        · obtain ⟨v76, h76, rfl⟩ := hd 28 76 rfl (by kernel_rfl)
          have e76 := eval_of h76
          clear h76
          refine value_ (v := .bool true) (w1 := w2) rfl rfl ?_ (hK _ _ (Below.refl _ _) rfl)
          clear hd hn hK
          simp only [execOp, Option.map_some, Option.map_none, List.map_toArray, List.map_cons, List.map_nil, List.getElem_toArray, List.getElem_cons_zero, List.getElem_cons_succ, e76]
          clear e76
          go_simp
        refine steps_cons (fun a1 w2 hB hsz hdf hn hd => ⟨_, rfl, fun K hK => ?_⟩) ?_
        · have e14 := eval_of ((hn 14 rfl).trans rfl)
          obtain ⟨v77g, h77g, q77g⟩ := hd 29 77 rfl (by kernel_rfl)
          have e77g : v77g = .bool true := q77g
          subst e77g
          refine value_ (v := .int .i64 (errL l)) (w1 := w2) (wanted_of (j := 29) (b := true) (t := 77) rfl rfl h77g) rfl ?_ (hK _ _ (Below.refl _ _) rfl)
          clear hd hn hK
          simp only [execOp, Option.map_some, Option.map_none, List.map_toArray, List.map_cons, List.map_nil, List.getElem_toArray, List.getElem_cons_zero, List.getElem_cons_succ, e14]
          clear e14
          go_simp
        refine steps_cons (fun a1 w2 hB hsz hdf hn hd => ⟨_, rfl, fun K hK => ?_⟩) ?_
        · have e16 := eval_of ((hn 16 rfl).trans rfl)
          obtain ⟨v77g, h77g, q77g⟩ := hd 29 77 rfl (by kernel_rfl)
          have e77g : v77g = .bool true := q77g
          subst e77g
          refine value_ (v := .int .i64 (errL l)) (w1 := w2) (wanted_of (j := 29) (b := true) (t := 77) rfl rfl h77g) rfl ?_ (hK _ _ (Below.refl _ _) rfl)
          clear hd hn hK
          simp only [execOp, Option.map_some, Option.map_none, List.map_toArray, List.map_cons, List.map_nil, List.getElem_toArray, List.getElem_cons_zero, List.getElem_cons_succ, e16]
          clear e16
          go_simp
        refine steps_cons (fun a1 w2 hB hsz hdf hn hd => ⟨_, rfl, fun K hK => ?_⟩) ?_
        · obtain ⟨v78, h78, rfl⟩ := hd 30 78 rfl (by kernel_rfl)
          have e78 := eval_of h78
          clear h78
          obtain ⟨v79, h79, rfl⟩ := hd 31 79 rfl (by kernel_rfl)
          have e79 := eval_of h79
          clear h79
          obtain ⟨v77g, h77g, q77g⟩ := hd 29 77 rfl (by kernel_rfl)
          have e77g : v77g = .bool true := q77g
          subst e77g
          refine value_ (v := .bool true) (w1 := w2) (wanted_of (j := 29) (b := true) (t := 77) rfl rfl h77g) rfl ?_ (hK _ _ (Below.refl _ _) rfl)
          clear hd hn hK
          simp only [execOp, Option.map_some, Option.map_none, List.map_toArray, List.map_cons, List.map_nil, List.getElem_toArray, List.getElem_cons_zero, List.getElem_cons_succ, e78, e79]
          clear e78 e79
          go_simp
        refine steps_cons (fun a1 w2 hB hsz hdf hn hd => ⟨_, rfl, fun K hK => ?_⟩) ?_
        · obtain ⟨v77, h77, rfl⟩ := hd 29 77 rfl (by kernel_rfl)
          have e77 := eval_of h77
          clear h77
          obtain ⟨v80, h80, rfl⟩ := hd 32 80 rfl (by kernel_rfl)
          have e80 := eval_of h80
          clear h80
          refine value_ (v := .bool true) (w1 := w2) rfl rfl ?_ (hK _ _ (Below.refl _ _) rfl)
          clear hd hn hK
          simp only [execOp, Option.map_some, Option.map_none, List.map_toArray, List.map_cons, List.map_nil, List.getElem_toArray, List.getElem_cons_zero, List.getElem_cons_succ, e77, e80]
          clear e77 e80
          go_simp
        refine steps_cons (fun a1 w2 hB hsz hdf hn hd => ⟨_, rfl, fun K hK => ?_⟩) ?_
        · obtain ⟨v81, h81, rfl⟩ := hd 33 81 rfl (by kernel_rfl)
          have e81 := eval_of h81
          clear h81
          refine value_ (v := .bool true) (w1 := w2) rfl rfl ?_ (hK _ _ (Below.refl _ _) rfl)
          clear hd hn hK
          simp only [execOp, Option.map_some, Option.map_none, List.map_toArray, List.map_cons, List.map_nil, List.getElem_toArray, List.getElem_cons_zero, List.getElem_cons_succ, e81]
          clear e81
          go_simp
        exact steps_nil
      case rend =>
        intro vals w2 hB hrr
        have hl : vals 34 = .bool true := hrr (34, 8) (by simp)
        have HZ := Aside0.mk (HI.out.below hB)
        clear hrr hB HX HI x0 x1 x2
        simp only [fill, Act.put, List.setIfInBounds_toArray, List.set_cons_zero, List.set_cons_succ, hl]
        go_wp2
        go_ret
        exact ⟨rfl, HZ.out.1⟩
end Go.Proofs.Ytkedodmlbepfnaa.Lg
namespace Go.Proofs.Ytkedodmlbepfnaa.ledgerTrees
open Go.ChangeShapes Go.WideShapes Go.ChangeAt Go.RowKit
open Go.ChangeMaps (open_string shut_string)
set_option linter.unusedVariables false
theorem own : ownKnob Try.prog.godebug = none := by kernel_rfl
theorem laidOut : laidOutB Try.prog = true := by kernel_rfl
set_option maxRecDepth 100000 in
theorem lifted (os : Os) (started : os.Started) (H : Type) (enc : TypeId × Value → H) :
    ReturnsInHanded {} Try.checked os 3 .any (Rows.ledgerTreesSpec.pre6 enc Try.prog Try.f3 Rows.ledgerTreesRow.domain false) (Rows.ledgerTreesSpec.post enc Try.prog Try.f3 false true false false) := by
  refine returnsInHanded_of_change_sized (C := Try.checked) own started (by kernel_rfl) Try.func3
    (ChangeSpec.witness6 (enc := enc) (C := Try.checked) false ⟨#[], #[.agg #[.int .i64 0, .int .i64 0, .string ByteArray.empty], .slice none 0 0, .int .u64 0, .int .u64 0], []⟩ 8 (by kernel_rfl) (by kernel_rfl) (by kernel_rfl) (by kernel_rfl)) ?_
  intro W base args ds gs before hval0 hW hcnd hsz0 _
  have hval : ∀ (j : Nat) t v, Try.f3.params[j]? = some t → args[j]? = some v → Value.okWide Try.prog W .any base t v := hval0
  have hW' := hW
  obtain ⟨p, q, hA0, hV, rfl, hfz, hnd⟩ := hW
  have hA : DataW.TrodAll enc Try.prog W 0 (fun _ => true) true Try.f3.params.toList args.toList ds p := hA0
  rw [Try.params3] at hA hval
  obtain ⟨v0, vs0, d0, ds0, p0, q0, hargs, rfl, rfl, h0, r0⟩ := trodAll_cons hA
  obtain ⟨v1, vs1, d1, ds1, p1, q1, rfl, rfl, rfl, h1, r1⟩ := trodAll_cons r0
  obtain ⟨v2, vs2, d2, ds2, p2, q2, rfl, rfl, rfl, h2, r2⟩ := trodAll_cons r1
  obtain ⟨v3, vs3, d3, ds3, p3, q3, rfl, rfl, rfl, h3, r3⟩ := trodAll_cons r2
  obtain ⟨rfl, rfl, rfl⟩ := trodAll_nil r3
  obtain rfl : args = #[v0, v1, v2, v3] := by cases args; simp_all
  obtain ⟨rfl, rfl⟩ := trodVars_none hV
  obtain ⟨x0, rfl, _⟩ := okWide_struct Try.underlying23 (hval 0 23 v0 rfl rfl)
  have k0 := h0
  have lt0 : ∀ x ∈ p0, x.block < W.heap.size := by obtain ⟨m, hm⟩ := k0; exact DataW.trod_lt m _ _ _ hm
  obtain ⟨e0, rfl⟩ := Lg.entry_arg h0
  obtain ⟨a1, len1, cap1, rfl⟩ := okWide_slice Try.underlying24 (hval 1 24 v1 rfl rfl)
  have k1 := h1
  have lt1 : ∀ x ∈ p1, x.block < W.heap.size := by obtain ⟨m, hm⟩ := k1; exact DataW.trod_lt m _ _ _ hm
  obtain ⟨z1, rfl, c1, w1⟩ := Lg.entries_of h1
  obtain ⟨a2, rfl, rfl, rfl, w2⟩ := open_int Try.underlying25 (hval 2 25 v2 rfl rfl) h2
  obtain ⟨a3, rfl, rfl, rfl, w3⟩ := open_int Try.underlying25 (hval 3 25 v3 rfl rfl) h3
  clear hA0 hval0 hsz0
  refine (Lg.trees_walk e0 z1 a1 cap1 a2 a3 W w1 c1 (Lg.u64_of w2) (Lg.u64_of w3)).mono fun e W' ⟨he, bel⟩ => ?_
  subst he
  exact ⟨_, rfl, _, _, _, [], _, [], hW', trodAll_mk1 (shut_bool Try.underlying4 _), (trodAll_cons_mk (Below.trod laidOut (by kernel_rfl) (of_decide_eq_true (by kernel_rfl)) k0 bel lt0) (trodAll_cons_mk (Below.trod laidOut (by kernel_rfl) (of_decide_eq_true (by kernel_rfl)) k1 bel lt1) (trodAll_cons_mk (shut_int Try.underlying25 w2) (trodAll_cons_mk (shut_int Try.underlying25 w3) trodAll_mk0)))), rfl, bel.frame _, fun h => by cases h⟩
theorem over : Rows.ledgerTreesRow.holds Try.pinned (OpenSpec.ofChange Rows.ledgerTreesSpec) :=
  OpenClaim.holds_of_wide 3 Try.f3 rfl rfl rfl rfl rfl rfl rfl ⟨rfl, rfl, rfl, rfl, rfl⟩ rfl rfl rfl rfl rfl (by kernel_rfl) Try.func3 (by kernel_rfl)
    (of_decide_eq_true (by kernel_rfl)) (by unfold Func.isWrapper; first | (rw [if_pos (by decide +kernel)]; kernel_rfl) | (rw [if_neg (by decide +kernel)]; exact ⟨rfl, rfl⟩))
    (fun os started H enc _ => lifted os started H enc)
theorem proved : Rows.LedgerTreesSaid := over
#print axioms proved
end Go.Proofs.Ytkedodmlbepfnaa.ledgerTrees
namespace Go.Proofs.Ytkedodmlbepfnaa
/-- The row, under a short name, for the claim. -/
theorem ledgerTrees_holds : Rows.LedgerTreesSaid := ledgerTrees.proved
end Go.Proofs.Ytkedodmlbepfnaa
