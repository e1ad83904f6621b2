/- LedgerGrowth: for every list, number, roots and proof the law returns true, and its arguments read afterwards as before. No condition. -/
import Derived.Test.YtkedodmlbepfnaaRows
import Derived.WalkKit
import Derived.ProofKit
import Derived.OpenShut
import Derived.ShutString
import Derived.ChangeOld
import Derived.Below
import Derived.SizedLaws
import Derived.Carry
import Derived.Test.YtkedodmlbepfnaaM4
set_option linter.unusedSimpArgs false
set_option linter.unusedVariables false
namespace Go.Proofs.Ytkedodmlbepfnaa.Lg
open Go.RowKit Go.Proofs.YtkedodmlbepfnaaW.PrintWords Go.Proofs.YtkedodmlbepfnaaW.PrintLast Go.Proofs.YtkedodmlbepfnaaW.PrintMore Go.Proofs.Ytkedodmlbepfnaa.Rg
theorem grownY_calls (l : List S23) (A : Option Addr) (c : Nat) (i : Int) (w : World) (hr0 : Kd.C k23 w A l.length l) (hc0 : l.length ≤ c) : Calls Try.prog 25 #[.slice A l.length c, .int .i64 i] w fun x w' => ∃ B d, x = .returned (.tuple #[.slice B (grownR l i).length d, .int .i64 (errG l i)]) ∧ (grownR l i).length ≤ d ∧ Kd.C (Kd.int .u64) w' B (grownR l i).length (grownR l i) ∧ Below w.heap.size w w' := by
  refine (grownX_calls l A c i w hr0 hc0).mono ?_
  rintro x w' ⟨v, rfl, hN, hb⟩
  obtain ⟨B, d, rfl, hd, hC⟩ := hN.reads
  exact ⟨B, d, rfl, hd, hC, hb⟩
theorem rgrownY_calls (l : List S23) (A : Option Addr) (c : Nat) (i : Int) (w : World) (hr0 : Kd.C k23 w A l.length l) (hc0 : l.length ≤ c) : Calls Try.prog 26 #[.slice A l.length c, .int .i64 i] w fun x w' => ∃ B d, x = .returned (.tuple #[.slice B (grownR l i).length d, .int .i64 (errG l i)]) ∧ (grownR l i).length ≤ d ∧ Kd.C (Kd.int .u64) w' B (grownR l i).length (grownR l i) ∧ Below w.heap.size w w' := by
  refine (rgrownX_calls l A c i w hr0 hc0).mono ?_
  rintro x w' ⟨v, rfl, hN, hb⟩
  obtain ⟨B, d, rfl, hd, hC⟩ := hN.reads
  exact ⟨B, d, rfl, hd, hC, hb⟩
theorem equalT_calls (xs : List Int) (A B : Option Addr) (c d : Nat) (w : World) (hr0 : Kd.C (Kd.int .u64) w A xs.length xs) (hc0 : xs.length ≤ c) (hs0 : Kd.C (Kd.int .u64) w B xs.length xs) (hd0 : xs.length ≤ d) :
    Calls Try.prog 22 #[.slice A xs.length c, .slice B xs.length d] w fun e w' => e = .returned (.bool true) ∧ Below w.heap.size w w' := by
  refine (equal_calls xs xs A B c d w hr0 hc0 hs0 hd0).mono ?_
  rintro x w' ⟨rfl, hb⟩
  exact ⟨by rw [decide_eq_true rfl], hb⟩
/-- The arguments, and what has come of the world. -/
def AI (w : World) (A : Option Addr) (l : List S23) (Ls : List (Option Addr × List Int)) (W : World) : Prop :=
  Below w.heap.size w W ∧ Kd.C k23 W A l.length l ∧ ∀ x ∈ Ls, Kd.C (Kd.int .u64) W x.1 x.2.length x.2
theorem AI.below {w W W' : World} {A : Option Addr} {l : List S23} {Ls : List (Option Addr × List Int)} (h : AI w A l Ls W) (hb : Below W.heap.size W W') : AI w A l Ls W' :=
  ⟨h.1.trans (hb.mono h.1.size), Kd.C_below h.2.1 hb, fun x hx => Kd.C_below (h.2.2 x hx) hb⟩
theorem AI.add {w W W' : World} {A B : Option Addr} {l : List S23} {Ls : List (Option Addr × List Int)} {xs : List Int} (h : AI w A l Ls W) (hb : Below W.heap.size W W') (hC : Kd.C (Kd.int .u64) W' B xs.length xs) : AI w A l ((B, xs) :: Ls) W' :=
  ⟨(h.below hb).1, (h.below hb).2.1, fun x hx => (List.mem_cons.1 hx).elim (fun e => e ▸ hC) ((h.below hb).2.2 x)⟩
set_option maxHeartbeats 8000000 in
set_option maxRecDepth 100000 in
theorem growth_walk (l : List S23) (A : Option Addr) (c : Nat) (i old root many : Int) (p : List Int) (B : Option Addr) (d : Nat) (w : World) (hr0 : Kd.C k23 w A l.length l) (hc0 : l.length ≤ c) (hp0 : Kd.C (Kd.int .u64) w B p.length p) (hd0 : p.length ≤ d) (hu : ∀ y ∈ p, U64 y) (ho : U64 old) :
    Calls Try.prog 5 #[.slice A l.length c, .int .i64 i, .int .u64 old, .int .u64 root, .int .i64 many, .slice B p.length d] w fun e w' => e = .returned (.bool true) ∧ Below w.heap.size w w' := by
  have HI : Aside0 (AI w A l [(B, p)] w) := Aside0.mk ⟨Below.refl _ _, hr0, fun x hx => by rw [List.mem_singleton] at hx; subst hx; exact hp0⟩
  clear hr0 hp0
  have HU := Aside0.mk hu
  have HO := Aside0.mk ho
  clear hu ho
  cases hF : Few l with
  | false =>
    go_enter Try.func5, Try.ntmps5
    go_wp2_with (first
      | (go_at_call 10; (with_reducible refine (sane_calls _).mono ?_); rintro e w1 ⟨rfl, hb⟩; have n1_ := Aside0.mk (HI.out.below hb); clear HI hb; have HI := n1_; clear n1_)
      | (go_at_call 11; have k1_ := HI.out.2.1; (with_reducible refine (few_calls l A c _ k1_ hc0).mono ?_); clear k1_; rintro e w1 ⟨rfl, hb⟩; rw [hF]; have n1_ := Aside0.mk (HI.out.below hb); clear HI hb; have HI := n1_; clear n1_))
    go_ret
    exact ⟨rfl, HI.out.1⟩
  | true =>
    by_cases hp : 40 < p.length
    · have b1 : decide ((40 : Int) < (p.length : Int)) = true := decide_eq_true (by omega)
      have b2 : decide (40 < p.length) = true := decide_eq_true hp
      go_enter Try.func5, Try.ntmps5
      go_wp2_with (first
        | (go_at_call 10; (with_reducible refine (sane_calls _).mono ?_); rintro e w1 ⟨rfl, hb⟩; have n1_ := Aside0.mk (HI.out.below hb); clear HI hb; have HI := n1_; clear n1_)
        | (go_at_call 11; have k1_ := HI.out.2.1; (with_reducible refine (few_calls l A c _ k1_ hc0).mono ?_); clear k1_; rintro e w1 ⟨rfl, hb⟩; rw [hF]; have n1_ := Aside0.mk (HI.out.below hb); clear HI hb; have HI := n1_; clear n1_))
      go_ret
      exact ⟨rfl, HI.out.1⟩
    · have b1 : decide ((40 : Int) < (p.length : Int)) = false := decide_eq_false (by omega)
      have b2 : decide (40 < p.length) = false := decide_eq_false hp
      have hp6 : p.length ≤ 1000000 := by omega
      go_enter Try.func5, Try.ntmps5
      go_wp2_with (first
        | (go_at_call 10; (with_reducible refine (sane_calls _).mono ?_); rintro e w1 ⟨rfl, hb⟩; have n1_ := Aside0.mk (HI.out.below hb); clear HI hb; have HI := n1_; clear n1_)
        | (go_at_call 11; have k1_ := HI.out.2.1; (with_reducible refine (few_calls l A c _ k1_ hc0).mono ?_); clear k1_; rintro e w1 ⟨rfl, hb⟩; rw [hF]; have n1_ := Aside0.mk (HI.out.below hb); clear HI hb; have HI := n1_; clear n1_)
        | (go_at_call 25; have k1_ := HI.out.2.1; (with_reducible refine (grownY_calls l A c i _ k1_ hc0).mono ?_); clear k1_; rintro e w1 ⟨B1, d1, rfl, hd1, hC1, hb⟩; have n1_ := Aside0.mk (HI.out.add hb hC1); clear HI hb hC1; have HI := n1_; clear n1_)
        | (go_at_call 26; have k1_ := HI.out.2.1; (with_reducible refine (rgrownY_calls l A c i _ k1_ hc0).mono ?_); clear k1_; rintro e w1 ⟨B2, d2, rfl, hd2, hC1, hb⟩; have n1_ := Aside0.mk (HI.out.add hb hC1); clear HI hb hC1; have HI := n1_; clear n1_)
        | (go_at_call 22; have k1_ := HI.out.2.2 (B1, grownR l i) (by simp); have k2_ := HI.out.2.2 (B2, grownR l i) (by simp); (with_reducible refine (equalT_calls (grownR l i) B1 B2 d1 d2 _ k1_ hd1 k2_ hd2).mono ?_); clear k1_ k2_; rintro e w1 ⟨rfl, hb⟩; have n1_ := Aside0.mk (HI.out.below hb); clear HI hb; have HI := n1_; clear n1_)
        | (go_at_call 27; have k1_ := HI.out.2.2 (B, p) (by simp); (with_reducible refine (checkGrownX_calls old i root many p B d _ k1_ hd0 hp6 HO.out HU.out).mono ?_); clear k1_; rintro e w1 ⟨rfl, hb⟩; have n1_ := Aside0.mk (HI.out.below hb); clear HI hb; have HI := n1_; clear n1_)
        | (go_at_call 28; have k1_ := HI.out.2.2 (B, p) (by simp); (with_reducible refine (rcheckGrownX_calls old i root many p B d _ k1_ hd0 hp6 HO.out HU.out).mono ?_); clear k1_; rintro e w1 ⟨rfl, hb⟩; have n1_ := Aside0.mk (HI.out.below hb); clear HI hb; have HI := n1_; clear n1_))
      go_ret
      exact ⟨rfl, HI.out.1⟩
end Go.Proofs.Ytkedodmlbepfnaa.Lg
namespace Go.Proofs.Ytkedodmlbepfnaa.ledgerGrowth
open Go.ChangeShapes Go.WideShapes Go.ChangeAt Go.RowKit
open Go.ChangeMaps (open_string shut_string)
set_option linter.unusedVariables false
theorem own : ownKnob Try.prog.godebug = none := by kernel_rfl
theorem laidOut : laidOutB Try.prog = true := by kernel_rfl
set_option maxRecDepth 100000 in
theorem lifted (os : Os) (started : os.Started) (H : Type) (enc : TypeId × Value → H) :
    ReturnsInHanded {} Try.checked os 5 .any (Rows.ledgerGrowthSpec.pre6 enc Try.prog Try.f5 Rows.ledgerGrowthRow.domain false) (Rows.ledgerGrowthSpec.post enc Try.prog Try.f5 false true false false) := by
  refine returnsInHanded_of_change_sized (C := Try.checked) own started (by kernel_rfl) Try.func5
    (ChangeSpec.witness6 (enc := enc) (C := Try.checked) false ⟨#[], #[.slice none 0 0, .int .i64 0, .int .u64 0, .int .u64 0, .int .i64 0, .slice none 0 0], []⟩ 8 (by kernel_rfl) (by kernel_rfl) (by kernel_rfl) (by kernel_rfl)) ?_
  intro W base args ds gs before hval0 hW hcnd hsz0 _
  have hval : ∀ (j : Nat) t v, Try.f5.params[j]? = some t → args[j]? = some v → Value.okWide Try.prog W .any base t v := hval0
  have hW' := hW
  obtain ⟨p, q, hA0, hV, rfl, hfz, hnd⟩ := hW
  have hA : DataW.TrodAll enc Try.prog W 0 (fun _ => true) true Try.f5.params.toList args.toList ds p := hA0
  rw [Try.params5] at hA hval
  obtain ⟨v0, vs0, d0, ds0, p0, q0, hargs, rfl, rfl, h0, r0⟩ := trodAll_cons hA
  obtain ⟨v1, vs1, d1, ds1, p1, q1, rfl, rfl, rfl, h1, r1⟩ := trodAll_cons r0
  obtain ⟨v2, vs2, d2, ds2, p2, q2, rfl, rfl, rfl, h2, r2⟩ := trodAll_cons r1
  obtain ⟨v3, vs3, d3, ds3, p3, q3, rfl, rfl, rfl, h3, r3⟩ := trodAll_cons r2
  obtain ⟨v4, vs4, d4, ds4, p4, q4, rfl, rfl, rfl, h4, r4⟩ := trodAll_cons r3
  obtain ⟨v5, vs5, d5, ds5, p5, q5, rfl, rfl, rfl, h5, r5⟩ := trodAll_cons r4
  obtain ⟨rfl, rfl, rfl⟩ := trodAll_nil r5
  obtain rfl : args = #[v0, v1, v2, v3, v4, v5] := by cases args; simp_all
  obtain ⟨rfl, rfl⟩ := trodVars_none hV
  obtain ⟨a0, len0, cap0, rfl⟩ := okWide_slice Try.underlying24 (hval 0 24 v0 rfl rfl)
  have k0 := h0
  have lt0 : ∀ x ∈ p0, x.block < W.heap.size := by obtain ⟨m, hm⟩ := k0; exact DataW.trod_lt m _ _ _ hm
  obtain ⟨z0, rfl, c0, w0⟩ := Lg.entries_of h0
  obtain ⟨a1, rfl, rfl, rfl, w1⟩ := open_int Try.underlying3 (hval 1 3 v1 rfl rfl) h1
  obtain ⟨a2, rfl, rfl, rfl, w2⟩ := open_int Try.underlying25 (hval 2 25 v2 rfl rfl) h2
  obtain ⟨a3, rfl, rfl, rfl, w3⟩ := open_int Try.underlying25 (hval 3 25 v3 rfl rfl) h3
  obtain ⟨a4, rfl, rfl, rfl, w4⟩ := open_int Try.underlying3 (hval 4 3 v4 rfl rfl) h4
  obtain ⟨a5, len5, cap5, rfl⟩ := okWide_slice Try.underlying35 (hval 5 35 v5 rfl rfl)
  have k5 := h5
  have lt5 : ∀ x ∈ p5, x.block < W.heap.size := by obtain ⟨m, hm⟩ := k5; exact DataW.trod_lt m _ _ _ hm
  obtain ⟨z5, rfl, c5, w5, u5⟩ := Lg.numbers_of h5
  clear hA0 hval0 hsz0
  refine (Lg.growth_walk z0 a0 cap0 a1 a2 a3 a4 z5 a5 cap5 W w0 c0 w5 c5 u5 (Lg.u64_of w2)).mono fun e W' ⟨he, bel⟩ => ?_
  subst he
  exact ⟨_, rfl, _, _, _, [], _, [], hW', trodAll_mk1 (shut_bool Try.underlying4 _), (trodAll_cons_mk (Below.trod laidOut (by kernel_rfl) (of_decide_eq_true (by kernel_rfl)) k0 bel lt0) (trodAll_cons_mk (shut_int Try.underlying3 w1) (trodAll_cons_mk (shut_int Try.underlying25 w2) (trodAll_cons_mk (shut_int Try.underlying25 w3) (trodAll_cons_mk (shut_int Try.underlying3 w4) (trodAll_cons_mk (Below.trod laidOut (by kernel_rfl) (of_decide_eq_true (by kernel_rfl)) k5 bel lt5) trodAll_mk0)))))), rfl, bel.frame _, fun h => by cases h⟩
theorem over : Rows.ledgerGrowthRow.holds Try.pinned (OpenSpec.ofChange Rows.ledgerGrowthSpec) :=
  OpenClaim.holds_of_wide 5 Try.f5 rfl rfl rfl rfl rfl rfl rfl ⟨rfl, rfl, rfl, rfl, rfl⟩ rfl rfl rfl rfl rfl (by kernel_rfl) Try.func5 (by kernel_rfl)
    (of_decide_eq_true (by kernel_rfl)) (by unfold Func.isWrapper; first | (rw [if_pos (by decide +kernel)]; kernel_rfl) | (rw [if_neg (by decide +kernel)]; exact ⟨rfl, rfl⟩))
    (fun os started H enc _ => lifted os started H enc)
theorem proved : Rows.LedgerGrowthSaid := over
#print axioms proved
end Go.Proofs.Ytkedodmlbepfnaa.ledgerGrowth
namespace Go.Proofs.Ytkedodmlbepfnaa
/-- The row, under a short name, for the claim. -/
theorem ledgerGrowth_holds : Rows.LedgerGrowthSaid := ledgerGrowth.proved
end Go.Proofs.Ytkedodmlbepfnaa
