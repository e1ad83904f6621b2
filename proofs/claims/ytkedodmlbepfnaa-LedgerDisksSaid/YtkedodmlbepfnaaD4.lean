/- Contracts of the ledger's functions (part 4): what each of them answers and leaves, merged by program out of the session's working texts. No condition beyond those that stand in each. -/
import Derived.Test.YtkedodmlbepfnaaD3
-- from the working text Grown
set_option linter.unusedSimpArgs false
set_option linter.unusedVariables false
namespace Go.Proofs.Ytkedodmlbepfnaa.Lg
open Go.RowKit Go.Proofs.YtkedodmlbepfnaaW.PrintWords Go.Proofs.YtkedodmlbepfnaaW.PrintLast Go.Proofs.YtkedodmlbepfnaaW.PrintMore Go.Proofs.Ytkedodmlbepfnaa.Rg
def grownARel (f : Nat) (l : List S23) (A : Option Addr) (c : Nat) (i : Nat) (b : Bool) (B : Nat) : Nat → Value → World → Prop
  | 0, v, _ => v = .slice A l.length c
  | 1, v, _ => v = .int .i64 (splitS l.length : Int)
  | 2, v, _ => v = .slice A (splitS l.length) c
  | 3, v, _ => v = .int .i64 (i : Int)
  | 4, v, _ => v = .bool b
  | 5, v, w => Nums w B v (grownF f (l.take (splitS l.length)) i b)
  | 6, v, _ => v = .slice A l.length c
  | 7, v, _ => v = .int .i64 (splitS l.length : Int)
  | 8, v, _ => v = .slice (if c = splitS l.length then A else A.map (·.add (splitS l.length * 3))) (l.length - splitS l.length) (c - splitS l.length)
  | 9, v, _ => v = .int .u64 (rootS (l.drop (splitS l.length)))
  | 10, v, w => ∃ g, v = .slice (some ⟨g, 0, none⟩) 1 1 ∧ w.cell? ⟨g, 0, none⟩ = some (.int .u64 (rootS (l.drop (splitS l.length))))
  | 11, v, w => Nums w B v (grownF f (l.take (splitS l.length)) i b ++ [rootS (l.drop (splitS l.length))])
  | 12, v, w => Nums w B v (grownF f (l.take (splitS l.length)) i b ++ [rootS (l.drop (splitS l.length))])
  | _, _, _ => True
theorem grownARel_stable (f : Nat) (l : List S23) (A : Option Addr) (c : Nat) (i : Nat) (b : Bool) (B : Nat) (j : Nat) (v : Value) (w w' : World) (h : grownARel f l A c i b B j v w) (hb : Below w.heap.size w w') : grownARel f l A c i b B j v w' := by
  revert h
  unfold grownARel
  split <;> intro h <;> first | exact h | exact Nums.below h hb | (obtain ⟨g, h1, h2⟩ := h; exact ⟨g, h1, pw_cell_below hb h2⟩)
def grownBRel (f : Nat) (l : List S23) (A : Option Addr) (c : Nat) (i : Nat) (b : Bool) (B : Nat) : Nat → Value → World → Prop
  | 0, v, _ => v = .slice A l.length c
  | 1, v, _ => v = .int .i64 (splitS l.length : Int)
  | 2, v, _ => v = .slice (if c = splitS l.length then A else A.map (·.add (splitS l.length * 3))) (l.length - splitS l.length) (c - splitS l.length)
  | 3, v, _ => v = .int .i64 (i : Int)
  | 4, v, _ => v = .int .i64 (splitS l.length : Int)
  | 5, v, _ => v = .int .i64 ((i : Int) - (splitS l.length : Int))
  | 6, v, w => Nums w B v (grownF f (l.drop (splitS l.length)) (i - splitS l.length) false)
  | 7, v, _ => v = .slice A l.length c
  | 8, v, _ => v = .int .i64 (splitS l.length : Int)
  | 9, v, _ => v = .slice A (splitS l.length) c
  | 10, v, _ => v = .int .u64 (rootS (l.take (splitS l.length)))
  | 11, v, w => ∃ g, v = .slice (some ⟨g, 0, none⟩) 1 1 ∧ w.cell? ⟨g, 0, none⟩ = some (.int .u64 (rootS (l.take (splitS l.length))))
  | 12, v, w => Nums w B v (grownF f (l.drop (splitS l.length)) (i - splitS l.length) false ++ [rootS (l.take (splitS l.length))])
  | 13, v, w => Nums w B v (grownF f (l.drop (splitS l.length)) (i - splitS l.length) false ++ [rootS (l.take (splitS l.length))])
  | _, _, _ => True
theorem grownBRel_stable (f : Nat) (l : List S23) (A : Option Addr) (c : Nat) (i : Nat) (b : Bool) (B : Nat) (j : Nat) (v : Value) (w w' : World) (h : grownBRel f l A c i b B j v w) (hb : Below w.heap.size w w') : grownBRel f l A c i b B j v w' := by
  revert h
  unfold grownBRel
  split <;> intro h <;> first | exact h | exact Nums.below h hb | (obtain ⟨g, h1, h2⟩ := h; exact ⟨g, h1, pw_cell_below hb h2⟩)
set_option maxHeartbeats 8000000 in
set_option maxRecDepth 100000 in
theorem grown_calls : ∀ (f : Nat) (l : List S23) (n : Nat) (A : Option Addr) (c : Nat) (i : Nat) (b : Bool) (w : World), n = l.length → n ≤ f → f ≤ 512 → 1 ≤ n → Kd.C k23 w A n l → n ≤ c → n ≤ 512 → (∀ e ∈ l, Valid e) → 1 ≤ i → i ≤ n →
    Calls Try.prog 80 #[.slice A n c, .int .i64 (i : Int), .bool b] w fun e w' => ∃ v, e = .returned v ∧ Nums w' w.heap.size v (grownF f l i b) ∧ Below w.heap.size w w' := by
  intro f
  induction f with
  | zero => intro l n A c i b w hn hf hf5 h1; omega
  | succ f ih0 =>
    intro l n A c i b w hn hf hf5 h1 hr0 hc0 h5 hv0 hi1 hin
    subst hn
    have hr := Aside0.mk hr0
    have hc := Aside0.mk hc0
    have hv := Aside0.mk hv0
    have ih := ih0
    clear hr0 hc0 hv0 ih0
    have hf1 : l.length ≤ f + 1 := hf
    clear hf
    by_cases c1 : i = l.length
    · cases b with
      | true =>
        have hE := Aside0.mk (show grownF (f + 1) l i true = [] by rw [grownF, if_pos c1, if_pos rfl])
        have c1b : ((i : Int) == (l.length : Int)) = true := by rw [beq_iff_eq]; omega
        clear c1 hf1 h5 ih hr hv hin h1
        go_enter Try.func80, Try.ntmps80
        go_wp2
        go_ret
        exact ⟨_, rfl, by rw [hE.out]; exact Nums.nil _ _, (by repeat (first | exact Below.refl _ _ | apply below_drew | apply pw_below_drewN))⟩
      | false =>
        have hE := Aside0.mk (show grownF (f + 1) l i false = [rootS l] by rw [grownF, if_pos c1, if_neg (by simp)])
        have c1b : ((i : Int) == (l.length : Int)) = true := by rw [beq_iff_eq]; omega
        clear c1 hin h1
        go_enter Try.func80, Try.ntmps80
        go_wp2_with (go_at_call 69; (with_reducible refine (root_calls l.length l l.length A c _ rfl (Nat.le_refl _) hr.out hc.out h5 hv.out).mono ?_); rintro e w' ⟨rfl, hb⟩; have HB := Aside0.mk hb; clear hb)
        go_ret
        exact ⟨_, rfl, by rw [hE.out]; exact Nums.lit1 _ _ HB.out.size _, below_alloc HB.out _⟩
    · have c1b : ((i : Int) == (l.length : Int)) = false := by rw [beq_eq_false_iff_ne]; omega
      have h2 : 2 ≤ l.length := by omega
      have s1 := split_lt h2
      have s2 := split_pos l.length
      have s3 := split_le h2
      by_cases hk : i ≤ splitS l.length
      · have hE := Aside0.mk (show grownF (f + 1) l i b = _ by rw [grownF, if_neg c1, if_pos hk])
        have hkb : decide ((i : Int) ≤ (splitS l.length : Int)) = true := by simp; omega
        have hkn : decide (i ≤ splitS l.length) = true := by simp; omega
        clear c1
        go_enter Try.func80, Try.ntmps80
        go_wp2_with (go_at_call 117; (with_reducible refine (split_any l.length h2 h5 _).mono ?_); rintro e w' ⟨rfl, ⟨nd, rfl⟩⟩)
        obtain ⟨i0, hi0, hi1x, hi2, _⟩ := info_parts info23
        generalize hW : w.drewN nd = W
        have hbW : Below w.heap.size w W := by rw [← hW]; exact pw_below_drewN (Below.refl _ _) nd
        have hr' := Aside0.mk (Kd.C_below hr.out hbW)
        clear hr
        have hr := hr'
        clear hr' hW
        · refine rg2_ 11 [0, 1, 2, 3, 4, 5, 6, 7, 8, 9, 10, 11, 12] [(0, 22), (1, 23), (2, 24), (3, 25), (4, 26), (5, 27), (6, 28), (7, 29), (8, 30), (9, 31), (10, 32), (11, 33), (12, 6)] (bitsOf (rtab .any (opsOf Try.f80 7)).2) (grownARel f l A c i b W.heap.size) (by kernel_rfl) rfl (by kernel_rfl) rfl (by kernel_rfl) ?stab ?steps ?rend
          case steps =>
            refine steps2_cons (by decide) (fun a1 w1 hB hsz hdf hn hd => ⟨_, rfl, fun K hK => ?_⟩) ?_
            · have e0 := eval_of ((hn 0 rfl).trans rfl)
              refine value_ (v := .slice A l.length c) (w1 := w1) rfl rfl ?_ (hK _ _ (Below.refl _ _) rfl)
              clear hd hn hK
              simp only [execOp, Option.map_some, Option.map_none, List.map_toArray, List.map_cons, List.map_nil, List.getElem_toArray, List.getElem_cons_zero, List.getElem_cons_succ, e0]
              clear e0
              go_simp
            refine steps2_cons (by decide) (fun a1 w1 hB hsz hdf hn hd => ⟨_, rfl, fun K hK => ?_⟩) ?_
            · have e7 := eval_of ((hn 7 rfl).trans rfl)
              refine value_ (v := .int .i64 (splitS l.length : Int)) (w1 := w1) rfl rfl ?_ (hK _ _ (Below.refl _ _) rfl)
              clear hd hn hK
              simp only [execOp, Option.map_some, Option.map_none, List.map_toArray, List.map_cons, List.map_nil, List.getElem_toArray, List.getElem_cons_zero, List.getElem_cons_succ, e7]
              clear e7
              go_simp
            refine steps2_cons (by decide) (fun a1 w1 hB hsz hdf hn hd => ⟨_, rfl, fun K hK => ?_⟩) ?_
            · obtain ⟨v22, h22, rfl⟩ := hd 0 22 rfl (by kernel_rfl)
              have e22 := eval_of h22
              clear h22
              obtain ⟨v23, h23, rfl⟩ := hd 1 23 rfl (by kernel_rfl)
              have e23 := eval_of h23
              clear h23
              refine value_ (v := .slice A (splitS l.length) c) (w1 := w1) rfl rfl ?_ (hK _ _ (Below.refl _ _) rfl)
              clear hd hn hK
              simp only [execOp, Option.map_some, Option.map_none, List.map_toArray, List.map_cons, List.map_nil, List.getElem_toArray, List.getElem_cons_zero, List.getElem_cons_succ, e22, e23]
              clear e22 e23
              have hq := cut_to 24 23 .i64 Try.underlying24 hi0 A l.length c (splitS l.length : Int) (by omega) (by omega) hc.out w1
              try simp only [Int.toNat_natCast] at hq
              clear hr hc hv ih hE hB
              go_simp
            refine steps2_cons (by decide) (fun a1 w1 hB hsz hdf hn hd => ⟨_, rfl, fun K hK => ?_⟩) ?_
            · have e1 := eval_of ((hn 1 rfl).trans rfl)
              refine value_ (v := .int .i64 (i : Int)) (w1 := w1) rfl rfl ?_ (hK _ _ (Below.refl _ _) rfl)
              clear hd hn hK
              simp only [execOp, Option.map_some, Option.map_none, List.map_toArray, List.map_cons, List.map_nil, List.getElem_toArray, List.getElem_cons_zero, List.getElem_cons_succ, e1]
              clear e1
              go_simp
            refine steps2_cons (by decide) (fun a1 w1 hB hsz hdf hn hd => ⟨_, rfl, fun K hK => ?_⟩) ?_
            · have e2 := eval_of ((hn 2 rfl).trans rfl)
              refine value_ (v := .bool b) (w1 := w1) rfl rfl ?_ (hK _ _ (Below.refl _ _) rfl)
              clear hd hn hK
              simp only [execOp, Option.map_some, Option.map_none, List.map_toArray, List.map_cons, List.map_nil, List.getElem_toArray, List.getElem_cons_zero, List.getElem_cons_succ, e2]
              clear e2
              go_simp
            refine steps2_cons (by decide) (fun a1 w1 hB hsz hdf hn hd => ⟨_, rfl, fun K hK => ?_⟩) ?_
            · obtain ⟨v24, h24, rfl⟩ := hd 2 24 rfl (by kernel_rfl)
              have e24 := eval_of h24
              clear h24
              obtain ⟨v25, h25, rfl⟩ := hd 3 25 rfl (by kernel_rfl)
              have e25 := eval_of h25
              clear h25
              obtain ⟨v26, h26, rfl⟩ := hd 4 26 rfl (by kernel_rfl)
              have e26 := eval_of h26
              clear h26
              refine goes_ Try.func80 (by kernel_rfl) rfl #[.slice A (splitS l.length) c, .int .i64 (i : Int), .bool b] (by rfl) rfl rfl (by simp only [List.map_toArray, List.map_cons, List.map_nil, e24, e25, e26]) ?_
              have hl1 : (l.take (splitS l.length)).length = splitS l.length := by rw [List.length_take]; omega
              have hC := Kd.C_below (Kd.C_take hr.out (m := splitS l.length) (by omega)) hB
              rw [hl1] at hC
              refine (ih (l.take (splitS l.length)) _ _ _ i b w1 hl1.symm (by omega) (by omega) (by omega) hC (by have := hc.out; omega) (by omega) (fun e he => hv.out e (List.mem_of_mem_take he)) (by omega) (by omega)).mono ?_
              rintro e w2 ⟨v, rfl, hN, hbw⟩
              exact ⟨_, rfl, hK _ _ hbw (Nums.mono hN hB.size)⟩
            refine steps2_cons (by decide) (fun a1 w1 hB hsz hdf hn hd => ⟨_, rfl, fun K hK => ?_⟩) ?_
            · have e0 := eval_of ((hn 0 rfl).trans rfl)
              refine value_ (v := .slice A l.length c) (w1 := w1) rfl rfl ?_ (hK _ _ (Below.refl _ _) rfl)
              clear hd hn hK
              simp only [execOp, Option.map_some, Option.map_none, List.map_toArray, List.map_cons, List.map_nil, List.getElem_toArray, List.getElem_cons_zero, List.getElem_cons_succ, e0]
              clear e0
              go_simp
            refine steps2_cons (by decide) (fun a1 w1 hB hsz hdf hn hd => ⟨_, rfl, fun K hK => ?_⟩) ?_
            · have e7 := eval_of ((hn 7 rfl).trans rfl)
              refine value_ (v := .int .i64 (splitS l.length : Int)) (w1 := w1) rfl rfl ?_ (hK _ _ (Below.refl _ _) rfl)
              clear hd hn hK
              simp only [execOp, Option.map_some, Option.map_none, List.map_toArray, List.map_cons, List.map_nil, List.getElem_toArray, List.getElem_cons_zero, List.getElem_cons_succ, e7]
              clear e7
              go_simp
            refine steps2_cons (by decide) (fun a1 w1 hB hsz hdf hn hd => ⟨_, rfl, fun K hK => ?_⟩) ?_
            · obtain ⟨v28, h28, rfl⟩ := hd 6 28 rfl (by kernel_rfl)
              have e28 := eval_of h28
              clear h28
              obtain ⟨v29, h29, rfl⟩ := hd 7 29 rfl (by kernel_rfl)
              have e29 := eval_of h29
              clear h29
              refine value_ (v := .slice (if c = splitS l.length then A else A.map (·.add (splitS l.length * 3))) (l.length - splitS l.length) (c - splitS l.length)) (w1 := w1) rfl rfl ?_ (hK _ _ (Below.refl _ _) rfl)
              clear hd hn hK
              simp only [execOp, Option.map_some, Option.map_none, List.map_toArray, List.map_cons, List.map_nil, List.getElem_toArray, List.getElem_cons_zero, List.getElem_cons_succ, e28, e29]
              clear e28 e29
              have hq := cut_from 24 23 .i64 Try.underlying24 hi0 3 hi2 A l.length c (splitS l.length : Int) (by omega) (by omega) w1
              try simp only [Int.toNat_natCast] at hq
              clear hr hc hv ih hE hB
              go_simp
            refine steps2_cons (by decide) (fun a1 w1 hB hsz hdf hn hd => ⟨_, rfl, fun K hK => ?_⟩) ?_
            · obtain ⟨v30, h30, rfl⟩ := hd 8 30 rfl (by kernel_rfl)
              have e30 := eval_of h30
              clear h30
              refine goes_ Try.func69 (by kernel_rfl) rfl #[.slice (if c = splitS l.length then A else A.map (·.add (splitS l.length * 3))) (l.length - splitS l.length) (c - splitS l.length)] (by rfl) rfl rfl (by simp only [List.map_toArray, List.map_cons, List.map_nil, e30]) ?_
              have hl1 : (l.drop (splitS l.length)).length = l.length - splitS l.length := by rw [List.length_drop]
              have hC := Kd.C_below (Kd.C_drop hr.out (m := splitS l.length) (by omega) hc.out) hB
              rw [hl1] at hC
              refine (root_calls (l.drop (splitS l.length)).length (l.drop (splitS l.length)) _ _ _ w1 hl1.symm (by omega) hC (by have := hc.out; omega) (by omega) (fun e he => hv.out e (List.mem_of_mem_drop he))).mono ?_
              rintro e w2 ⟨rfl, hbw⟩
              exact ⟨_, rfl, hK _ _ hbw rfl⟩
            refine steps2_cons (by decide) (fun a1 w1 hB hsz hdf hn hd => ⟨_, rfl, fun K hK => ?_⟩) ?_
            · obtain ⟨v31, h31, rfl⟩ := hd 9 31 rfl (by kernel_rfl)
              have e31 := eval_of h31
              clear h31
              refine value_ (v := .slice (some ⟨w1.heap.size, 0, none⟩) 1 1) (w1 := w1.alloc (.cells #[.int .u64 (rootS (l.drop (splitS l.length)))] 25)) rfl rfl ?_ (hK _ _ (below_alloc (Below.refl _ _) _) ⟨_, rfl, by simp⟩)
              clear hd hn hK
              simp only [execOp, Option.map_some, Option.map_none, List.map_toArray, List.map_cons, List.map_nil, List.getElem_toArray, List.getElem_cons_zero, List.getElem_cons_succ, e31]
              clear e31
              go_simp
            refine steps2_late (by decide) (fun a1 w1 hB hsz hdf hn hd => ⟨_, rfl, fun K hK => ?_⟩) ?_
            · obtain ⟨v27, h27, q27⟩ := hd 5 27 rfl (by kernel_rfl)
              have hN : Nums w1 W.heap.size v27 (grownF f (l.take (splitS l.length)) i b) := q27 (.inl rfl)
              obtain ⟨v32, h32, q32⟩ := hd 10 32 rfl (by kernel_rfl)
              obtain ⟨g, rfl, hcg⟩ := q32 (.inl rfl)
              refine append_ (y := rootS (l.drop (splitS l.length))) rfl rfl rfl (eval_of h27) (eval_of h32) hN hcg (by have := grownF_len f (l.take (splitS l.length)) i b; omega) hB.size (fun vv w2 hN2 hg => hK _ _ ?_ (.inl rfl) hN2)
              exact grown_below hB hN (Nat.le_refl _) hB.size hg
            refine steps2_late (by decide) (fun a1 w1 hB hsz hdf hn hd => ⟨_, rfl, fun K hK => ?_⟩) ?_
            · obtain ⟨v33, h33, q33⟩ := hd 11 33 rfl (by kernel_rfl)
              have e33 := eval_of h33
              refine value_ (v := v33) (w1 := w1) rfl rfl ?_ (hK _ _ hB (.inr (Below.refl _ _)) (q33 (.inr (by decide))))
              clear hd hn hK
              simp only [execOp, List.getElem_toArray, List.getElem_cons_zero, List.getElem_cons_succ, e33]
              go_simp
            exact steps2_nil
          case stab => exact fun j v w w' => grownARel_stable _ _ _ _ _ _ _ j v w w'
          case rend =>
            intro vals w1 hB hrr
            have hlast := hrr (12, 6) (by simp) (by decide)
            simp only [fill, Act.put, List.setIfInBounds_toArray, List.set_cons_zero, List.set_cons_succ]
            have hlast' : Nums w1 W.heap.size (vals 12) (grownF f (l.take (splitS l.length)) i b ++ [rootS (l.drop (splitS l.length))]) := hlast
            clear hlast hrr
            generalize vals 12 = vv at hlast' ⊢
            have HL := Aside0.mk hlast'
            clear hlast'
            go_wp2
            go_ret
            exact ⟨_, rfl, by rw [hE.out]; exact Nums.mono HL.out hbW.size, hbW.trans (hB.mono hbW.size)⟩
      · have hE := Aside0.mk (show grownF (f + 1) l i b = _ by rw [grownF, if_neg c1, if_neg hk])
        have hkb : decide ((i : Int) ≤ (splitS l.length : Int)) = false := by simp; omega
        have hkn : decide (i ≤ splitS l.length) = false := by simp; omega
        clear c1
        go_enter Try.func80, Try.ntmps80
        go_wp2_with (go_at_call 117; (with_reducible refine (split_any l.length h2 h5 _).mono ?_); rintro e w' ⟨rfl, ⟨nd, rfl⟩⟩)
        obtain ⟨i0, hi0, hi1x, hi2, _⟩ := info_parts info23
        generalize hW : w.drewN nd = W
        have hbW : Below w.heap.size w W := by rw [← hW]; exact pw_below_drewN (Below.refl _ _) nd
        have hr' := Aside0.mk (Kd.C_below hr.out hbW)
        clear hr
        have hr := hr'
        clear hr' hW
        · refine rg2_ 12 [0, 1, 2, 3, 4, 5, 6, 7, 8, 9, 10, 11, 12, 13] [(0, 34), (1, 35), (2, 36), (3, 37), (4, 38), (5, 39), (6, 40), (7, 41), (8, 42), (9, 43), (10, 44), (11, 45), (12, 46), (13, 6)] (bitsOf (rtab .any (opsOf Try.f80 8)).2) (grownBRel f l A c i b W.heap.size) (by kernel_rfl) rfl (by kernel_rfl) rfl (by kernel_rfl) ?stab ?steps ?rend
          case steps =>
            refine steps2_cons (by decide) (fun a1 w1 hB hsz hdf hn hd => ⟨_, rfl, fun K hK => ?_⟩) ?_
            · have e0 := eval_of ((hn 0 rfl).trans rfl)
              refine value_ (v := .slice A l.length c) (w1 := w1) rfl rfl ?_ (hK _ _ (Below.refl _ _) rfl)
              clear hd hn hK
              simp only [execOp, Option.map_some, Option.map_none, List.map_toArray, List.map_cons, List.map_nil, List.getElem_toArray, List.getElem_cons_zero, List.getElem_cons_succ, e0]
              clear e0
              go_simp
            refine steps2_cons (by decide) (fun a1 w1 hB hsz hdf hn hd => ⟨_, rfl, fun K hK => ?_⟩) ?_
            · have e7 := eval_of ((hn 7 rfl).trans rfl)
              refine value_ (v := .int .i64 (splitS l.length : Int)) (w1 := w1) rfl rfl ?_ (hK _ _ (Below.refl _ _) rfl)
              clear hd hn hK
              simp only [execOp, Option.map_some, Option.map_none, List.map_toArray, List.map_cons, List.map_nil, List.getElem_toArray, List.getElem_cons_zero, List.getElem_cons_succ, e7]
              clear e7
              go_simp
            refine steps2_cons (by decide) (fun a1 w1 hB hsz hdf hn hd => ⟨_, rfl, fun K hK => ?_⟩) ?_
            · obtain ⟨v34, h34, rfl⟩ := hd 0 34 rfl (by kernel_rfl)
              have e34 := eval_of h34
              clear h34
              obtain ⟨v35, h35, rfl⟩ := hd 1 35 rfl (by kernel_rfl)
              have e35 := eval_of h35
              clear h35
              refine value_ (v := .slice (if c = splitS l.length then A else A.map (·.add (splitS l.length * 3))) (l.length - splitS l.length) (c - splitS l.length)) (w1 := w1) rfl rfl ?_ (hK _ _ (Below.refl _ _) rfl)
              clear hd hn hK
              simp only [execOp, Option.map_some, Option.map_none, List.map_toArray, List.map_cons, List.map_nil, List.getElem_toArray, List.getElem_cons_zero, List.getElem_cons_succ, e34, e35]
              clear e34 e35
              have hq := cut_from 24 23 .i64 Try.underlying24 hi0 3 hi2 A l.length c (splitS l.length : Int) (by omega) (by omega) w1
              try simp only [Int.toNat_natCast] at hq
              clear hr hc hv ih hE hB
              go_simp
            refine steps2_cons (by decide) (fun a1 w1 hB hsz hdf hn hd => ⟨_, rfl, fun K hK => ?_⟩) ?_
            · have e1 := eval_of ((hn 1 rfl).trans rfl)
              refine value_ (v := .int .i64 (i : Int)) (w1 := w1) rfl rfl ?_ (hK _ _ (Below.refl _ _) rfl)
              clear hd hn hK
              simp only [execOp, Option.map_some, Option.map_none, List.map_toArray, List.map_cons, List.map_nil, List.getElem_toArray, List.getElem_cons_zero, List.getElem_cons_succ, e1]
              clear e1
              go_simp
            refine steps2_cons (by decide) (fun a1 w1 hB hsz hdf hn hd => ⟨_, rfl, fun K hK => ?_⟩) ?_
            · have e7 := eval_of ((hn 7 rfl).trans rfl)
              refine value_ (v := .int .i64 (splitS l.length : Int)) (w1 := w1) rfl rfl ?_ (hK _ _ (Below.refl _ _) rfl)
              clear hd hn hK
              simp only [execOp, Option.map_some, Option.map_none, List.map_toArray, List.map_cons, List.map_nil, List.getElem_toArray, List.getElem_cons_zero, List.getElem_cons_succ, e7]
              clear e7
              go_simp
            refine steps2_cons (by decide) (fun a1 w1 hB hsz hdf hn hd => ⟨_, rfl, fun K hK => ?_⟩) ?_
            · obtain ⟨v37, h37, rfl⟩ := hd 3 37 rfl (by kernel_rfl)
              have e37 := eval_of h37
              clear h37
              obtain ⟨v38, h38, rfl⟩ := hd 4 38 rfl (by kernel_rfl)
              have e38 := eval_of h38
              clear h38
              refine value_ (v := .int .i64 ((i : Int) - (splitS l.length : Int))) (w1 := w1) rfl rfl ?_ (hK _ _ (Below.refl _ _) rfl)
              clear hd hn hK
              simp only [execOp, Option.map_some, Option.map_none, List.map_toArray, List.map_cons, List.map_nil, List.getElem_toArray, List.getElem_cons_zero, List.getElem_cons_succ, e37, e38]
              clear e37 e38
              have hq : IntKind.i64.wrap ((i : Int) - (splitS l.length : Int)) = (i : Int) - (splitS l.length : Int) := by rw [i64_w]; unfold wrap64; omega
              clear hr hc hv ih hE hB
              go_simp
            refine steps2_cons (by decide) (fun a1 w1 hB hsz hdf hn hd => ⟨_, rfl, fun K hK => ?_⟩) ?_
            · obtain ⟨v36, h36, rfl⟩ := hd 2 36 rfl (by kernel_rfl)
              have e36 := eval_of h36
              clear h36
              obtain ⟨v39, h39, rfl⟩ := hd 5 39 rfl (by kernel_rfl)
              have e39 := eval_of h39
              clear h39
              refine goes_ Try.func80 (by kernel_rfl) rfl #[.slice (if c = splitS l.length then A else A.map (·.add (splitS l.length * 3))) (l.length - splitS l.length) (c - splitS l.length), .int .i64 ((i - splitS l.length : Nat) : Int), .bool false] (by rfl) rfl rfl (by simp only [List.map_toArray, List.map_cons, List.map_nil, e36, e39]; rw [show ((i : Int) - (splitS l.length : Int)) = ((i - splitS l.length : Nat) : Int) from by omega]; rfl) ?_
              have hl1 : (l.drop (splitS l.length)).length = l.length - splitS l.length := by rw [List.length_drop]
              have hC := Kd.C_below (Kd.C_drop hr.out (m := splitS l.length) (by omega) hc.out) hB
              rw [hl1] at hC
              refine (ih (l.drop (splitS l.length)) _ _ _ (i - splitS l.length) false w1 hl1.symm (by omega) (by omega) (by omega) hC (by have := hc.out; omega) (by omega) (fun e he => hv.out e (List.mem_of_mem_drop he)) (by omega) (by omega)).mono ?_
              rintro e w2 ⟨v, rfl, hN, hbw⟩
              exact ⟨_, rfl, hK _ _ hbw (Nums.mono hN hB.size)⟩
            refine steps2_cons (by decide) (fun a1 w1 hB hsz hdf hn hd => ⟨_, rfl, fun K hK => ?_⟩) ?_
            · have e0 := eval_of ((hn 0 rfl).trans rfl)
              refine value_ (v := .slice A l.length c) (w1 := w1) rfl rfl ?_ (hK _ _ (Below.refl _ _) rfl)
              clear hd hn hK
              simp only [execOp, Option.map_some, Option.map_none, List.map_toArray, List.map_cons, List.map_nil, List.getElem_toArray, List.getElem_cons_zero, List.getElem_cons_succ, e0]
              clear e0
              go_simp
            refine steps2_cons (by decide) (fun a1 w1 hB hsz hdf hn hd => ⟨_, rfl, fun K hK => ?_⟩) ?_
            · have e7 := eval_of ((hn 7 rfl).trans rfl)
              refine value_ (v := .int .i64 (splitS l.length : Int)) (w1 := w1) rfl rfl ?_ (hK _ _ (Below.refl _ _) rfl)
              clear hd hn hK
              simp only [execOp, Option.map_some, Option.map_none, List.map_toArray, List.map_cons, List.map_nil, List.getElem_toArray, List.getElem_cons_zero, List.getElem_cons_succ, e7]
              clear e7
              go_simp
            refine steps2_cons (by decide) (fun a1 w1 hB hsz hdf hn hd => ⟨_, rfl, fun K hK => ?_⟩) ?_
            · obtain ⟨v41, h41, rfl⟩ := hd 7 41 rfl (by kernel_rfl)
              have e41 := eval_of h41
              clear h41
              obtain ⟨v42, h42, rfl⟩ := hd 8 42 rfl (by kernel_rfl)
              have e42 := eval_of h42
              clear h42
              refine value_ (v := .slice A (splitS l.length) c) (w1 := w1) rfl rfl ?_ (hK _ _ (Below.refl _ _) rfl)
              clear hd hn hK
              simp only [execOp, Option.map_some, Option.map_none, List.map_toArray, List.map_cons, List.map_nil, List.getElem_toArray, List.getElem_cons_zero, List.getElem_cons_succ, e41, e42]
              clear e41 e42
              have hq := cut_to 24 23 .i64 Try.underlying24 hi0 A l.length c (splitS l.length : Int) (by omega) (by omega) hc.out w1
              try simp only [Int.toNat_natCast] at hq
              clear hr hc hv ih hE hB
              go_simp
            refine steps2_cons (by decide) (fun a1 w1 hB hsz hdf hn hd => ⟨_, rfl, fun K hK => ?_⟩) ?_
            · obtain ⟨v43, h43, rfl⟩ := hd 9 43 rfl (by kernel_rfl)
              have e43 := eval_of h43
              clear h43
              refine goes_ Try.func69 (by kernel_rfl) rfl #[.slice A (splitS l.length) c] (by rfl) rfl rfl (by simp only [List.map_toArray, List.map_cons, List.map_nil, e43]) ?_
              have hl1 : (l.take (splitS l.length)).length = splitS l.length := by rw [List.length_take]; omega
              have hC := Kd.C_below (Kd.C_take hr.out (m := splitS l.length) (by omega)) hB
              rw [hl1] at hC
              refine (root_calls (l.take (splitS l.length)).length (l.take (splitS l.length)) _ _ _ w1 hl1.symm (by omega) hC (by have := hc.out; omega) (by omega) (fun e he => hv.out e (List.mem_of_mem_take he))).mono ?_
              rintro e w2 ⟨rfl, hbw⟩
              exact ⟨_, rfl, hK _ _ hbw rfl⟩
            refine steps2_cons (by decide) (fun a1 w1 hB hsz hdf hn hd => ⟨_, rfl, fun K hK => ?_⟩) ?_
            · obtain ⟨v44, h44, rfl⟩ := hd 10 44 rfl (by kernel_rfl)
              have e44 := eval_of h44
              clear h44
              refine value_ (v := .slice (some ⟨w1.heap.size, 0, none⟩) 1 1) (w1 := w1.alloc (.cells #[.int .u64 (rootS (l.take (splitS l.length)))] 25)) rfl rfl ?_ (hK _ _ (below_alloc (Below.refl _ _) _) ⟨_, rfl, by simp⟩)
              clear hd hn hK
              simp only [execOp, Option.map_some, Option.map_none, List.map_toArray, List.map_cons, List.map_nil, List.getElem_toArray, List.getElem_cons_zero, List.getElem_cons_succ, e44]
              clear e44
              go_simp
            refine steps2_late (by decide) (fun a1 w1 hB hsz hdf hn hd => ⟨_, rfl, fun K hK => ?_⟩) ?_
            · obtain ⟨v40, h40, q40⟩ := hd 6 40 rfl (by kernel_rfl)
              have hN : Nums w1 W.heap.size v40 (grownF f (l.drop (splitS l.length)) (i - splitS l.length) false) := q40 (.inl rfl)
              obtain ⟨v45, h45, q45⟩ := hd 11 45 rfl (by kernel_rfl)
              obtain ⟨g, rfl, hcg⟩ := q45 (.inl rfl)
              refine append_ (y := rootS (l.take (splitS l.length))) rfl rfl rfl (eval_of h40) (eval_of h45) hN hcg (by have := grownF_len f (l.drop (splitS l.length)) (i - splitS l.length) false; omega) hB.size (fun vv w2 hN2 hg => hK _ _ ?_ (.inl rfl) hN2)
              exact grown_below hB hN (Nat.le_refl _) hB.size hg
            refine steps2_late (by decide) (fun a1 w1 hB hsz hdf hn hd => ⟨_, rfl, fun K hK => ?_⟩) ?_
            · obtain ⟨v46, h46, q46⟩ := hd 12 46 rfl (by kernel_rfl)
              have e46 := eval_of h46
              refine value_ (v := v46) (w1 := w1) rfl rfl ?_ (hK _ _ hB (.inr (Below.refl _ _)) (q46 (.inr (by decide))))
              clear hd hn hK
              simp only [execOp, List.getElem_toArray, List.getElem_cons_zero, List.getElem_cons_succ, e46]
              go_simp
            exact steps2_nil
          case stab => exact fun j v w w' => grownBRel_stable _ _ _ _ _ _ _ j v w w'
          case rend =>
            intro vals w1 hB hrr
            have hlast := hrr (13, 6) (by simp) (by decide)
            simp only [fill, Act.put, List.setIfInBounds_toArray, List.set_cons_zero, List.set_cons_succ]
            have hlast' : Nums w1 W.heap.size (vals 13) (grownF f (l.drop (splitS l.length)) (i - splitS l.length) false ++ [rootS (l.take (splitS l.length))]) := hlast
            clear hlast hrr
            generalize vals 13 = vv at hlast' ⊢
            have HL := Aside0.mk hlast'
            clear hlast'
            go_wp2
            go_ret
            exact ⟨_, rfl, by rw [hE.out]; exact Nums.mono HL.out hbW.size, hbW.trans (hB.mono hbW.size)⟩
end Go.Proofs.Ytkedodmlbepfnaa.Lg

-- from the working text Ey
set_option linter.unusedSimpArgs false
set_option linter.unusedVariables false
namespace Go.Proofs.Ytkedodmlbepfnaa.Lg
open Go.RowKit Go.Proofs.YtkedodmlbepfnaaW.PrintWords Go.Proofs.YtkedodmlbepfnaaW.PrintLast Go.Proofs.YtkedodmlbepfnaaW.PrintMore Go.Proofs.Ytkedodmlbepfnaa.Rg
def errP (l : List S23) (i : Int) : Int := if errL l = 0 then (if i < 0 ∨ (l.length : Int) ≤ i then 1 else 0) else errL l
def pathR (l : List S23) (i : Int) : List Int := if errP l i = 0 then pathF l.length l i.toNat else []
def errG (l : List S23) (i : Int) : Int := if errL l = 0 then (if i < 1 ∨ (l.length : Int) < i then 1 else 0) else errL l
def grownR (l : List S23) (i : Int) : List Int := if errG l i = 0 then grownF l.length l i.toNat true else []
def okP (cr : Int × Bool) (root : Int) : Int := if cr.2 = true ∧ cr.1 = root then 0 else 94
def okG (cr : Int × Int × Bool) (old root : Int) : Int := if cr.2.2 = true ∧ cr.1 = old ∧ cr.2.1 = root then 0 else 94
def errCP (root many i : Int) (e : S23) (p : List Int) : Int := if errE e = 0 then (if many < 1 ∨ 512 < many ∨ i < 0 ∨ many ≤ i then 1 else okP (climbF (p.length + 1) (leafS e) many.toNat i.toNat p) root) else errE e
def errCG (old i root many : Int) (p : List Int) : Int := if many < 1 ∨ 512 < many ∨ i < 1 ∨ many < i then 1 else okG (growF (p.length + 1) old i.toNat many.toNat true p) old root
set_option maxHeartbeats 4000000 in
set_option maxRecDepth 100000 in
theorem pathX_calls (l : List S23) (A : Option Addr) (c : Nat) (i : Int) (w : World) (hr0 : Kd.C k23 w A l.length l) (hc0 : l.length ≤ c) : Calls Try.prog 20 #[.slice A l.length c, .int .i64 i] w fun x w' => ∃ v, x = .returned (.tuple #[v, .int .i64 (errP l i)]) ∧ Nums w' w.heap.size v (pathR l i) ∧ Below w.heap.size w w' := by
  have HR := Aside0.mk hr0
  have HBe := Aside0.mk (Below.refl w.heap.size w)
  clear hr0
  by_cases h : errL l = 0
  · have HL := Aside0.mk (errL_len h)
    have HV := Aside0.mk (errL_valid h)
    by_cases h1 : i < 0
    · have he : errP l i = 1 := by unfold errP; rw [if_pos h, if_pos (.inl h1)]
      have hp : pathR l i = [] := by unfold pathR; rw [if_neg (by rw [he]; decide)]
      rw [he, hp]
      have b1 : decide (i < 0) = true := decide_eq_true h1
      clear he hp
      go_enter Try.func20, Try.ntmps20
      go_wp2_with (go_at_call 68; (with_reducible refine (checkL_calls l A c _ HR.out hc0).mono ?_); rintro x w1 ⟨rfl, hb⟩; rw [h]; have n3_ := Aside0.mk (Kd.C_below HR.out hb); have n4_ := Aside0.mk (HBe.out.trans hb); clear HR HBe hb; have HR := n3_; have HBe := n4_; clear n3_ n4_)
      go_ret2
      exact ⟨_, rfl, Nums.nil _ _, HBe.out⟩
    · have b1 : decide (i < 0) = false := decide_eq_false h1
      obtain ⟨j, rfl⟩ := Int.eq_ofNat_of_zero_le (show 0 ≤ i by omega)
      by_cases h2 : (l.length : Int) ≤ (j : Int)
      · have he : errP l (j : Int) = 1 := by unfold errP; rw [if_pos h, if_pos (.inr h2)]
        have hp : pathR l (j : Int) = [] := by unfold pathR; rw [if_neg (by rw [he]; decide)]
        rw [he, hp]
        have b2 : decide ((l.length : Int) ≤ (j : Int)) = true := decide_eq_true h2
        have b3 := b2
        simp only [Int.ofNat_le, Int.ofNat_lt] at b3
        clear he hp
        go_enter Try.func20, Try.ntmps20
        go_wp2_with (go_at_call 68; (with_reducible refine (checkL_calls l A c _ HR.out hc0).mono ?_); rintro x w1 ⟨rfl, hb⟩; rw [h]; have n3_ := Aside0.mk (Kd.C_below HR.out hb); have n4_ := Aside0.mk (HBe.out.trans hb); clear HR HBe hb; have HR := n3_; have HBe := n4_; clear n3_ n4_)
        go_ret2
        exact ⟨_, rfl, Nums.nil _ _, HBe.out⟩
      · have he : errP l (j : Int) = 0 := by unfold errP; rw [if_pos h, if_neg (fun hh => hh.elim h1 h2)]
        have hp : pathR l (j : Int) = pathF l.length l j := by unfold pathR; rw [if_pos he]; rfl
        rw [he, hp]
        have b2 : decide ((l.length : Int) ≤ (j : Int)) = false := decide_eq_false h2
        have b3 := b2
        simp only [Int.ofNat_le, Int.ofNat_lt] at b3
        have HBs := Aside0.mk (Nat.le_refl w.heap.size)
        clear he hp
        go_enter Try.func20, Try.ntmps20
        go_wp2_with (first
          | (go_at_call 68; (with_reducible refine (checkL_calls l A c _ HR.out hc0).mono ?_); rintro x w1 ⟨rfl, hb⟩; rw [h]; have n3_ := Aside0.mk (Kd.C_below HR.out hb); have n4_ := Aside0.mk (HBe.out.trans hb); clear HR HBe hb; have HR := n3_; have HBe := n4_; clear n3_ n4_)
          | (go_at_call 76; go_loud (with_reducible refine (path_calls l.length l l.length A c j _ rfl (Nat.le_refl _) HL.out (by omega) HR.out hc0 HL.out HV.out (by omega)).mono ?_); rintro x w2 ⟨v, rfl, hn, hb⟩; have n4_ := Aside0.mk (HBe.out.trans (hb.mono HBe.out.size)); have n5_ := Aside0.mk (hn.mono HBe.out.size); clear HBe hb hn; have HBe := n4_; have HN := n5_; clear n4_ n5_))
        go_ret2
        exact ⟨_, rfl, HN.out, HBe.out⟩
  · have he : errP l i = errL l := by unfold errP; rw [if_neg h]
    have hp : pathR l i = [] := by unfold pathR; rw [if_neg (by rw [he]; exact h)]
    rw [he, hp]
    have hb0 : ((errL l) == 0) = false := by rw [beq_eq_false_iff_ne]; exact h
    clear he hp
    go_enter Try.func20, Try.ntmps20
    go_wp2_with (go_at_call 68; (with_reducible refine (checkL_calls l A c _ HR.out hc0).mono ?_); rintro x w1 ⟨rfl, hb⟩; have n4_ := Aside0.mk (HBe.out.trans hb); clear HR HBe hb; have HBe := n4_; clear n4_)
    go_ret2
    exact ⟨_, rfl, Nums.nil _ _, HBe.out⟩
set_option maxHeartbeats 4000000 in
set_option maxRecDepth 100000 in
theorem grownX_calls (l : List S23) (A : Option Addr) (c : Nat) (i : Int) (w : World) (hr0 : Kd.C k23 w A l.length l) (hc0 : l.length ≤ c) : Calls Try.prog 25 #[.slice A l.length c, .int .i64 i] w fun x w' => ∃ v, x = .returned (.tuple #[v, .int .i64 (errG l i)]) ∧ Nums w' w.heap.size v (grownR l i) ∧ Below w.heap.size w w' := by
  have HR := Aside0.mk hr0
  have HBe := Aside0.mk (Below.refl w.heap.size w)
  clear hr0
  by_cases h : errL l = 0
  · have HL := Aside0.mk (errL_len h)
    have HV := Aside0.mk (errL_valid h)
    by_cases h1 : i < 1
    · have he : errG l i = 1 := by unfold errG; rw [if_pos h, if_pos (.inl h1)]
      have hp : grownR l i = [] := by unfold grownR; rw [if_neg (by rw [he]; decide)]
      rw [he, hp]
      have b1 : decide (i < 1) = true := decide_eq_true h1
      clear he hp
      go_enter Try.func25, Try.ntmps25
      go_wp2_with (go_at_call 68; (with_reducible refine (checkL_calls l A c _ HR.out hc0).mono ?_); rintro x w1 ⟨rfl, hb⟩; rw [h]; have n3_ := Aside0.mk (Kd.C_below HR.out hb); have n4_ := Aside0.mk (HBe.out.trans hb); clear HR HBe hb; have HR := n3_; have HBe := n4_; clear n3_ n4_)
      go_ret2
      exact ⟨_, rfl, Nums.nil _ _, HBe.out⟩
    · have b1 : decide (i < 1) = false := decide_eq_false h1
      obtain ⟨j, rfl⟩ := Int.eq_ofNat_of_zero_le (show 0 ≤ i by omega)
      by_cases h2 : (l.length : Int) < (j : Int)
      · have he : errG l (j : Int) = 1 := by unfold errG; rw [if_pos h, if_pos (.inr h2)]
        have hp : grownR l (j : Int) = [] := by unfold grownR; rw [if_neg (by rw [he]; decide)]
        rw [he, hp]
        have b2 : decide ((l.length : Int) < (j : Int)) = true := decide_eq_true h2
        have b3 := b2
        simp only [Int.ofNat_le, Int.ofNat_lt] at b3
        clear he hp
        go_enter Try.func25, Try.ntmps25
        go_wp2_with (go_at_call 68; (with_reducible refine (checkL_calls l A c _ HR.out hc0).mono ?_); rintro x w1 ⟨rfl, hb⟩; rw [h]; have n3_ := Aside0.mk (Kd.C_below HR.out hb); have n4_ := Aside0.mk (HBe.out.trans hb); clear HR HBe hb; have HR := n3_; have HBe := n4_; clear n3_ n4_)
        go_ret2
        exact ⟨_, rfl, Nums.nil _ _, HBe.out⟩
      · have he : errG l (j : Int) = 0 := by unfold errG; rw [if_pos h, if_neg (fun hh => hh.elim h1 h2)]
        have hp : grownR l (j : Int) = grownF l.length l j true := by unfold grownR; rw [if_pos he]; rfl
        rw [he, hp]
        have b2 : decide ((l.length : Int) < (j : Int)) = false := decide_eq_false h2
        have b3 := b2
        simp only [Int.ofNat_le, Int.ofNat_lt] at b3
        have HBs := Aside0.mk (Nat.le_refl w.heap.size)
        clear he hp
        go_enter Try.func25, Try.ntmps25
        go_wp2_with (first
          | (go_at_call 68; (with_reducible refine (checkL_calls l A c _ HR.out hc0).mono ?_); rintro x w1 ⟨rfl, hb⟩; rw [h]; have n3_ := Aside0.mk (Kd.C_below HR.out hb); have n4_ := Aside0.mk (HBe.out.trans hb); clear HR HBe hb; have HR := n3_; have HBe := n4_; clear n3_ n4_)
          | (go_at_call 80; go_loud (with_reducible refine (grown_calls l.length l l.length A c j true _ rfl (Nat.le_refl _) HL.out (by omega) HR.out hc0 HL.out HV.out (by omega) (by omega)).mono ?_); rintro x w2 ⟨v, rfl, hn, hb⟩; have n4_ := Aside0.mk (HBe.out.trans (hb.mono HBe.out.size)); have n5_ := Aside0.mk (hn.mono HBe.out.size); clear HBe hb hn; have HBe := n4_; have HN := n5_; clear n4_ n5_))
        go_ret2
        exact ⟨_, rfl, HN.out, HBe.out⟩
  · have he : errG l i = errL l := by unfold errG; rw [if_neg h]
    have hp : grownR l i = [] := by unfold grownR; rw [if_neg (by rw [he]; exact h)]
    rw [he, hp]
    have hb0 : ((errL l) == 0) = false := by rw [beq_eq_false_iff_ne]; exact h
    clear he hp
    go_enter Try.func25, Try.ntmps25
    go_wp2_with (go_at_call 68; (with_reducible refine (checkL_calls l A c _ HR.out hc0).mono ?_); rintro x w1 ⟨rfl, hb⟩; have n4_ := Aside0.mk (HBe.out.trans hb); clear HR HBe hb; have HBe := n4_; clear n4_)
    go_ret2
    exact ⟨_, rfl, Nums.nil _ _, HBe.out⟩
set_option maxHeartbeats 4000000 in
set_option maxRecDepth 100000 in
theorem checkPathX_calls (root many i : Int) (e : S23) (p : List Int) (A : Option Addr) (c : Nat) (w : World) (hr0 : Kd.C (Kd.int .u64) w A p.length p) (hc0 : p.length ≤ c) (hl : p.length ≤ 1000000) (hu : ∀ y ∈ p, U64 y) : Calls Try.prog 23 #[.int .u64 root, .int .i64 many, .int .i64 i, .agg #[.int .i64 e.f0, .int .i64 e.f1, .string e.f2], .slice A p.length c] w fun x w' => x = .returned (.int .i64 (errCP root many i e p)) ∧ Below w.heap.size w w' := by
  have hB1 : Below w.heap.size w (w.alloc (.cells #[.int .i64 e.f0, .int .i64 e.f1, .string e.f2] 23)) := below_alloc (Below.refl _ _) _
  have HX := Aside0.mk (blk_new w (.cells #[.int .i64 e.f0, .int .i64 e.f1, .string e.f2] 23))
  have HBe := Aside0.mk hB1
  have HR := Aside0.mk (Kd.C_below hr0 hB1)
  clear hB1 hr0
  by_cases h : Valid e
  · have he : errE e = 0 := if_pos h
    have HV := Aside0.mk h
    have hv5 : e.f2.size ≤ 2400 := h.2.2.2.2
    have hcp : errCP root many i e p = if many < 1 ∨ 512 < many ∨ i < 0 ∨ many ≤ i then 1 else okP (climbF (p.length + 1) (leafS e) many.toNat i.toNat p) root := by unfold errCP; rw [if_pos he]
    rw [hcp]
    clear h hcp
    have hbad : (many < 1 ∨ 512 < many ∨ i < 0 ∨ many ≤ i) → Calls Try.prog 23 #[.int .u64 root, .int .i64 many, .int .i64 i, .agg #[.int .i64 e.f0, .int .i64 e.f1, .string e.f2], .slice A p.length c] w fun x w' => x = .returned (.int .i64 1) ∧ Below w.heap.size w w' := by
      intro hh
      by_cases h1 : many < 1
      · have b1 : decide (many < 1) = true := decide_eq_true h1
        clear hh
        go_enter Try.func23, Try.ntmps23
        go_wp2_with (go_at_call 16; (with_reducible refine (checkE_calls e _).mono ?_); rintro x w1 ⟨rfl, hb⟩; rw [he]; have n3_ := Aside0.mk ((hb.block _ (blk_lt HX.out)).trans HX.out); have n4_ := Aside0.mk (HBe.out.trans (hb.mono HBe.out.size)); have n5_ := Aside0.mk (Kd.C_below HR.out hb); clear HX HBe HR hb; have HX := n3_; have HBe := n4_; have HR := n5_; clear n3_ n4_ n5_; have x0 := (blk_cell HX.out 0).trans rfl; have x1 := (blk_cell HX.out 1).trans rfl; have x2 := (blk_cell HX.out 2).trans rfl)
        go_ret
        exact ⟨rfl, HBe.out⟩
      · have b1 : decide (many < 1) = false := decide_eq_false h1
        by_cases h2 : 512 < many
        · have b2 : decide (512 < many) = true := decide_eq_true h2
          clear hh
          go_enter Try.func23, Try.ntmps23
          go_wp2_with (go_at_call 16; (with_reducible refine (checkE_calls e _).mono ?_); rintro x w1 ⟨rfl, hb⟩; rw [he]; have n3_ := Aside0.mk ((hb.block _ (blk_lt HX.out)).trans HX.out); have n4_ := Aside0.mk (HBe.out.trans (hb.mono HBe.out.size)); have n5_ := Aside0.mk (Kd.C_below HR.out hb); clear HX HBe HR hb; have HX := n3_; have HBe := n4_; have HR := n5_; clear n3_ n4_ n5_; have x0 := (blk_cell HX.out 0).trans rfl; have x1 := (blk_cell HX.out 1).trans rfl; have x2 := (blk_cell HX.out 2).trans rfl)
          go_ret
          exact ⟨rfl, HBe.out⟩
        · have b2 : decide (512 < many) = false := decide_eq_false h2
          by_cases h3 : i < 0
          · have b3 : decide (i < 0) = true := decide_eq_true h3
            clear hh
            go_enter Try.func23, Try.ntmps23
            go_wp2_with (go_at_call 16; (with_reducible refine (checkE_calls e _).mono ?_); rintro x w1 ⟨rfl, hb⟩; rw [he]; have n3_ := Aside0.mk ((hb.block _ (blk_lt HX.out)).trans HX.out); have n4_ := Aside0.mk (HBe.out.trans (hb.mono HBe.out.size)); have n5_ := Aside0.mk (Kd.C_below HR.out hb); clear HX HBe HR hb; have HX := n3_; have HBe := n4_; have HR := n5_; clear n3_ n4_ n5_; have x0 := (blk_cell HX.out 0).trans rfl; have x1 := (blk_cell HX.out 1).trans rfl; have x2 := (blk_cell HX.out 2).trans rfl)
            go_ret
            exact ⟨rfl, HBe.out⟩
          · have b3 : decide (i < 0) = false := decide_eq_false h3
            have b4 : decide (many ≤ i) = true := decide_eq_true (by omega)
            clear hh
            go_enter Try.func23, Try.ntmps23
            go_wp2_with (go_at_call 16; (with_reducible refine (checkE_calls e _).mono ?_); rintro x w1 ⟨rfl, hb⟩; rw [he]; have n3_ := Aside0.mk ((hb.block _ (blk_lt HX.out)).trans HX.out); have n4_ := Aside0.mk (HBe.out.trans (hb.mono HBe.out.size)); have n5_ := Aside0.mk (Kd.C_below HR.out hb); clear HX HBe HR hb; have HX := n3_; have HBe := n4_; have HR := n5_; clear n3_ n4_ n5_; have x0 := (blk_cell HX.out 0).trans rfl; have x1 := (blk_cell HX.out 1).trans rfl; have x2 := (blk_cell HX.out 2).trans rfl)
            go_ret
            exact ⟨rfl, HBe.out⟩
    by_cases hh : many < 1 ∨ 512 < many ∨ i < 0 ∨ many ≤ i
    · rw [if_pos hh]
      exact hbad hh
    · rw [if_neg hh]
      clear hbad
      obtain ⟨m, rfl⟩ := Int.eq_ofNat_of_zero_le (show 0 ≤ many by omega)
      obtain ⟨j, rfl⟩ := Int.eq_ofNat_of_zero_le (show 0 ≤ i by omega)
      simp only [Int.ofNat_eq_natCast, Int.toNat_natCast]
      have b1 : decide ((m : Int) < 1) = false := decide_eq_false (by omega)
      have b2 : decide (512 < (m : Int)) = false := decide_eq_false (by omega)
      have b2' : decide (512 < m) = false := decide_eq_false (by omega)
      have b3 : decide ((j : Int) < 0) = false := decide_eq_false (by omega)
      have b4 : decide ((m : Int) ≤ (j : Int)) = false := decide_eq_false (by omega)
      have b4' : decide (m ≤ j) = false := decide_eq_false (by omega)
      have b1' : decide (m < 1) = false := decide_eq_false (by omega)
      have hm0 : (m == 0) = false := by rw [beq_eq_false_iff_ne]; omega
      have hm1 : 1 ≤ m := by omega
      have hm2 : m ≤ 512 := by omega
      have hjm : j < m := by omega
      have HC : Aside0 (∀ W, Kd.C (Kd.int .u64) W A p.length p → Calls Try.prog 78 #[.int .u64 (leafS e), .int .i64 (m : Int), .int .i64 (j : Int), .slice A p.length c] W fun x W' => x = .returned (.tuple #[.int .u64 (climbF (p.length + 1) (leafS e) m j p).1, .bool (climbF (p.length + 1) (leafS e) m j p).2]) ∧ Below W.heap.size W W') := Aside0.mk fun W hW => climb_calls (p.length + 1) (leafS e) m j p p.length A c W rfl (Nat.lt_succ_self _) hm1 hm2 hjm hW hc0 hl
      have hcr : ∃ cr, cr = climbF (p.length + 1) (leafS e) m j p := ⟨_, rfl⟩
      obtain ⟨cr, hcr⟩ := hcr
      rw [← hcr] at HC ⊢
      clear hcr
      obtain ⟨cx, cok⟩ := cr
      simp only [okP] at HC ⊢
      cases cok with
      | false =>
        rw [if_neg (by simp)]
        go_enter Try.func23, Try.ntmps23
        go_wp2_with (first
          | (go_at_call 16; (with_reducible refine (checkE_calls e _).mono ?_); rintro x w1 ⟨rfl, hb⟩; rw [he]; have n3_ := Aside0.mk ((hb.block _ (blk_lt HX.out)).trans HX.out); have n4_ := Aside0.mk (HBe.out.trans (hb.mono HBe.out.size)); have n5_ := Aside0.mk (Kd.C_below HR.out hb); clear HX HBe HR hb; have HX := n3_; have HBe := n4_; have HR := n5_; clear n3_ n4_ n5_; have x0 := (blk_cell HX.out 0).trans rfl; have x1 := (blk_cell HX.out 1).trans rfl; have x2 := (blk_cell HX.out 2).trans rfl)
          | (go_at_call 66; (with_reducible refine (leaf_spec e hv5 _).mono ?_); rintro x w1 ⟨rfl, hb⟩; have n4_ := Aside0.mk (HBe.out.trans (hb.mono HBe.out.size)); have n5_ := Aside0.mk (Kd.C_below HR.out hb); clear HX HBe HR hb; have HBe := n4_; have HR := n5_; clear n4_ n5_)
          | (go_at_call 78; (with_reducible refine (HC.out _ HR.out).mono ?_); rintro x w1 ⟨rfl, hb⟩; have n4_ := Aside0.mk (HBe.out.trans (hb.mono HBe.out.size)); clear HBe HR hb; have HBe := n4_; clear n4_))
        go_ret
        exact ⟨rfl, HBe.out⟩
      | true =>
        by_cases hx : cx = root
        · rw [if_pos ⟨rfl, hx⟩]
          have bx : (cx == root) = true := by rw [beq_iff_eq]; exact hx
          clear hx
          go_enter Try.func23, Try.ntmps23
          go_wp2_with (first
            | (go_at_call 16; (with_reducible refine (checkE_calls e _).mono ?_); rintro x w1 ⟨rfl, hb⟩; rw [he]; have n3_ := Aside0.mk ((hb.block _ (blk_lt HX.out)).trans HX.out); have n4_ := Aside0.mk (HBe.out.trans (hb.mono HBe.out.size)); have n5_ := Aside0.mk (Kd.C_below HR.out hb); clear HX HBe HR hb; have HX := n3_; have HBe := n4_; have HR := n5_; clear n3_ n4_ n5_; have x0 := (blk_cell HX.out 0).trans rfl; have x1 := (blk_cell HX.out 1).trans rfl; have x2 := (blk_cell HX.out 2).trans rfl)
            | (go_at_call 66; (with_reducible refine (leaf_spec e hv5 _).mono ?_); rintro x w1 ⟨rfl, hb⟩; have n4_ := Aside0.mk (HBe.out.trans (hb.mono HBe.out.size)); have n5_ := Aside0.mk (Kd.C_below HR.out hb); clear HX HBe HR hb; have HBe := n4_; have HR := n5_; clear n4_ n5_)
            | (go_at_call 78; (with_reducible refine (HC.out _ HR.out).mono ?_); rintro x w1 ⟨rfl, hb⟩; have n4_ := Aside0.mk (HBe.out.trans (hb.mono HBe.out.size)); clear HBe HR hb; have HBe := n4_; clear n4_))
          go_ret
          exact ⟨rfl, HBe.out⟩
        · rw [if_neg (fun hh => hx hh.2)]
          have bx : (cx == root) = false := by rw [beq_eq_false_iff_ne]; exact hx
          go_enter Try.func23, Try.ntmps23
          go_wp2_with (first
            | (go_at_call 16; (with_reducible refine (checkE_calls e _).mono ?_); rintro x w1 ⟨rfl, hb⟩; rw [he]; have n3_ := Aside0.mk ((hb.block _ (blk_lt HX.out)).trans HX.out); have n4_ := Aside0.mk (HBe.out.trans (hb.mono HBe.out.size)); have n5_ := Aside0.mk (Kd.C_below HR.out hb); clear HX HBe HR hb; have HX := n3_; have HBe := n4_; have HR := n5_; clear n3_ n4_ n5_; have x0 := (blk_cell HX.out 0).trans rfl; have x1 := (blk_cell HX.out 1).trans rfl; have x2 := (blk_cell HX.out 2).trans rfl)
            | (go_at_call 66; (with_reducible refine (leaf_spec e hv5 _).mono ?_); rintro x w1 ⟨rfl, hb⟩; have n4_ := Aside0.mk (HBe.out.trans (hb.mono HBe.out.size)); have n5_ := Aside0.mk (Kd.C_below HR.out hb); clear HX HBe HR hb; have HBe := n4_; have HR := n5_; clear n4_ n5_)
            | (go_at_call 78; (with_reducible refine (HC.out _ HR.out).mono ?_); rintro x w1 ⟨rfl, hb⟩; have n4_ := Aside0.mk (HBe.out.trans (hb.mono HBe.out.size)); clear HBe HR hb; have HBe := n4_; clear n4_))
          go_ret
          exact ⟨rfl, HBe.out⟩
  · have he : errE e = 90 := if_neg h
    have hcp : errCP root many i e p = 90 := by unfold errCP; rw [he, if_neg (by decide)]
    rw [hcp]
    clear h hcp
    go_enter Try.func23, Try.ntmps23
    go_wp2_with (go_at_call 16; (with_reducible refine (checkE_calls e _).mono ?_); rintro x w1 ⟨rfl, hb⟩; rw [he]; have n4_ := Aside0.mk (HBe.out.trans (hb.mono HBe.out.size)); clear HX HBe HR hb; have HBe := n4_; clear n4_)
    go_ret
    exact ⟨rfl, HBe.out⟩
set_option maxHeartbeats 4000000 in
set_option maxRecDepth 100000 in
theorem checkGrownX_calls (old i root many : Int) (p : List Int) (A : Option Addr) (c : Nat) (w : World) (hr0 : Kd.C (Kd.int .u64) w A p.length p) (hc0 : p.length ≤ c) (hl : p.length ≤ 1000000) (ho : U64 old) (hu : ∀ y ∈ p, U64 y) : Calls Try.prog 27 #[.int .u64 old, .int .i64 i, .int .u64 root, .int .i64 many, .slice A p.length c] w fun x w' => x = .returned (.int .i64 (errCG old i root many p)) ∧ Below w.heap.size w w' := by
  have HBe := Aside0.mk (Below.refl w.heap.size w)
  have HR := Aside0.mk hr0
  clear hr0
  unfold errCG
  have hbad : (many < 1 ∨ 512 < many ∨ i < 1 ∨ many < i) → Calls Try.prog 27 #[.int .u64 old, .int .i64 i, .int .u64 root, .int .i64 many, .slice A p.length c] w fun x w' => x = .returned (.int .i64 1) ∧ Below w.heap.size w w' := by
    intro hh
    by_cases h1 : many < 1
    · have b1 : decide (many < 1) = true := decide_eq_true h1
      clear hh
      go_enter Try.func27, Try.ntmps27
      go_wp2
      go_ret
      exact ⟨rfl, by repeat (first | exact Below.refl _ _ | apply below_drew | apply pw_below_drewN | apply below_drew1)⟩
    · have b1 : decide (many < 1) = false := decide_eq_false h1
      by_cases h2 : 512 < many
      · have b2 : decide (512 < many) = true := decide_eq_true h2
        clear hh
        go_enter Try.func27, Try.ntmps27
        go_wp2
        go_ret
        exact ⟨rfl, by repeat (first | exact Below.refl _ _ | apply below_drew | apply pw_below_drewN | apply below_drew1)⟩
      · have b2 : decide (512 < many) = false := decide_eq_false h2
        by_cases h3 : i < 1
        · have b3 : decide (i < 1) = true := decide_eq_true h3
          clear hh
          go_enter Try.func27, Try.ntmps27
          go_wp2
          go_ret
          exact ⟨rfl, by repeat (first | exact Below.refl _ _ | apply below_drew | apply pw_below_drewN | apply below_drew1)⟩
        · have b3 : decide (i < 1) = false := decide_eq_false h3
          have b4 : decide (many < i) = true := decide_eq_true (by omega)
          clear hh
          go_enter Try.func27, Try.ntmps27
          go_wp2
          go_ret
          exact ⟨rfl, by repeat (first | exact Below.refl _ _ | apply below_drew | apply pw_below_drewN | apply below_drew1)⟩
  by_cases hh : many < 1 ∨ 512 < many ∨ i < 1 ∨ many < i
  · rw [if_pos hh]
    exact hbad hh
  · rw [if_neg hh]
    clear hbad
    obtain ⟨m, rfl⟩ := Int.eq_ofNat_of_zero_le (show 0 ≤ many by omega)
    obtain ⟨j, rfl⟩ := Int.eq_ofNat_of_zero_le (show 0 ≤ i by omega)
    simp only [Int.ofNat_eq_natCast, Int.toNat_natCast]
    have b1 : decide ((m : Int) < 1) = false := decide_eq_false (by omega)
    have b2 : decide (512 < (m : Int)) = false := decide_eq_false (by omega)
    have b2' : decide (512 < m) = false := decide_eq_false (by omega)
    have b3 : decide ((j : Int) < 1) = false := decide_eq_false (by omega)
    have b4 : decide ((m : Int) < (j : Int)) = false := decide_eq_false (by omega)
    have b4' : decide (m < j) = false := decide_eq_false (by omega)
    have b1' : decide (m < 1) = false := decide_eq_false (by omega)
    have b3' : decide (j < 1) = false := decide_eq_false (by omega)
    have hm0 : (m == 0) = false := by rw [beq_eq_false_iff_ne]; omega
    have hj0 : (j == 0) = false := by rw [beq_eq_false_iff_ne]; omega
    have hm2 : m ≤ 512 := by omega
    have hj1 : 1 ≤ j := by omega
    have hjm : j ≤ m := by omega
    have HC : Aside0 (∀ W, Kd.C (Kd.int .u64) W A p.length p → Calls Try.prog 82 #[.int .u64 old, .int .i64 (j : Int), .int .i64 (m : Int), .bool true, .slice A p.length c] W fun x W' => x = .returned (.tuple #[.int .u64 (growF (p.length + 1) old j m true p).1, .int .u64 (growF (p.length + 1) old j m true p).2.1, .bool (growF (p.length + 1) old j m true p).2.2]) ∧ Below W.heap.size W W') := Aside0.mk fun W hW => grow_calls (p.length + 1) old j m true p p.length A c W rfl (Nat.lt_succ_self _) hj1 hjm hm2 hW hc0 hl
    have hcr : ∃ cr, cr = growF (p.length + 1) old j m true p := ⟨_, rfl⟩
    obtain ⟨cr, hcr⟩ := hcr
    rw [← hcr] at HC ⊢
    clear hcr
    obtain ⟨cx, cy, cok⟩ := cr
    simp only [okG] at HC ⊢
    cases cok with
    | false =>
      rw [if_neg (by simp)]
      go_enter Try.func27, Try.ntmps27
      go_wp2_with (go_at_call 82; (with_reducible refine (HC.out _ HR.out).mono ?_); rintro x w1 ⟨rfl, hb⟩; have n4_ := Aside0.mk (HBe.out.trans (hb.mono HBe.out.size)); clear HBe HR hb; have HBe := n4_; clear n4_)
      go_ret
      exact ⟨rfl, HBe.out⟩
    | true =>
      by_cases hx : cx = old
      · have bx : (cx != old) = false := by simp [hx]
        by_cases hy : cy = root
        · rw [if_pos ⟨rfl, hx, hy⟩]
          have by_ : (cy != root) = false := by simp [hy]
          clear hx hy
          go_enter Try.func27, Try.ntmps27
          go_wp2_with (go_at_call 82; (with_reducible refine (HC.out _ HR.out).mono ?_); rintro x w1 ⟨rfl, hb⟩; have n4_ := Aside0.mk (HBe.out.trans (hb.mono HBe.out.size)); clear HBe HR hb; have HBe := n4_; clear n4_)
          go_ret
          exact ⟨rfl, HBe.out⟩
        · rw [if_neg (fun hh => hy hh.2.2)]
          have by_ : (cy != root) = true := by simp [hy]
          clear hx
          go_enter Try.func27, Try.ntmps27
          go_wp2_with (go_at_call 82; (with_reducible refine (HC.out _ HR.out).mono ?_); rintro x w1 ⟨rfl, hb⟩; have n4_ := Aside0.mk (HBe.out.trans (hb.mono HBe.out.size)); clear HBe HR hb; have HBe := n4_; clear n4_)
          go_ret
          exact ⟨rfl, HBe.out⟩
      · rw [if_neg (fun hh => hx hh.2.1)]
        have bx : (cx != old) = true := by simp [hx]
        go_enter Try.func27, Try.ntmps27
        go_wp2_with (go_at_call 82; (with_reducible refine (HC.out _ HR.out).mono ?_); rintro x w1 ⟨rfl, hb⟩; have n4_ := Aside0.mk (HBe.out.trans (hb.mono HBe.out.size)); clear HBe HR hb; have HBe := n4_; clear n4_)
        go_ret
        exact ⟨rfl, HBe.out⟩
end Go.Proofs.Ytkedodmlbepfnaa.Lg

-- from the working text Eq
set_option linter.unusedSimpArgs false
set_option linter.unusedVariables false
namespace Go.Proofs.Ytkedodmlbepfnaa.Lg
open Go.RowKit Go.Proofs.YtkedodmlbepfnaaW.PrintWords Go.Proofs.YtkedodmlbepfnaaW.PrintLast Go.Proofs.YtkedodmlbepfnaaW.PrintMore Go.Proofs.Ytkedodmlbepfnaa.Rg
set_option maxHeartbeats 4000000 in
set_option maxRecDepth 100000 in
theorem equal_calls (xs ys : List Int) (A B : Option Addr) (c d : Nat) (w : World) (hr0 : Kd.C (Kd.int .u64) w A xs.length xs) (hc0 : xs.length ≤ c) (hs0 : Kd.C (Kd.int .u64) w B ys.length ys) (hd0 : ys.length ≤ d) :
    Calls Try.prog 22 #[.slice A xs.length c, .slice B ys.length d] w fun e w' => e = .returned (.bool (decide (xs = ys))) ∧ Below w.heap.size w w' := by
  have hr := Aside0.mk hr0
  have hs := Aside0.mk hs0
  have hmax := Kd.C_max hr0
  clear hr0 hs0
  by_cases hl : xs.length = ys.length
  · have hl1 : ((xs.length : Int) == (ys.length : Int)) = true := by rw [beq_iff_eq]; omega
    have hl2 : (xs.length == ys.length) = true := by rw [beq_iff_eq]; omega
    have hl3 : ((xs.length : Int) != (ys.length : Int)) = false := by rw [bne, hl1]; rfl
    have hl4 : (xs.length != ys.length) = false := by rw [bne, hl2]; rfl
    go_enter Try.func22, Try.ntmps22
    go_wp2
    go_loopw [13] (fun v w' => ∃ j : Nat, v = .int .i64 (j : Int) ∧ j ≤ xs.length ∧ Aside0 (xs.take j = ys.take j) ∧ Aside0 (Below w.heap.size w w')) (fun v _ => xs.length - (intOf v).toNat)
    case atStart => exact ⟨0, rfl, by omega, ⟨by simp⟩, ⟨(by repeat (first | exact Below.refl _ _ | apply below_alloc | apply below_drew | apply pw_below_drewN))⟩⟩
    case round =>
      obtain ⟨j, rfl, hj, hno, HB⟩ := hrel
      by_cases hlt : j < xs.length
      · obtain ⟨a, rfl, ha⟩ := Kd.at_int hr.out (j : Int) (by omega) (by omega)
        obtain ⟨b, rfl, hb⟩ := Kd.at_int hs.out (j : Int) (by omega) (by omega)
        replace ha := (HB.out.cell (World.block_lt_of_cell? w _ ha)).trans ha
        replace hb := (HB.out.cell (World.block_lt_of_cell? w _ hb)).trans hb
        simp only [Int.toNat_natCast] at ha hb
        have hltn : (j : Int) < (xs.length : Int) := by omega
        have hltm : (j : Int) < (ys.length : Int) := by omega
        rw [rd_get hlt] at ha
        rw [rd_get (show j < ys.length by omega)] at hb
        by_cases he : xs[j] = ys[j]
        · have hnx := Aside0.mk (show xs.take (j + 1) = ys.take (j + 1) by rw [List.take_succ_eq_append_getElem hlt, List.take_succ_eq_append_getElem (show j < ys.length by omega), hno.out, he])
          have hq : (xs[j] != ys[j]) = false := by simp [he]
          clear he
          go_wp2
          go_quiet (fail)
          go_wp2
          go_roundw
          case rel => exact ⟨j + 1, by go_num, by omega, hnx, Aside0.mk (by repeat (first | exact HB.out | apply below_alloc | apply below_drew | apply pw_below_drewN))⟩
          case measure => simp [intOf]; omega
        · have hF := Aside0.mk (show decide (xs = ys) = false from decide_eq_false fun h => he (by subst h; rfl))
          have hq : (xs[j] != ys[j]) = true := by simp [he]
          clear he
          go_wp2
          go_quiet (fail)
          go_wp2
          go_ret
          exact ⟨by rw [hF.out]; rfl, by repeat (first | exact HB.out | apply below_alloc | apply below_drew | apply pw_below_drewN)⟩
      · have hT := Aside0.mk (show decide (xs = ys) = true from decide_eq_true (by have := hno.out; rw [List.take_of_length_le (by omega), List.take_of_length_le (by omega)] at this; exact this))
        have hd : decide ((j : Int) < (xs.length : Int)) = false := by simp; omega
        have hd2 : decide (j < xs.length) = false := by simp; omega
        go_wp2
        go_ret
        exact ⟨by rw [hT.out]; rfl, HB.out⟩
  · have hF := Aside0.mk (show decide (xs = ys) = false from decide_eq_false fun h => hl (by rw [h]))
    have hl1 : ((xs.length : Int) == (ys.length : Int)) = false := by rw [beq_eq_false_iff_ne]; omega
    have hl2 : (xs.length == ys.length) = false := by rw [beq_eq_false_iff_ne]; omega
    have hl3 : ((xs.length : Int) != (ys.length : Int)) = true := by rw [bne, hl1]; rfl
    have hl4 : (xs.length != ys.length) = true := by rw [bne, hl2]; rfl
    go_enter Try.func22, Try.ntmps22
    go_wp2
    go_ret
    exact ⟨by rw [hF.out]; rfl, by repeat (first | exact Below.refl _ _ | apply below_alloc | apply below_drew | apply pw_below_drewN)⟩
end Go.Proofs.Ytkedodmlbepfnaa.Lg

-- from the working text Sv
set_option linter.unusedSimpArgs false
set_option linter.unusedVariables false
namespace Go.Proofs.Ytkedodmlbepfnaa.Lg
open Go.RowKit Go.Proofs.YtkedodmlbepfnaaW.PrintWords Go.Proofs.YtkedodmlbepfnaaW.PrintLast Go.Proofs.YtkedodmlbepfnaaW.PrintMore Go.Proofs.Ytkedodmlbepfnaa.Rg
def x0E : S23 := ⟨0, 0, ⟨#[97]⟩⟩
def x1E : S23 := ⟨0, 1, ⟨#[98]⟩⟩
def x2E : S23 := ⟨0, 2, ⟨#[99]⟩⟩
def x3E : S23 := ⟨0, 3, ⟨#[100]⟩⟩
def x4E : S23 := ⟨0, 4, ⟨#[101]⟩⟩
def fiveL : List S23 := [x0E, x1E, x2E, x3E, x4E]
theorem five_f : acreagelaw09_five.f 7 = some fiveL := by kernel_rfl
def cV : Int := leafS x3E
def dV : Int := leafS x4E
def tV : Int := leafS x2E
def aV : Int := rootS [x0E, x1E]
def bV : Int := rootS [x0E, x1E, x2E, x3E]
theorem errL0 : errL ([] : List S23) = 0 := by decide +kernel
theorem rootS0 : rootS ([] : List S23) = 14695981039346656037 := by decide +kernel
theorem errP2 : errP fiveL 2 = 0 := by decide +kernel
theorem errP4 : errP fiveL 4 = 0 := by decide +kernel
theorem pathR2 : pathR fiveL 2 = [cV, aV, dV] := by decide +kernel
theorem pathR4 : pathR fiveL 4 = [bV] := by decide +kernel
theorem errG3 : errG fiveL 3 = 0 := by decide +kernel
theorem errG4 : errG fiveL 4 = 0 := by decide +kernel
theorem grownR3 : grownR fiveL 3 = [tV, cV, aV, dV] := by decide +kernel
theorem grownR4 : grownR fiveL 4 = [dV] := by decide +kernel
theorem errL2 : errL [x0E, x1E] = 0 := by decide +kernel
theorem errL4 : errL [x0E, x1E, x2E, x3E] = 0 := by decide +kernel
theorem errCP0 : errCP bV 4 2 x2E [cV, aV] = 0 := by decide +kernel
theorem errCP94 : errCP bV 4 2 x3E [cV, aV] = 94 := by decide +kernel
theorem errCG94 : errCG 1 1 2 1 [] = 94 := by decide +kernel
theorem cV_u64 : U64 cV := leaf_u64 _
theorem aV_u64 : U64 aV := rootF_u64 _ _
end Go.Proofs.Ytkedodmlbepfnaa.Lg

-- from the working text Sn
set_option linter.unusedSimpArgs false
set_option linter.unusedVariables false
namespace Go.Proofs.Ytkedodmlbepfnaa.Lg
open Go.RowKit Go.Proofs.YtkedodmlbepfnaaW.PrintWords Go.Proofs.YtkedodmlbepfnaaW.PrintLast Go.Proofs.YtkedodmlbepfnaaW.PrintMore Go.Proofs.Ytkedodmlbepfnaa.Rg
/-- What stands while the examples are checked: the five entries, and lists of numbers. -/
def SI (w : World) (g : Nat) (c : Nat) (Ls : List (Option Addr × Nat × List Int)) (W : World) : Prop :=
  Below w.heap.size w W ∧ Kd.C k23 W (some ⟨g, 0, none⟩) 5 fiveL ∧ 5 ≤ c ∧ ∀ x ∈ Ls, x.2.2.length ≤ x.2.1 ∧ Kd.C (Kd.int .u64) W x.1 x.2.2.length x.2.2
section
variable {w W W' : World} {g : Nat} {c : Nat} {Ls : List (Option Addr × Nat × List Int)}
theorem SI.below (h : SI w g c Ls W) (hb : Below W.heap.size W W') : SI w g c Ls W' :=
  ⟨h.1.trans (hb.mono h.1.size), Kd.C_below h.2.1 hb, h.2.2.1, fun x hx => ⟨(h.2.2.2 x hx).1, Kd.C_below (h.2.2.2 x hx).2 hb⟩⟩
theorem SI.add (h : SI w g c Ls W) {A : Option Addr} {d : Nat} {xs : List Int} (hd : xs.length ≤ d) (hC : Kd.C (Kd.int .u64) W A xs.length xs) : SI w g c ((A, d, xs) :: Ls) W :=
  ⟨h.1, h.2.1, h.2.2.1, fun x hx => (List.mem_cons.1 hx).elim (fun e => e ▸ ⟨hd, hC⟩) (h.2.2.2 x)⟩
theorem sfive (w : World) : Calls Try.prog 58 #[] w fun x w' => ∃ g c, x = .returned (.slice (some ⟨g, 0, none⟩) 5 c) ∧ SI w g c [] w' := by
  refine (acreagelaw09_five.calls 7 fiveL w five_f).mono ?_
  rintro x w' ⟨v, rfl, hR, hb⟩
  obtain ⟨L, c, rfl, hc, hC⟩ := Kd.R_reads hR
  obtain ⟨inner, ho⟩ := Kd.R_own hR
  rcases ho.2 with ⟨h2, _⟩ | ⟨g, cap, cur, hv, _⟩
  · cases h2
  · injection hv with ha _ _
    subst ha
    exact ⟨g, c, rfl, hb, hC, hc, fun x hx => by cases hx⟩
theorem SI.at (h : SI w g c Ls W) (i : Nat) (hi : i < 5) (e : S23) (he : rd_T23 fiveL (i : Int) = e) : W.cell? ⟨g, i * 3, none⟩ = some (.int .i64 e.f0) ∧ W.cell? ⟨g, i * 3 + 1, none⟩ = some (.int .i64 e.f1) ∧ W.cell? ⟨g, i * 3 + 2, none⟩ = some (.string e.f2) := by
  subst he
  obtain ⟨ad, h1, h2, h3, h4⟩ := at_T23 h.2.1 (i : Int) (by omega) (by omega)
  injection h1 with h1
  subst h1
  simp only [Int.toNat_natCast, Addr.add_mid, Nat.zero_add] at h2 h3 h4
  exact ⟨h2, h3, h4⟩
theorem SI.at2 (h : SI w g c Ls W) : W.cell? ⟨g, 6, none⟩ = some (.int .i64 0) ∧ W.cell? ⟨g, 7, none⟩ = some (.int .i64 2) ∧ W.cell? ⟨g, 8, none⟩ = some (.string ⟨#[99]⟩) := h.at 2 (by decide) x2E rfl
theorem SI.at3 (h : SI w g c Ls W) : W.cell? ⟨g, 9, none⟩ = some (.int .i64 0) ∧ W.cell? ⟨g, 10, none⟩ = some (.int .i64 3) ∧ W.cell? ⟨g, 11, none⟩ = some (.string ⟨#[100]⟩) := h.at 3 (by decide) x3E rfl
theorem SI.at4 (h : SI w g c Ls W) : W.cell? ⟨g, 12, none⟩ = some (.int .i64 0) ∧ W.cell? ⟨g, 13, none⟩ = some (.int .i64 4) ∧ W.cell? ⟨g, 14, none⟩ = some (.string ⟨#[101]⟩) := h.at 4 (by decide) x4E rfl
theorem sroot0 (h : SI w g c Ls W) : Calls Try.prog 14 #[.slice none 0 0] W fun x W' => x = .returned (.tuple #[.int .u64 14695981039346656037, .int .i64 0]) ∧ SI w g c Ls W' := by
  refine (rootX_calls [] none 0 W (Kd.C_nil _ _) (Nat.le_refl _)).mono ?_
  rintro x W' ⟨rfl, hb⟩
  exact ⟨by rw [errL0, if_pos rfl, rootS0], h.below hb⟩
theorem spath (i : Int) (n : Nat) (xs : List Int) (he : errP fiveL i = 0) (hx : pathR fiveL i = xs) (hn : n = xs.length) (h : SI w g c Ls W) : Calls Try.prog 20 #[.slice (some ⟨g, 0, none⟩) 5 c, .int .i64 i] W fun x W' => ∃ A d, x = .returned (.tuple #[.slice A n d, .int .i64 0]) ∧ SI w g c ((A, d, xs) :: Ls) W' := by
  subst hn
  refine (pathX_calls fiveL (some ⟨g, 0, none⟩) c i W h.2.1 h.2.2.1).mono ?_
  rintro x W' ⟨v, rfl, hN, hb⟩
  rw [hx] at hN
  obtain ⟨A, d, rfl, hd, hC⟩ := hN.reads
  exact ⟨A, d, by rw [he], (h.below hb).add hd hC⟩
theorem sgrown (i : Int) (n : Nat) (xs : List Int) (he : errG fiveL i = 0) (hx : grownR fiveL i = xs) (hn : n = xs.length) (h : SI w g c Ls W) : Calls Try.prog 25 #[.slice (some ⟨g, 0, none⟩) 5 c, .int .i64 i] W fun x W' => ∃ A d, x = .returned (.tuple #[.slice A n d, .int .i64 0]) ∧ SI w g c ((A, d, xs) :: Ls) W' := by
  subst hn
  refine (grownX_calls fiveL (some ⟨g, 0, none⟩) c i W h.2.1 h.2.2.1).mono ?_
  rintro x W' ⟨v, rfl, hN, hb⟩
  rw [hx] at hN
  obtain ⟨A, d, rfl, hd, hC⟩ := hN.reads
  exact ⟨A, d, by rw [he], (h.below hb).add hd hC⟩
theorem sroot2 (h : SI w g c Ls W) : Calls Try.prog 14 #[.slice (some ⟨g, 0, none⟩) 2 2] W fun x W' => x = .returned (.tuple #[.int .u64 aV, .int .i64 0]) ∧ SI w g c Ls W' := by
  have hC : Kd.C k23 W (some ⟨g, 0, none⟩) [x0E, x1E].length [x0E, x1E] := Kd.C_take (xs := fiveL) (m := 2) h.2.1 (by decide)
  refine (rootX_calls [x0E, x1E] (some ⟨g, 0, none⟩) 2 W hC (Nat.le_refl _)).mono ?_
  rintro x W' ⟨rfl, hb⟩
  exact ⟨by rw [errL2, if_pos rfl]; rfl, h.below hb⟩
theorem sroot4 (h : SI w g c Ls W) : Calls Try.prog 14 #[.slice (some ⟨g, 0, none⟩) 4 4] W fun x W' => x = .returned (.tuple #[.int .u64 bV, .int .i64 0]) ∧ SI w g c Ls W' := by
  have hC : Kd.C k23 W (some ⟨g, 0, none⟩) [x0E, x1E, x2E, x3E].length [x0E, x1E, x2E, x3E] := Kd.C_take (xs := fiveL) (m := 4) h.2.1 (by decide)
  refine (rootX_calls [x0E, x1E, x2E, x3E] (some ⟨g, 0, none⟩) 4 W hC (Nat.le_refl _)).mono ?_
  rintro x W' ⟨rfl, hb⟩
  exact ⟨by rw [errL4, if_pos rfl]; rfl, h.below hb⟩
theorem sleaf (e : S23) (a b : Int) (s : ByteArray) (y : Int) (he : e = ⟨a, b, s⟩) (hv : Valid e) (hy : leafS e = y) (h : SI w g c Ls W) : Calls Try.prog 12 #[.agg #[.int .i64 a, .int .i64 b, .string s]] W fun x W' => x = .returned (.tuple #[.int .u64 y, .int .i64 0]) ∧ SI w g c Ls W' := by
  subst he
  refine (leafX_calls ⟨a, b, s⟩ W).mono ?_
  rintro x W' ⟨rfl, hb⟩
  exact ⟨by rw [if_pos hv, hy, show errE ⟨a, b, s⟩ = 0 from if_pos hv], h.below hb⟩
theorem C_lit (W : World) (xs : List Int) (hx : xs.length ≤ 100) : Kd.C (Kd.int .u64) (W.alloc (.cells (nums .u64 xs).toArray 25)) (some ⟨W.heap.size, 0, none⟩) xs.length xs := by
  have h := own_lit W 0 25 .u64 xs (by omega) (by omega)
  exact Kd.C_of_reads (h1 := fun _ => rfl) (readsInt_of.mp (own_reads' h))
theorem SI.lit (h : SI w g c Ls W) (xs : List Int) (hx : xs.length ≤ 100) : SI w g c Ls (W.alloc (.cells (nums .u64 xs).toArray 25)) ∧ Kd.C (Kd.int .u64) (W.alloc (.cells (nums .u64 xs).toArray 25)) (some ⟨W.heap.size, 0, none⟩) xs.length xs :=
  ⟨h.below (below_alloc (Below.refl _ _) _), C_lit W xs hx⟩
theorem sequal (h : SI w g c Ls W) {A : Option Addr} {d : Nat} (xs : List Int) (hx : xs.length ≤ 100) (n : Nat) (hn : n = xs.length) (hm : (A, d, xs) ∈ Ls) : Calls Try.prog 22 #[.slice A n d, .slice (some ⟨W.heap.size, 0, none⟩) n n] (W.alloc (.cells (nums .u64 xs).toArray 25)) fun x W' => x = .returned (.bool true) ∧ SI w g c Ls W' := by
  subst hn
  obtain ⟨h2, hC⟩ := h.lit xs hx
  refine (equal_calls xs xs A _ d xs.length _ (h2.2.2.2 _ hm).2 (h2.2.2.2 _ hm).1 hC (Nat.le_refl _)).mono ?_
  rintro x W' ⟨rfl, hb⟩
  exact ⟨by rw [decide_eq_true rfl], h2.below hb⟩
theorem sequalP (h : SI w g c Ls W) {A : Option Addr} {d : Nat} (hm : (A, d, [cV, aV, dV]) ∈ Ls) : Calls Try.prog 22 #[.slice A 3 d, .slice (some ⟨W.heap.size, 0, none⟩) 3 3] (W.alloc (.cells #[.int .u64 cV, .int .u64 aV, .int .u64 dV] 25)) fun x W' => x = .returned (.bool true) ∧ SI w g c Ls W' := sequal h [cV, aV, dV] (by decide) 3 rfl hm
theorem sequalQ (h : SI w g c Ls W) {A : Option Addr} {d : Nat} (hm : (A, d, [bV]) ∈ Ls) : Calls Try.prog 22 #[.slice A 1 d, .slice (some ⟨W.heap.size, 0, none⟩) 1 1] (W.alloc (.cells #[.int .u64 bV] 25)) fun x W' => x = .returned (.bool true) ∧ SI w g c Ls W' := sequal h [bV] (by decide) 1 rfl hm
theorem sequalX (h : SI w g c Ls W) {A : Option Addr} {d : Nat} (hm : (A, d, [tV, cV, aV, dV]) ∈ Ls) : Calls Try.prog 22 #[.slice A 4 d, .slice (some ⟨W.heap.size, 0, none⟩) 4 4] (W.alloc (.cells #[.int .u64 tV, .int .u64 cV, .int .u64 aV, .int .u64 dV] 25)) fun x W' => x = .returned (.bool true) ∧ SI w g c Ls W' := sequal h [tV, cV, aV, dV] (by decide) 4 rfl hm
theorem sequalY (h : SI w g c Ls W) {A : Option Addr} {d : Nat} (hm : (A, d, [dV]) ∈ Ls) : Calls Try.prog 22 #[.slice A 1 d, .slice (some ⟨W.heap.size, 0, none⟩) 1 1] (W.alloc (.cells #[.int .u64 dV] 25)) fun x W' => x = .returned (.bool true) ∧ SI w g c Ls W' := sequal h [dV] (by decide) 1 rfl hm
theorem scheck (h : SI w g c Ls W) (e : S23) (a b : Int) (s : ByteArray) (r : Int) (he : e = ⟨a, b, s⟩) (hr : errCP bV 4 2 e [cV, aV] = r) : Calls Try.prog 23 #[.int .u64 bV, .int .i64 4, .int .i64 2, .agg #[.int .i64 a, .int .i64 b, .string s], .slice (some ⟨W.heap.size, 0, none⟩) 2 2] (W.alloc (.cells #[.int .u64 cV, .int .u64 aV] 25)) fun x W' => x = .returned (.int .i64 r) ∧ SI w g c Ls W' := by
  subst he
  obtain ⟨h2, hC⟩ := h.lit [cV, aV] (by decide)
  refine (checkPathX_calls bV 4 2 ⟨a, b, s⟩ [cV, aV] (some ⟨W.heap.size, 0, none⟩) 2 _ hC (by decide) (by decide) (fun y hy => ?_)).mono ?_
  · rcases List.mem_cons.1 hy with rfl | hy
    · exact cV_u64
    · rcases List.mem_cons.1 hy with rfl | hy
      · exact aV_u64
      · cases hy
  · rintro x W' ⟨rfl, hb⟩
    exact ⟨by rw [hr], h2.below hb⟩
theorem scheck2 (h : SI w g c Ls W) : Calls Try.prog 23 #[.int .u64 bV, .int .i64 4, .int .i64 2, .agg #[.int .i64 0, .int .i64 2, .string ⟨#[99]⟩], .slice (some ⟨W.heap.size, 0, none⟩) 2 2] (W.alloc (.cells #[.int .u64 cV, .int .u64 aV] 25)) fun x W' => x = .returned (.int .i64 0) ∧ SI w g c Ls W' := scheck h x2E 0 2 ⟨#[99]⟩ 0 rfl errCP0
theorem scheck3 (h : SI w g c Ls W) : Calls Try.prog 23 #[.int .u64 bV, .int .i64 4, .int .i64 2, .agg #[.int .i64 0, .int .i64 3, .string ⟨#[100]⟩], .slice (some ⟨W.heap.size, 0, none⟩) 2 2] (W.alloc (.cells #[.int .u64 cV, .int .u64 aV] 25)) fun x W' => x = .returned (.int .i64 94) ∧ SI w g c Ls W' := scheck h x3E 0 3 ⟨#[100]⟩ 94 rfl errCP94
theorem scheckG (h : SI w g c Ls W) : Calls Try.prog 27 #[.int .u64 1, .int .i64 1, .int .u64 2, .int .i64 1, .slice none 0 0] W fun x W' => x = .returned (.int .i64 94) ∧ SI w g c Ls W' := by
  refine (checkGrownX_calls 1 1 2 1 [] none 0 W (Kd.C_nil _ _) (by decide) (by decide) (by unfold U64; omega) (fun y hy => by cases hy)).mono ?_
  rintro x W' ⟨rfl, hb⟩
  exact ⟨by rw [errCG94], h.below hb⟩
end
end Go.Proofs.Ytkedodmlbepfnaa.Lg

-- from the working text Sm
set_option linter.unusedSimpArgs false
set_option linter.unusedVariables false
namespace Go.Proofs.Ytkedodmlbepfnaa.Lg
open Go.RowKit Go.Proofs.YtkedodmlbepfnaaW.PrintWords Go.Proofs.YtkedodmlbepfnaaW.PrintLast Go.Proofs.YtkedodmlbepfnaaW.PrintMore Go.Proofs.Ytkedodmlbepfnaa.Rg
/-- What stands while the book is used. -/
def SJ (w : World) (gb gd : Nat) (e0 : Value) (used nE : Nat) (xs : List Value) (W : World) : Prop :=
  Below w.heap.size w W ∧ BK w.heap.size W gb gd 8 e0 (used : Int) 0 nE xs 0
section
variable {w W W' : World} {gb gd used nE : Nat} {e0 : Value} {xs : List Value}
theorem SJ.below (h : SJ w gb gd e0 used nE xs W) (hb : Below W.heap.size W W') : SJ w gb gd e0 used nE xs W' := ⟨h.1.trans (hb.mono h.1.size), h.2.below hb⟩
theorem sdisk (h : Below w.heap.size w W) : Calls Try.prog 29 #[.int .i64 8] W fun x W' => ∃ gd, x = .returned (.tuple #[.pointer (some ⟨gd, 0, none⟩), .int .i64 0]) ∧ Below w.heap.size w W' ∧ GD W' (fun k => w.heap.size ≤ k) gd 8 0 0 := by
  refine (newDisk_calls 8 W (by decide) (by decide)).mono ?_
  rintro x W' ⟨g, vs, vn, vw, rfl, hd, hb⟩
  exact ⟨g, rfl, h.trans (hb.mono h.size), GD.mono (show GD W' (fun k => W.heap.size ≤ k) g 8 0 0 from ⟨_, vs, vn, vw, hd, rfl, rfl, rfl, rfl, Nat.le_refl _⟩) fun k hk => Nat.le_trans h.size hk⟩
theorem smake (h : Below w.heap.size w W) (hg : GD W (fun k => w.heap.size ≤ k) gd 8 0 0) : Calls Try.prog 59 #[.pointer (some ⟨gd, 0, none⟩), .int .i64 2] W fun x W' => ∃ gb, x = .returned (.tuple #[.pointer (some ⟨gb, 0, none⟩), .int .i64 0]) ∧ SJ w gb gd (.slice none 0 0) 1 0 [] W' := by
  refine (make_calls W _ gd 8 0 hg (by decide) (by decide) (by decide)).mono ?_
  rintro x W' ⟨gb, Sd, rfl, hd, _, hS, hgb, hbk, hkp⟩
  refine ⟨gb, rfl, h.trans (hkp.to_below (fun k hk => hk) h.size), Nat.le_trans h.size hgb, hbk, hd.mono fun i hi => (hS i hi).elim id (fun hi => Nat.le_trans h.size hi), Own.nil _ _ _ _⟩
theorem sroom (h : SJ w gb gd e0 used nE xs W) (hu : used ≤ 8) (r : Int) (hr : (8 : Int) - (used : Int) = r) : Calls Try.prog 60 #[.pointer (some ⟨gb, 0, none⟩)] W fun x W' => x = .returned (.int .i64 r) ∧ SJ w gb gd e0 used nE xs W' ∧ Below W.heap.size W W' := by
  refine (room_calls W _ gb gd 8 0 e0 used 0 0 h.2.2.1 h.2.2.2.1 (by omega) (by omega) (by decide)).mono ?_
  rintro x W' ⟨rfl, hb⟩
  exact ⟨by rw [← hr]; rfl, h.below hb, hb⟩
theorem sadd (h : SJ w gb gd e0 used nE xs W) (s : ByteArray) (no : Int) (hno : no = (nE : Int)) (u2 n2 : Nat) (ys : List Value) (hn2 : n2 = nE + 1) (hu2 : u2 = used + (1 + (s.size + 6) / 64)) (hys : ys = xs ++ [.int .i64 0, .int .i64 no, .string s]) (hn : nE ≤ 60) (hs : s.size ≤ 2400) (hat : used + 1 + (s.size + 6) / 64 ≤ 8) :
    Calls Try.prog 61 #[.pointer (some ⟨gb, 0, none⟩), .agg #[.int .i64 0, .int .i64 no, .string s]] W fun x W' => x = .returned (.int .i64 0) ∧ ∃ e1, SJ w gb gd e1 u2 n2 ys W' := by
  subst hno hn2 hu2 hys
  refine (addA_calls w.heap.size W gb gd 8 nE 0 used e0 0 xs s h.2 h.1.size (by decide) (by decide) (by decide) hn hs hat).mono ?_
  rintro x W' ⟨rfl, e1, hbk, hb⟩
  exact ⟨rfl, e1, h.1.trans hb, by rw [show ((used + (1 + (s.size + 6) / 64) : Nat) : Int) = (used : Int) + ((1 + (s.size + 6) / 64 : Nat) : Int) by omega]; exact hbk⟩
/-- A string of 58 zeros. -/
def z58 : ByteArray := strOfNums (List.replicate 58 0)
theorem z58_size : z58.size = 58 := by unfold z58; rw [strOfNums_size]; rfl
def ysA : List Value := [.int .i64 0, .int .i64 0, .string ⟨#[97]⟩]
def ysB : List Value := [.int .i64 0, .int .i64 0, .string ⟨#[97]⟩, .int .i64 0, .int .i64 1, .string z58]
def ysC : List Value := [.int .i64 0, .int .i64 0, .string ⟨#[65]⟩, .int .i64 0, .int .i64 1, .string z58]
theorem sadd1 (h : SJ w gb gd e0 1 0 [] W) : Calls Try.prog 61 #[.pointer (some ⟨gb, 0, none⟩), .agg #[.int .i64 0, .int .i64 0, .string ⟨#[97]⟩]] W fun x W' => x = .returned (.int .i64 0) ∧ ∃ e1, SJ w gb gd e1 2 1 ysA W' :=
  sadd h ⟨#[97]⟩ 0 rfl 2 1 ysA rfl rfl rfl (by decide) (by decide) (by decide)
theorem sadd2 (h : SJ w gb gd e0 2 1 ysA W) : Calls Try.prog 61 #[.pointer (some ⟨gb, 0, none⟩), .agg #[.int .i64 0, .int .i64 1, .string z58]] W fun x W' => x = .returned (.int .i64 0) ∧ ∃ e1, SJ w gb gd e1 4 2 ysB W' :=
  sadd h z58 1 rfl 4 2 ysB rfl (by rw [z58_size]) rfl (by decide) (by rw [z58_size]; decide) (by rw [z58_size]; decide)
theorem stake (h : SJ w gb gd e0 4 2 ysB W) : Calls Try.prog 62 #[.pointer (some ⟨gb, 0, none⟩), .slice (some ⟨W.heap.size, 0, none⟩) 1 1] (W.alloc (.cells #[.int .i64 0, .int .i64 0, .string ⟨#[65]⟩] 23)) fun x W' => x = .returned (.tuple #[.int .i64 1, .int .i64 0]) ∧ ∃ e1, SJ w gb gd e1 5 2 ysC W' := by
  have h2 := h.below (below_alloc (Below.refl _ W) (.cells #[.int .i64 0, .int .i64 0, .string ⟨#[65]⟩] 23))
  refine (takeB_calls w.heap.size _ gb gd 8 0 4 W.heap.size e0 0 (.int .i64 0) (.int .i64 0) ⟨#[97]⟩ [.int .i64 0, .int .i64 1, .string z58] ⟨#[65]⟩ h2.2 h2.1.size (by decide) (by decide) (by decide) (by decide) (by decide) (by decide +kernel) (blk_new W _)).mono ?_
  rintro x W' ⟨rfl, e1, hbk, hb⟩
  exact ⟨rfl, e1, h2.1.trans hb, hbk⟩
theorem sall (h : SJ w gb gd e0 5 2 ysC W) : Calls Try.prog 63 #[.pointer (some ⟨gb, 0, none⟩)] W fun x W' => ∃ g c, x = .returned (.slice (some ⟨g, 0, none⟩) 2 c) ∧ SJ w gb gd e0 5 2 ysC W' ∧ W'.cell? ⟨g, 0, none⟩ = some (.int .i64 0) ∧ W'.cell? ⟨g, 1, none⟩ = some (.int .i64 0) ∧ W'.cell? ⟨g, 2, none⟩ = some (.string ⟨#[65]⟩) := by
  refine (all_calls W _ gb gd e0 _ 0 2 ysC h.2.2.1 h.2.2.2.2 (by decide) (by decide) (by intro u hu; simp only [ysC, List.mem_cons, List.not_mem_nil, or_false] at hu; rcases hu with rfl | rfl | rfl | rfl | rfl | rfl <;> rfl)).mono ?_
  rintro x W' ⟨v, rfl, ho, hb⟩
  rcases ho.2 with ⟨_, h2⟩ | ⟨g, cap, cur, rfl, _, hg, hnc, _, hcs, ht⟩
  · cases h2
  · have hcell : ∀ (i : Nat) (u : Value), ysC[i]? = some u → cur[i]? = some u := by
      intro i u hi
      rw [← ht, List.getElem?_take] at hi
      split at hi
      · rw [← Array.getElem?_toList]; exact hi
      · cases hi
    exact ⟨g, cap, rfl, h.below hb, (blk_cell hg 0).trans (hcell 0 _ rfl), (blk_cell hg 1).trans (hcell 1 _ rfl), (blk_cell hg 2).trans (hcell 2 _ rfl)⟩
end
end Go.Proofs.Ytkedodmlbepfnaa.Lg

-- from the working text Sa
set_option linter.unusedSimpArgs false
set_option linter.unusedVariables false
namespace Go.Proofs.Ytkedodmlbepfnaa.Lg
open Go.RowKit Go.Proofs.YtkedodmlbepfnaaW.PrintWords Go.Proofs.YtkedodmlbepfnaaW.PrintLast Go.Proofs.YtkedodmlbepfnaaW.PrintMore Go.Proofs.Ytkedodmlbepfnaa.Rg
set_option maxHeartbeats 8000000 in
set_option maxRecDepth 100000 in
theorem sane_calls (w : World) : Calls Try.prog 10 #[] w fun e w' => e = .returned (.bool true) ∧ Below w.heap.size w w' := by
  obtain ⟨i0, hi, hz0, hz1, hz2⟩ := info_parts info23
  have kcv : ∀ W : World, (convert 88 9 (.slice (some ⟨W.heap.size, 0, none⟩) 58 58)).run Try.prog (W.alloc (.cells (madeCells #[.int .u8 0] 58) 5)) = .ok (.string z58) (W.alloc (.cells (madeCells #[.int .u8 0] 58) 5)) := fun W =>
    run_convert_bytes_arg (P := Try.prog) _ 88 5 Try.underlying88 Try.underlying5 W.heap.size 0 58 58 (List.replicate 58 0) (by simp) (fun i hi => (blk_cell (blk_new W _) (0 + i)).trans (by rw [Nat.zero_add, show madeCells #[.int .u8 0] 58 = Array.replicate 58 (.int .u8 0) from by kernel_rfl, Array.getElem?_replicate, if_pos hi, List.getD_eq_getElem?_getD, List.getElem?_replicate, if_pos hi]; rfl)) 9 Try.underlying9
  obtain ⟨i5, h5, h50, h51, h52⟩ := info_parts info5
  have kmk : ∀ W : World, (Instr.makeSlice 88 (.int .i64 58) (.int .i64 58)).run Try.prog W = .ok (.slice (some ⟨W.heap.size, 0, none⟩) 58 58) (W.alloc (.cells (madeCells #[.int .u8 0] 58) 5)) := by
    intro W
    have h := run_make (P := Try.prog) W 88 5 i5 (.int .u8 0) Try.underlying88 h5 h50 .i64 .i64 58 58 (by omega) (Int.le_refl _) (by rw [h52]; decide) (by decide)
    rw [h51] at h
    exact h
  go_enter Try.func10, Try.ntmps10
  go_wp2_with (first
    | (go_at_call 58; (with_reducible refine (sfive w).mono ?_); rintro x w1 ⟨g, c, rfl, hs⟩; have hc := hs.2.2.1; have cut2 : ∀ W : World, (Instr.slice 24 (.slice (some ⟨g, 0, none⟩) 5 c) none (some (.int .i64 2)) (some (.int .i64 2))).run Try.prog W = .ok (.slice (some ⟨g, 0, none⟩) 2 2) W := cut_to3 24 23 .i64 .i64 Try.underlying24 hi (some ⟨g, 0, none⟩) 5 c 2 (by omega); have cut4 : ∀ W : World, (Instr.slice 24 (.slice (some ⟨g, 0, none⟩) 5 c) none (some (.int .i64 4)) (some (.int .i64 4))).run Try.prog W = .ok (.slice (some ⟨g, 0, none⟩) 4 4) W := cut_to3 24 23 .i64 .i64 Try.underlying24 hi (some ⟨g, 0, none⟩) 5 c 4 (by omega); clear hc; have HS := Aside0.mk hs; clear hs)
    | (go_at_call 14; (with_reducible refine (sroot0 HS.out).mono ?_); rintro x w1 ⟨rfl, hs⟩; clear HS; have HS := Aside0.mk hs; clear hs)
    | (go_at_call 20; (with_reducible refine (spath 2 3 [cV, aV, dV] errP2 pathR2 rfl HS.out).mono ?_); rintro x w1 ⟨Ap, cp, rfl, hs⟩; clear HS; have HS := Aside0.mk hs; clear hs)
    | (go_at_call 20; (with_reducible refine (spath 4 1 [bV] errP4 pathR4 rfl HS.out).mono ?_); rintro x w1 ⟨Aq, cq, rfl, hs⟩; clear HS; have HS := Aside0.mk hs; clear hs)
    | (go_at_call 14; (with_reducible refine (sroot2 HS.out).mono ?_); rintro x w1 ⟨rfl, hs⟩; clear HS; have HS := Aside0.mk hs; clear hs)
    | (go_at_call 14; (with_reducible refine (sroot4 HS.out).mono ?_); rintro x w1 ⟨rfl, hs⟩; clear HS; obtain ⟨c0, c1, c2⟩ := hs.at3; have HS := Aside0.mk hs; clear hs)
    | (go_at_call 12; (with_reducible refine (sleaf x3E 0 3 ⟨#[100]⟩ cV rfl (by decide) rfl HS.out).mono ?_); rintro x w1 ⟨rfl, hs⟩; clear HS c0 c1 c2; obtain ⟨c0, c1, c2⟩ := hs.at4; have HS := Aside0.mk hs; clear hs)
    | (go_at_call 12; (with_reducible refine (sleaf x4E 0 4 ⟨#[101]⟩ dV rfl (by decide) rfl HS.out).mono ?_); rintro x w1 ⟨rfl, hs⟩; clear HS c0 c1 c2; obtain ⟨c0, c1, c2⟩ := hs.at2; have HS := Aside0.mk hs; clear hs)
    | (go_at_call 12; (with_reducible refine (sleaf x2E 0 2 ⟨#[99]⟩ tV rfl (by decide) rfl HS.out).mono ?_); rintro x w1 ⟨rfl, hs⟩; clear HS c0 c1 c2; have HS := Aside0.mk hs; clear hs)
    | (go_at_call 25; (with_reducible refine (sgrown 3 4 [tV, cV, aV, dV] errG3 grownR3 rfl HS.out).mono ?_); rintro x w1 ⟨Ax, cx, rfl, hs⟩; clear HS; have HS := Aside0.mk hs; clear hs)
    | (go_at_call 25; (with_reducible refine (sgrown 4 1 [dV] errG4 grownR4 rfl HS.out).mono ?_); rintro x w1 ⟨Ay, cy, rfl, hs⟩; clear HS; have HS := Aside0.mk hs; clear hs)
    | (go_at_call 22; (with_reducible refine (sequalP HS.out (A := Ap) (by simp)).mono ?_); rintro x w1 ⟨rfl, hs⟩; clear HS; have HS := Aside0.mk hs; clear hs)
    | (go_at_call 22; (with_reducible refine (sequalQ HS.out (A := Aq) (by simp)).mono ?_); rintro x w1 ⟨rfl, hs⟩; clear HS; have HS := Aside0.mk hs; clear hs)
    | (go_at_call 22; (with_reducible refine (sequalX HS.out (A := Ax) (by simp)).mono ?_); rintro x w1 ⟨rfl, hs⟩; clear HS; have HS := Aside0.mk hs; clear hs)
    | (go_at_call 22; (with_reducible refine (sequalY HS.out (A := Ay) (by simp)).mono ?_); rintro x w1 ⟨rfl, hs⟩; clear HS; obtain ⟨c0, c1, c2⟩ := hs.at2; have HS := Aside0.mk hs; clear hs)
    | (go_at_call 23; (with_reducible refine (scheck2 HS.out).mono ?_); rintro x w1 ⟨rfl, hs⟩; clear HS c0 c1 c2; obtain ⟨c0, c1, c2⟩ := hs.at3; have HS := Aside0.mk hs; clear hs)
    | (go_at_call 23; (with_reducible refine (scheck3 HS.out).mono ?_); rintro x w1 ⟨rfl, hs⟩; clear HS c0 c1 c2; have HS := Aside0.mk hs; clear hs)
    | (go_at_call 27; (with_reducible refine (scheckG HS.out).mono ?_); rintro x w1 ⟨rfl, hs⟩; clear HS; have HW := Aside0.mk hs.1; clear hs)
    | (go_at_call 29; (with_reducible refine (sdisk HW.out).mono ?_); rintro x w1 ⟨gd, rfl, hs, hg⟩; clear HW; have HW := Aside0.mk hs; have HG := Aside0.mk hg; clear hs hg)
    | (go_at_call 59; (with_reducible refine (smake HW.out HG.out).mono ?_); rintro x w1 ⟨gb, rfl, hs⟩; clear HW HG; have HJ := Aside0.mk hs; clear hs)
    | (go_at_call 60; (with_reducible refine (sroom HJ.out (by decide) 7 (by decide)).mono ?_); rintro x w1 ⟨rfl, hs, -⟩; clear HJ; have HJ := Aside0.mk hs; clear hs)
    | (go_at_call 61; (with_reducible refine (sadd1 HJ.out).mono ?_); rintro x w1 ⟨rfl, e1, hs⟩; clear HJ; have HJ := Aside0.mk hs; clear hs)
    | (go_at_call 60; (with_reducible refine (sroom HJ.out (by decide) 6 (by decide)).mono ?_); rintro x w1 ⟨rfl, hs, -⟩; clear HJ; have HJ := Aside0.mk hs; clear hs)
    | (go_at_call 61; have HJ2 := Aside0.mk (HJ.out.below (below_alloc (Below.refl _ _) (.cells (madeCells #[.int .u8 0] 58) 5))); (with_reducible refine (sadd2 HJ2.out).mono ?_); rintro x w1 ⟨rfl, e2, hs⟩; clear HJ HJ2; have HJ := Aside0.mk hs; clear hs)
    | (go_at_call 62; (with_reducible refine (stake HJ.out).mono ?_); rintro x w1 ⟨rfl, e3, hs⟩; clear HJ; have HJ := Aside0.mk hs; have cb0 := (blk_cell hs.2.2.1 0).trans rfl; clear hs)
    | (go_at_call 63; (with_reducible refine (sall HJ.out).mono ?_); rintro x w1 ⟨ga, ca, rfl, hs, k0, k1, k2⟩; clear HJ; have HJ := Aside0.mk hs; clear hs)
    | (go_at_call 60; (with_reducible refine (sroom HJ.out (by decide) 3 (by decide)).mono ?_); rintro x w2 ⟨rfl, hs, hb⟩; replace k0 := (hb.cell (World.block_lt_of_cell? _ _ k0)).trans k0; replace k1 := (hb.cell (World.block_lt_of_cell? _ _ k1)).trans k1; replace k2 := (hb.cell (World.block_lt_of_cell? _ _ k2)).trans k2; clear HJ; have HJ := Aside0.mk hs; clear hs hb))
  go_ret
  exact ⟨rfl, HJ.out.1⟩
end Go.Proofs.Ytkedodmlbepfnaa.Lg

-- from the working text Tw
set_option linter.unusedSimpArgs false
set_option linter.unusedVariables false
namespace Go.Proofs.Ytkedodmlbepfnaa.Lg
open Go.RowKit Go.Proofs.YtkedodmlbepfnaaW.PrintWords Go.Proofs.YtkedodmlbepfnaaW.PrintLast Go.Proofs.YtkedodmlbepfnaaW.PrintMore Go.Proofs.Ytkedodmlbepfnaa.Rg
/-- A block of the reference disk's. -/
def TZ (w : World) (k : Nat) : Prop := ∃ cs t z, w.heap[k]? = some (.cells cs t z) ∧ (t = 118 ∨ t = 9 ∨ t = 126)
theorem TZ.not {w : World} {k : Nat} {cs : Array Value} {t : TypeId} {z : Nat × Nat} (h : w.heap[k]? = some (.cells cs t z)) (h1 : t ≠ 118) (h2 : t ≠ 9) (h3 : t ≠ 126) : ¬ TZ w k := by
  rintro ⟨cs', t', z', h', ht⟩
  rw [h] at h'
  injection h' with h'
  injection h' with _ h' _
  subst h'
  rcases ht with ht | ht | ht
  · exact h1 ht
  · exact h2 ht
  · exact h3 ht
theorem TZ.ty {w : World} {k : Nat} (h : TZ w k) : ¬ TY w k := by
  obtain ⟨cs, t, z, hb, ht⟩ := h
  rcases ht with rfl | rfl | rfl
  · exact TY.not hb (by decide) (by decide) (by decide)
  · exact TY.not hb (by decide) (by decide) (by decide)
  · exact TY.not hb (by decide) (by decide) (by decide)
theorem Own.typedZ {w : World} {S : Nat → Prop} {e : TypeId} {size n : Nat} {v : Value} {xs : List Value} (h : Own w S e size v n xs) (he : e = 118 ∨ e = 9 ∨ e = 126) : Own w (fun i => S i ∧ TZ w i) e size v n xs := by
  refine ⟨h.1, fun k hk => ⟨h.2 k hk, ?_⟩⟩
  obtain ⟨c, hc⟩ := own_typed h.1 k hk
  exact ⟨_, _, _, hc, he⟩
theorem DiskAt.typed {w : World} {S : Nat → Prop} {g : Nat} {d : DS} {vs vn vw : Value} (h : DiskAt w S g d vs vn vw) : DiskAt w (fun i => S i ∧ TY w i) g d vs vn vw := by
  obtain ⟨h1, h2, h3, h4, h5, h6, h7⟩ := h
  exact ⟨h1, ⟨h2, _, _, _, h3, .inl rfl⟩, h3, h4.typed (.inr (.inl rfl)), h5.typed (.inr (.inl rfl)), h6.typed (.inr (.inr rfl)), h7⟩
theorem RAt.typed {w : World} {S : Nat → Prop} {g : Nat} {d : DS} {vs vn vw : Value} (h : RAt w S g d vs vn vw) : RAt w (fun i => S i ∧ TZ w i) g d vs vn vw := by
  obtain ⟨h1, h2, ⟨life, h3⟩, h4, h5, h6, h7⟩ := h
  exact ⟨h1, ⟨h2, _, _, _, h3, .inl rfl⟩, ⟨life, h3⟩, h4.typedZ (.inr (.inl rfl)), h5.typedZ (.inr (.inl rfl)), h6.typedZ (.inr (.inr rfl)), h7⟩
def SP (w0 W : World) (k : Nat) : Prop := w0.heap.size ≤ k ∧ TY W k
def SR (w0 W : World) (k : Nat) : Prop := w0.heap.size ≤ k ∧ TZ W k
/-- Blocks of neither stand. -/
def Bx (W W' : World) : Prop := ∀ (k : Nat) (cs : Array Value), W.heap[k]? = some (Obj.cells cs 52 (0, 0)) → W'.heap[k]? = some (Obj.cells cs 52 (0, 0))
theorem Bx.trans {a b c : World} (h : Bx a b) (k : Bx b c) : Bx a c := fun i cs e => k i cs (h i cs e)
theorem Bx.below {W W' : World} (h : Below W.heap.size W W') : Bx W W' := fun k cs e => (h.block k (blk_lt e)).trans e
structure Two (w0 W : World) (g g2 : Nat) (d e : DS) : Prop where
  below : Below w0.heap.size w0 W
  prog : ∃ vs vn vw, DiskAt W (SP w0 W) g d vs vn vw
  ref : ∃ vs vn vw, RAt W (SR w0 W) g2 e vs vn vw
section
variable {w0 W W' : World} {g g2 : Nat} {d e d' e' : DS}
theorem Two.stepP (h : Two w0 W g g2 d e) (hd : ∃ vs vn vw, DiskAt W' (Nw (SP w0 W) W) g d' vs vn vw) (hk : Kp (SP w0 W) W W') : Two w0 W' g g2 d' e ∧ Bx W W' := by
  obtain ⟨hb, hp, us, un, uw, hr⟩ := h
  obtain ⟨vs, vn, vw, hd⟩ := hd
  refine ⟨⟨hb.trans (hk.to_below (fun k hk => hk.1) hb.size), ⟨vs, vn, vw, hd.typed.mono fun k hk => ⟨hk.1.elim (fun h => h.1) (fun h => Nat.le_trans hb.size h), hk.2⟩⟩, us, un, uw, ?_⟩, ?_⟩
  · exact (hr.kp hk fun k hk _ hs => hk.2.ty hs.2).typed.mono fun k hk => ⟨hk.1.1, hk.2⟩
  · intro k cs hc
    exact (hk.block k (blk_lt hc) fun hs => TY.not hc (by decide) (by decide) (by decide) hs.2).trans hc
theorem Two.stepR (h : Two w0 W g g2 d e) (hd : ∃ vs vn vw, RAt W' (Nw (SR w0 W) W) g2 e' vs vn vw) (hk : Kp (SR w0 W) W W') : Two w0 W' g g2 d e' ∧ Bx W W' := by
  obtain ⟨hb, ⟨us, un, uw, hr⟩, hp⟩ := h
  obtain ⟨vs, vn, vw, hd⟩ := hd
  refine ⟨⟨hb.trans (hk.to_below (fun k hk => hk.1) hb.size), ⟨us, un, uw, ?_⟩, ⟨vs, vn, vw, hd.typed.mono fun k hk => ⟨hk.1.elim (fun h => h.1) (fun h => Nat.le_trans hb.size h), hk.2⟩⟩⟩, ?_⟩
  · exact (hr.kp hk fun k hk _ hs => hs.2.ty hk.2).typed.mono fun k hk => ⟨hk.1.1, hk.2⟩
  · intro k cs hc
    exact (hk.block k (blk_lt hc) fun hs => TZ.not hc (by decide) (by decide) (by decide) hs.2).trans hc
theorem Two.later (h : Two w0 W g g2 d e) (hB : Below W.heap.size W W') : Two w0 W' g g2 d e ∧ Bx W W' := by
  obtain ⟨hb, ⟨us, un, uw, hr⟩, vs, vn, vw, hd⟩ := h
  exact ⟨⟨hb.trans (hB.mono hb.size), ⟨us, un, uw, (hr.below hB).typed.mono fun k hk => ⟨hk.1.1, hk.2⟩⟩, vs, vn, vw, (hd.below hB).typed.mono fun k hk => ⟨hk.1.1, hk.2⟩⟩, Bx.below hB⟩
end
/-- How far a disk has come in k steps. -/
structure Far (d : DS) (k : Nat) : Prop where
  inv : d.Inv
  falls : d.falls ≤ k
  wr : d.wr.length ≤ k
theorem Far.more {d : DS} {k : Nat} (h : Far d k) : Far d (k + 1) := ⟨h.inv, by have := h.falls; omega, by have := h.wr; omega⟩
theorem Far.fails {d : DS} {k : Nat} (h : Far d k) : Far d.fails.2 (k + 1) := by
  obtain ⟨e1, e2, e3⟩ := d.fails_same
  refine ⟨by unfold DS.Inv; rw [e1, e2, e3]; exact h.inv, ?_, by rw [e3]; exact h.more.wr⟩
  have := h.falls
  unfold DS.fails
  split
  · show d.falls ≤ _; omega
  · split
    · show d.falls ≤ _; omega
    · show d.falls + 1 ≤ _; omega
theorem Far.write {d : DS} {k : Nat} (h : Far d k) (i : Int) (s : ByteArray) : Far (d.write i s).2 (k + 1) := by
  unfold DS.write
  split
  · exact h.more
  · split
    · exact h.more
    · have hp : (d.put i.toNat (bytesOf s)).Inv := by
        show d.now.set i.toNat (bytesOf s) = (d.wr ++ [((i.toNat : Int), bytesOf s)]).foldl ap d.safe
        rw [List.foldl_append, ← h.inv]
        rfl
      obtain ⟨e1, e2, e3⟩ := (d.put i.toNat (bytesOf s)).fails_same
      refine ⟨by unfold DS.Inv; rw [e1, e2, e3]; exact hp, ?_, ?_⟩
      · have := h.falls
        show (d.put i.toNat (bytesOf s)).fails.2.falls ≤ _
        unfold DS.fails
        split
        · show d.falls ≤ _; omega
        · split
          · show d.falls ≤ _; omega
          · show d.falls + 1 ≤ _; omega
      · have := h.wr
        show (d.put i.toNat (bytesOf s)).fails.2.wr.length ≤ _
        rw [e3]
        show (d.wr ++ [((i.toNat : Int), bytesOf s)]).length ≤ _
        rw [List.length_append]
        show d.wr.length + 1 ≤ _
        omega
theorem Far.sync {d : DS} {k : Nat} (h : Far d k) : Far d.sync.2 (k + 1) := by
  unfold DS.sync
  split
  · exact h.more
  · split
    · exact h.fails
    · exact ⟨rfl, h.fails.falls, Nat.zero_le _⟩
theorem Far.arm {d : DS} {k : Nat} (h : Far d k) (n : Int) : Far { d with armed := n } (k + 1) := ⟨h.inv, h.more.falls, h.more.wr⟩
theorem Far.restart {d : DS} {k : Nat} (h : Far d k) (keep : ByteArray) : Far (d.restart keep) (k + 1) := by
  have := h.falls
  refine ⟨DS.restart_inv d keep, ?_, Nat.zero_le _⟩
  show (if d.down = true then d.falls else d.falls + 1) ≤ _
  split <;> omega
theorem Far.new (n : Nat) : Far (DS.new n) 0 := ⟨rfl, Int.le_refl 0, Nat.le_refl 0⟩
section
variable {w0 W : World} {g g2 k : Nat} {d e : DS}
theorem Two.c31 (h : Two w0 W g g2 d e) (f : Far d k) (hk : k ≤ 1000) (i : Int) (s : ByteArray) : Calls Try.prog 31 #[.pointer (some ⟨g, 0, none⟩), .int .i64 i, .string s] W fun x W' => x = .returned (.int .i64 (d.write i s).1) ∧ Two w0 W' g g2 (d.write i s).2 e ∧ Bx W W' := by
  obtain ⟨vs, vn, vw, hd⟩ := h.prog
  refine (write_calls W _ g d vs vn vw i s hd (by have := f.falls; omega) (by have := f.wr; omega)).mono ?_
  rintro x W' ⟨vs', vn', vw', rfl, hd', hk'⟩
  exact ⟨rfl, h.stepP ⟨vs', vn', vw', hd'⟩ hk'⟩
theorem Two.c33 (h : Two w0 W g g2 d e) (f : Far e k) (hk : k ≤ 1000) (i : Int) (s : ByteArray) : Calls Try.prog 33 #[.pointer (some ⟨g2, 0, none⟩), .int .i64 i, .string s] W fun x W' => x = .returned (.int .i64 (e.write i s).1) ∧ Two w0 W' g g2 d (e.write i s).2 ∧ Bx W W' := by
  obtain ⟨vs, vn, vw, hd⟩ := h.ref
  refine (rwrite_calls W _ g2 e vs vn vw i s hd (by have := f.wr; omega)).mono ?_
  rintro x W' ⟨vs', vn', vw', rfl, hd', hk'⟩
  exact ⟨rfl, h.stepR ⟨vs', vn', vw', hd'⟩ hk'⟩
theorem Two.c34 (h : Two w0 W g g2 d e) (f : Far d k) (hk : k ≤ 1000) : Calls Try.prog 34 #[.pointer (some ⟨g, 0, none⟩)] W fun x W' => x = .returned (.int .i64 d.sync.1) ∧ Two w0 W' g g2 d.sync.2 e ∧ Bx W W' := by
  obtain ⟨vs, vn, vw, hd⟩ := h.prog
  refine (sync_calls W _ g d vs vn vw hd (by have := f.falls; omega)).mono ?_
  rintro x W' ⟨vs', vn', vw', rfl, hd', hk'⟩
  exact ⟨rfl, h.stepP ⟨vs', vn', vw', hd'⟩ hk'⟩
theorem Two.c35 (h : Two w0 W g g2 d e) (f : Far e k) (hk : k ≤ 1000) : Calls Try.prog 35 #[.pointer (some ⟨g2, 0, none⟩)] W fun x W' => x = .returned (.int .i64 e.sync.1) ∧ Two w0 W' g g2 d e.sync.2 ∧ Bx W W' := by
  obtain ⟨vs, vn, vw, hd⟩ := h.ref
  refine (rsync_calls W _ g2 e vs vn vw hd (by have := f.wr; omega) f.inv).mono ?_
  rintro x W' ⟨vs', vn', vw', rfl, hd', hk'⟩
  exact ⟨rfl, h.stepR ⟨vs', vn', vw', hd'⟩ hk'⟩
theorem Two.c36 (h : Two w0 W g g2 d e) (i : Int) : Calls Try.prog 36 #[.pointer (some ⟨g, 0, none⟩), .int .i64 i] W fun x W' => x = .returned (.tuple #[.string (d.read i).1, .int .i64 (d.read i).2]) ∧ Two w0 W' g g2 d e ∧ Bx W W' := by
  obtain ⟨vs, vn, vw, hd⟩ := h.prog
  refine (pread_calls W _ g d vs vn vw i hd).mono ?_
  rintro x W' ⟨rfl, hn⟩
  exact ⟨rfl, h.later hn.below⟩
theorem Two.c37 (h : Two w0 W g g2 d e) (i : Int) : Calls Try.prog 37 #[.pointer (some ⟨g2, 0, none⟩), .int .i64 i] W fun x W' => x = .returned (.tuple #[.string (e.read i).1, .int .i64 (e.read i).2]) ∧ Two w0 W' g g2 d e ∧ Bx W W' := by
  obtain ⟨vs, vn, vw, hd⟩ := h.ref
  refine (rread_calls W _ g2 e vs vn vw i hd).mono ?_
  rintro x W' ⟨rfl, hn⟩
  exact ⟨rfl, h.later hn.below⟩
theorem Two.c38 (h : Two w0 W g g2 d e) (n : Int) (hn : n ≤ 9223372036854775807) : Calls Try.prog 38 #[.pointer (some ⟨g, 0, none⟩), .int .i64 n] W fun x W' => x = .returned (.tuple #[]) ∧ Two w0 W' g g2 { d with armed := if n < 0 then 0 else n } e ∧ Bx W W' := by
  obtain ⟨vs, vn, vw, hd⟩ := h.prog
  refine (arm_calls W _ g d vs vn vw n hd hn).mono ?_
  rintro x W' ⟨rfl, hd', hk'⟩
  exact ⟨rfl, h.stepP ⟨_, _, _, hd'.mono fun k hk => .inl hk⟩ hk'⟩
theorem Two.c39 (h : Two w0 W g g2 d e) (n : Int) (hn : n ≤ 9223372036854775807) : Calls Try.prog 39 #[.pointer (some ⟨g2, 0, none⟩), .int .i64 n] W fun x W' => x = .returned (.tuple #[]) ∧ Two w0 W' g g2 d { e with armed := if n < 0 then 0 else n } ∧ Bx W W' := by
  obtain ⟨vs, vn, vw, hd⟩ := h.ref
  refine (rarm_calls W _ g2 e vs vn vw n hd hn).mono ?_
  rintro x W' ⟨rfl, hd', hk'⟩
  exact ⟨rfl, h.stepR ⟨_, _, _, hd'.mono fun k hk => .inl hk⟩ hk'⟩
theorem Two.c40 (h : Two w0 W g g2 d e) (f : Far d k) (hk : k ≤ 1000) (s : ByteArray) : Calls Try.prog 40 #[.pointer (some ⟨g, 0, none⟩), .string s] W fun x W' => x = .returned (.tuple #[]) ∧ Two w0 W' g g2 (d.restart s) e ∧ Bx W W' := by
  obtain ⟨vs, vn, vw, hd⟩ := h.prog
  refine (prestart_calls W _ g d vs vn vw s hd (by have := f.wr; omega) (by have := f.falls; omega)).mono ?_
  rintro x W' ⟨rfl, vs', vn', vw', hd', hk'⟩
  exact ⟨rfl, h.stepP ⟨vs', vn', vw', hd'⟩ hk'⟩
theorem Two.c41 (h : Two w0 W g g2 d e) (f : Far e k) (hk : k ≤ 1000) (s : ByteArray) : Calls Try.prog 41 #[.pointer (some ⟨g2, 0, none⟩), .string s] W fun x W' => x = .returned (.tuple #[]) ∧ Two w0 W' g g2 d (e.restart s) ∧ Bx W W' := by
  obtain ⟨vs, vn, vw, hd⟩ := h.ref
  refine (rrestart_calls W _ g2 e vs vn vw s hd (by have := f.wr; omega)).mono ?_
  rintro x W' ⟨rfl, vs', vn', vw', hd', hk'⟩
  exact ⟨rfl, h.stepR ⟨vs', vn', vw', hd'⟩ hk'⟩
theorem Two.c42 (h : Two w0 W g g2 d e) : Calls Try.prog 42 #[.pointer (some ⟨g, 0, none⟩)] W fun x W' => x = .returned (.bool (!d.down)) ∧ Two w0 W' g g2 d e ∧ Bx W W' := by
  obtain ⟨vs, vn, vw, hd⟩ := h.prog
  refine (up_calls W _ g d vs vn vw hd).mono ?_
  rintro x W' ⟨rfl, hn⟩
  exact ⟨rfl, h.later hn.below⟩
theorem Two.c43 (h : Two w0 W g g2 d e) : Calls Try.prog 43 #[.pointer (some ⟨g2, 0, none⟩)] W fun x W' => x = .returned (.bool (!e.down)) ∧ Two w0 W' g g2 d e ∧ Bx W W' := by
  obtain ⟨vs, vn, vw, hd⟩ := h.ref
  refine (rup_calls W _ g2 e vs vn vw hd).mono ?_
  rintro x W' ⟨rfl, hn⟩
  exact ⟨rfl, h.later hn.below⟩
theorem Two.c44 (h : Two w0 W g g2 d e) : Calls Try.prog 44 #[.pointer (some ⟨g, 0, none⟩)] W fun x W' => x = .returned (.int .i64 (d.now.length : Int)) ∧ Two w0 W' g g2 d e ∧ Bx W W' := by
  obtain ⟨vs, vn, vw, hd⟩ := h.prog
  refine (sectors_calls W _ g d vs vn vw hd).mono ?_
  rintro x W' ⟨rfl, hn⟩
  exact ⟨rfl, h.later hn.below⟩
theorem Two.c45 (h : Two w0 W g g2 d e) : Calls Try.prog 45 #[.pointer (some ⟨g2, 0, none⟩)] W fun x W' => x = .returned (.int .i64 (e.now.length : Int)) ∧ Two w0 W' g g2 d e ∧ Bx W W' := by
  obtain ⟨vs, vn, vw, hd⟩ := h.ref
  refine (rsectors_calls W _ g2 e vs vn vw hd).mono ?_
  rintro x W' ⟨rfl, hn⟩
  exact ⟨rfl, h.later hn.below⟩
theorem Two.c46 (h : Two w0 W g g2 d d) : Calls Try.prog 46 #[.pointer (some ⟨g, 0, none⟩), .pointer (some ⟨g2, 0, none⟩)] W fun x W' => x = .returned (.bool true) ∧ Below w0.heap.size w0 W' := by
  obtain ⟨vs, vn, vw, hd⟩ := h.prog
  obtain ⟨us, un, uw, hr⟩ := h.ref
  refine (alike_calls W _ _ g g2 d vs vn vw us un uw hd hr).mono ?_
  rintro x W' ⟨rfl, hn⟩
  exact ⟨rfl, (h.later hn.below).1.below⟩
end
/-- A sector of a string. -/
theorem sector_some (s : ByteArray) : ∃ r, acreagelaw09_sector.f s = some r := by
  unfold acreagelaw09_sector.f
  split
  · split
    · rename_i h1 h2
      have e : wrap64 (64 - (s.size : Int)) = 64 - (s.size : Int) := by unfold wrap64; omega
      have h3 : (strOfNums (List.replicate (wrap64 (64 - (s.size : Int))).toNat (0 : Int))).size = (wrap64 (64 - (s.size : Int))).toNat := by
        show (List.map _ (List.replicate _ (0 : Int))).toArray.size = _
        simp
      rw [if_pos (by rw [e]; omega), if_pos (by rw [e]; omega)]
      simp only [Option.bind_some]
      rw [if_pos (by rw [h3, e]; omega)]
      exact ⟨_, rfl⟩
    · exact ⟨_, rfl⟩
  · exact ⟨_, rfl⟩
theorem c32 {w0 W : World} {g g2 : Nat} {d e : DS} (h : Two w0 W g g2 d e) (s : ByteArray) : Calls Try.prog 32 #[.string s] W fun x W' => x = .returned (.string ((acreagelaw09_sector.f s).getD s)) ∧ Two w0 W' g g2 d e ∧ Bx W W' := by
  obtain ⟨r, hr⟩ := sector_some s
  refine (acreagelaw09_sector.calls s r W hr).mono ?_
  rintro x W' ⟨rfl, hb⟩
  exact ⟨by rw [hr]; rfl, h.later hb⟩
theorem Two.make {w0 W1 W2 : World} {g g2 : Nat} {d e : DS} {vs vn vw us un uw : Value} {w1 w2 : World} (h1 : Below w0.heap.size w0 w1) (hd : DiskAt W1 (fun k => w1.heap.size ≤ k) g d vs vn vw) (h2 : Below w1.heap.size w1 W1) (h3 : Below W1.heap.size W1 w2) (hr : RAt W2 (fun k => w2.heap.size ≤ k) g2 e us un uw) (h4 : Below w2.heap.size w2 W2) : Two w0 W2 g g2 d e := by
  have a1 := h1.size
  have a2 := h2.size
  have a3 := h3.size
  have hb : Below w0.heap.size w0 w2 := (h1.trans (h2.mono a1)).trans (h3.mono (Nat.le_trans a1 a2))
  refine ⟨hb.trans (h4.mono (Nat.le_trans a1 (Nat.le_trans a2 a3))), ⟨vs, vn, vw, ((hd.below h3).below h4).typed.mono fun k hk => ⟨Nat.le_trans a1 hk.1, hk.2⟩⟩, us, un, uw, hr.typed.mono fun k hk => ⟨Nat.le_trans a1 (Nat.le_trans a2 (Nat.le_trans a3 hk.1)), hk.2⟩⟩
end Go.Proofs.Ytkedodmlbepfnaa.Lg

-- from the working text Op
set_option linter.unusedSimpArgs false
set_option linter.unusedVariables false
namespace Go.Proofs.Ytkedodmlbepfnaa.Lg
open Go.RowKit Go.Proofs.YtkedodmlbepfnaaW.PrintWords Go.Proofs.YtkedodmlbepfnaaW.PrintLast Go.Proofs.YtkedodmlbepfnaaW.PrintMore Go.Proofs.Ytkedodmlbepfnaa.Rg
open Go.ChangeShapes Go.WideShapes
theorem cells3 : Try.prog.cellsOf 3 = 1 := by kernel_rfl
theorem cells9 : Try.prog.cellsOf 9 = 1 := by kernel_rfl
end Go.Proofs.Ytkedodmlbepfnaa.Lg
