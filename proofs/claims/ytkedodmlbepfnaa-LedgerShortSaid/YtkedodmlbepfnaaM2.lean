/- Contracts of the ledger's functions (part 2): what each of them answers and leaves, merged by program out of the session's working texts. No condition beyond those that stand in each. -/
import Derived.Test.YtkedodmlbepfnaaM1
-- from the working text Path
set_option linter.unusedSimpArgs false
set_option linter.unusedVariables false
namespace Go.Proofs.Ytkedodmlbepfnaa.Lg
open Go.RowKit Go.Proofs.YtkedodmlbepfnaaW.PrintWords Go.Proofs.YtkedodmlbepfnaaW.PrintLast Go.Proofs.YtkedodmlbepfnaaW.PrintMore Go.Proofs.Ytkedodmlbepfnaa.Rg
/-- The path of an entry. -/
def pathF : Nat → List S23 → Nat → List Int
  | 0, _, _ => []
  | f + 1, l, i => if l.length = 1 then [] else if i < splitS l.length then pathF f (l.take (splitS l.length)) i ++ [rootS (l.drop (splitS l.length))] else pathF f (l.drop (splitS l.length)) (i - splitS l.length) ++ [rootS (l.take (splitS l.length))]
theorem pathF_len : ∀ (f : Nat) (l : List S23) (i : Nat), (pathF f l i).length ≤ f
  | 0, _, _ => by simp [pathF]
  | f + 1, l, i => by
    rw [pathF]
    split
    · simp
    · split <;> (rw [List.length_append]; have := pathF_len f; simp; exact this _ _)
/-- The growth of a list from its first entries. -/
def grownF : Nat → List S23 → Nat → Bool → List Int
  | 0, _, _, _ => []
  | f + 1, l, i, b => if i = l.length then (if b = true then [] else [rootS l]) else if i ≤ splitS l.length then grownF f (l.take (splitS l.length)) i b ++ [rootS (l.drop (splitS l.length))] else grownF f (l.drop (splitS l.length)) (i - splitS l.length) false ++ [rootS (l.take (splitS l.length))]
theorem grownF_len : ∀ (f : Nat) (l : List S23) (i : Nat) (b : Bool), (grownF f l i b).length ≤ f
  | 0, _, _, _ => by simp [grownF]
  | f + 1, l, i, b => by
    rw [grownF]
    split
    · split <;> simp
    · split <;> (rw [List.length_append]; have := grownF_len f; simp; exact this _ _ _)
def pathARel (f : Nat) (l : List S23) (A : Option Addr) (c : Nat) (i : Nat) (B : Nat) : Nat → Value → World → Prop
  | 0, v, _ => v = .slice A l.length c
  | 1, v, _ => v = .int .i64 (splitS l.length : Int)
  | 2, v, _ => v = .slice A (splitS l.length) c
  | 3, v, _ => v = .int .i64 (i : Int)
  | 4, v, w => Nums w B v (pathF f (l.take (splitS l.length)) i)
  | 5, v, _ => v = .slice A l.length c
  | 6, v, _ => v = .int .i64 (splitS l.length : Int)
  | 7, v, _ => v = .slice (if c = splitS l.length then A else A.map (·.add (splitS l.length * 3))) (l.length - splitS l.length) (c - splitS l.length)
  | 8, v, _ => v = .int .u64 (rootS (l.drop (splitS l.length)))
  | 9, v, w => ∃ g, v = .slice (some ⟨g, 0, none⟩) 1 1 ∧ w.cell? ⟨g, 0, none⟩ = some (.int .u64 (rootS (l.drop (splitS l.length))))
  | 10, v, w => Nums w B v (pathF f (l.take (splitS l.length)) i ++ [rootS (l.drop (splitS l.length))])
  | 11, v, w => Nums w B v (pathF f (l.take (splitS l.length)) i ++ [rootS (l.drop (splitS l.length))])
  | _, _, _ => True
theorem pathARel_stable (f : Nat) (l : List S23) (A : Option Addr) (c : Nat) (i : Nat) (B : Nat) (j : Nat) (v : Value) (w w' : World) (h : pathARel f l A c i B j v w) (hb : Below w.heap.size w w') : pathARel f l A c i B j v w' := by
  revert h
  unfold pathARel
  split <;> intro h <;> first | exact h | exact Nums.below h hb | (obtain ⟨g, h1, h2⟩ := h; exact ⟨g, h1, pw_cell_below hb h2⟩)
def pathBRel (f : Nat) (l : List S23) (A : Option Addr) (c : Nat) (i : Nat) (B : Nat) : Nat → Value → World → Prop
  | 0, v, _ => v = .slice A l.length c
  | 1, v, _ => v = .int .i64 (splitS l.length : Int)
  | 2, v, _ => v = .slice (if c = splitS l.length then A else A.map (·.add (splitS l.length * 3))) (l.length - splitS l.length) (c - splitS l.length)
  | 3, v, _ => v = .int .i64 (i : Int)
  | 4, v, _ => v = .int .i64 (splitS l.length : Int)
  | 5, v, _ => v = .int .i64 ((i : Int) - (splitS l.length : Int))
  | 6, v, w => Nums w B v (pathF f (l.drop (splitS l.length)) (i - splitS l.length))
  | 7, v, _ => v = .slice A l.length c
  | 8, v, _ => v = .int .i64 (splitS l.length : Int)
  | 9, v, _ => v = .slice A (splitS l.length) c
  | 10, v, _ => v = .int .u64 (rootS (l.take (splitS l.length)))
  | 11, v, w => ∃ g, v = .slice (some ⟨g, 0, none⟩) 1 1 ∧ w.cell? ⟨g, 0, none⟩ = some (.int .u64 (rootS (l.take (splitS l.length))))
  | 12, v, w => Nums w B v (pathF f (l.drop (splitS l.length)) (i - splitS l.length) ++ [rootS (l.take (splitS l.length))])
  | 13, v, w => Nums w B v (pathF f (l.drop (splitS l.length)) (i - splitS l.length) ++ [rootS (l.take (splitS l.length))])
  | _, _, _ => True
theorem pathBRel_stable (f : Nat) (l : List S23) (A : Option Addr) (c : Nat) (i : Nat) (B : Nat) (j : Nat) (v : Value) (w w' : World) (h : pathBRel f l A c i B j v w) (hb : Below w.heap.size w w') : pathBRel f l A c i B j v w' := by
  revert h
  unfold pathBRel
  split <;> intro h <;> first | exact h | exact Nums.below h hb | (obtain ⟨g, h1, h2⟩ := h; exact ⟨g, h1, pw_cell_below hb h2⟩)
set_option maxHeartbeats 8000000 in
set_option maxRecDepth 100000 in
theorem path_calls : ∀ (f : Nat) (l : List S23) (n : Nat) (A : Option Addr) (c : Nat) (i : Nat) (w : World), n = l.length → n ≤ f → f ≤ 512 → 1 ≤ n → Kd.C k23 w A n l → n ≤ c → n ≤ 512 → (∀ e ∈ l, Valid e) → i < n →
    Calls Try.prog 76 #[.slice A n c, .int .i64 (i : Int)] w fun e w' => ∃ v, e = .returned v ∧ Nums w' w.heap.size v (pathF f l i) ∧ Below w.heap.size w w' := by
  intro f
  induction f with
  | zero => intro l n A c i w hn hf hf5 h1; omega
  | succ f ih0 =>
    intro l n A c i w hn hf hf5 h1 hr0 hc0 h5 hv0 hin
    subst hn
    have hr := Aside0.mk hr0
    have hc := Aside0.mk hc0
    have hv := Aside0.mk hv0
    have ih := ih0
    clear hr0 hc0 hv0 ih0
    have hf1 : l.length ≤ f + 1 := hf
    clear hf
    by_cases c1 : l.length = 1
    · have hE := Aside0.mk (show pathF (f + 1) l i = [] by rw [pathF, if_pos c1])
      rw [c1]
      have hi0 : i = 0 := by omega
      subst hi0
      clear c1 hf1 h5 ih hr hv hin h1
      go_enter Try.func76, Try.ntmps76
      go_wp2
      go_ret
      exact ⟨_, rfl, by rw [hE.out]; exact Nums.nil _ _, (by repeat (first | exact Below.refl _ _ | apply below_drew | apply pw_below_drewN))⟩
    · have c1b : ((l.length : Int) == 1) = false := by rw [beq_eq_false_iff_ne]; omega
      have h2 : 2 ≤ l.length := by omega
      have s1 := split_lt h2
      have s2 := split_pos l.length
      have s3 := split_le h2
      by_cases hk : i < splitS l.length
      · have hE := Aside0.mk (show pathF (f + 1) l i = _ by rw [pathF, if_neg c1, if_pos hk])
        have hkb : decide ((i : Int) < (splitS l.length : Int)) = true := by simp; omega
        have hkn : decide (i < splitS l.length) = true := by simp; omega
        clear c1
        go_enter Try.func76, Try.ntmps76
        go_wp2_with (go_at_call 117; (with_reducible refine (split_any l.length h2 h5 _).mono ?_); rintro e w' ⟨rfl, ⟨nd, rfl⟩⟩)
        obtain ⟨i0, hi0, hi1x, hi2, _⟩ := info_parts info23
        generalize hW : w.drewN nd = W
        have hbW : Below w.heap.size w W := by rw [← hW]; exact pw_below_drewN (Below.refl _ _) nd
        have hr' := Aside0.mk (Kd.C_below hr.out hbW)
        clear hr
        have hr := hr'
        clear hr' hW
        · refine rg2_ 10 [0, 1, 2, 3, 4, 5, 6, 7, 8, 9, 10, 11] [(0, 15), (1, 16), (2, 17), (3, 18), (4, 19), (5, 20), (6, 21), (7, 22), (8, 23), (9, 24), (10, 25), (11, 4)] (bitsOf (rtab .any (opsOf Try.f76 5)).2) (pathARel f l A c i W.heap.size) (by kernel_rfl) rfl (by kernel_rfl) rfl (by kernel_rfl) ?stab ?steps ?rend
          case steps =>
            refine steps2_cons (by decide) (fun a1 w1 hB hsz hdf hn hd => ⟨_, rfl, fun K hK => ?_⟩) ?_
            · have e0 := eval_of ((hn 0 rfl).trans rfl)
              refine value_ (v := .slice A l.length c) (w1 := w1) rfl rfl ?_ (hK _ _ (Below.refl _ _) rfl)
              clear hd hn hK
              simp only [execOp, Option.map_some, Option.map_none, List.map_toArray, List.map_cons, List.map_nil, List.getElem_toArray, List.getElem_cons_zero, List.getElem_cons_succ, e0]
              clear e0
              go_simp
            refine steps2_cons (by decide) (fun a1 w1 hB hsz hdf hn hd => ⟨_, rfl, fun K hK => ?_⟩) ?_
            · have e5 := eval_of ((hn 5 rfl).trans rfl)
              refine value_ (v := .int .i64 (splitS l.length : Int)) (w1 := w1) rfl rfl ?_ (hK _ _ (Below.refl _ _) rfl)
              clear hd hn hK
              simp only [execOp, Option.map_some, Option.map_none, List.map_toArray, List.map_cons, List.map_nil, List.getElem_toArray, List.getElem_cons_zero, List.getElem_cons_succ, e5]
              clear e5
              go_simp
            refine steps2_cons (by decide) (fun a1 w1 hB hsz hdf hn hd => ⟨_, rfl, fun K hK => ?_⟩) ?_
            · obtain ⟨v15, h15, rfl⟩ := hd 0 15 rfl (by kernel_rfl)
              have e15 := eval_of h15
              clear h15
              obtain ⟨v16, h16, rfl⟩ := hd 1 16 rfl (by kernel_rfl)
              have e16 := eval_of h16
              clear h16
              refine value_ (v := .slice A (splitS l.length) c) (w1 := w1) rfl rfl ?_ (hK _ _ (Below.refl _ _) rfl)
              clear hd hn hK
              simp only [execOp, Option.map_some, Option.map_none, List.map_toArray, List.map_cons, List.map_nil, List.getElem_toArray, List.getElem_cons_zero, List.getElem_cons_succ, e15, e16]
              clear e15 e16
              have hq := cut_to 24 23 .i64 Try.underlying24 hi0 A l.length c (splitS l.length : Int) (by omega) (by omega) hc.out w1
              try simp only [Int.toNat_natCast] at hq
              clear hr hc hv ih hE hB
              go_simp
            refine steps2_cons (by decide) (fun a1 w1 hB hsz hdf hn hd => ⟨_, rfl, fun K hK => ?_⟩) ?_
            · have e1 := eval_of ((hn 1 rfl).trans rfl)
              refine value_ (v := .int .i64 (i : Int)) (w1 := w1) rfl rfl ?_ (hK _ _ (Below.refl _ _) rfl)
              clear hd hn hK
              simp only [execOp, Option.map_some, Option.map_none, List.map_toArray, List.map_cons, List.map_nil, List.getElem_toArray, List.getElem_cons_zero, List.getElem_cons_succ, e1]
              clear e1
              go_simp
            refine steps2_cons (by decide) (fun a1 w1 hB hsz hdf hn hd => ⟨_, rfl, fun K hK => ?_⟩) ?_
            · obtain ⟨v17, h17, rfl⟩ := hd 2 17 rfl (by kernel_rfl)
              have e17 := eval_of h17
              clear h17
              obtain ⟨v18, h18, rfl⟩ := hd 3 18 rfl (by kernel_rfl)
              have e18 := eval_of h18
              clear h18
              refine goes_ Try.func76 (by kernel_rfl) rfl #[.slice A (splitS l.length) c, .int .i64 (i : Int)] (by rfl) rfl rfl (by simp only [List.map_toArray, List.map_cons, List.map_nil, e17, e18]) ?_
              have hl1 : (l.take (splitS l.length)).length = splitS l.length := by rw [List.length_take]; omega
              have hC := Kd.C_below (Kd.C_take hr.out (m := splitS l.length) (by omega)) hB
              rw [hl1] at hC
              refine (ih (l.take (splitS l.length)) _ _ _ i w1 hl1.symm (by omega) (by omega) (by omega) hC (by have := hc.out; omega) (by omega) (fun e he => hv.out e (List.mem_of_mem_take he)) (by omega)).mono ?_
              rintro e w2 ⟨v, rfl, hN, hbw⟩
              exact ⟨_, rfl, hK _ _ hbw (Nums.mono hN hB.size)⟩
            refine steps2_cons (by decide) (fun a1 w1 hB hsz hdf hn hd => ⟨_, rfl, fun K hK => ?_⟩) ?_
            · have e0 := eval_of ((hn 0 rfl).trans rfl)
              refine value_ (v := .slice A l.length c) (w1 := w1) rfl rfl ?_ (hK _ _ (Below.refl _ _) rfl)
              clear hd hn hK
              simp only [execOp, Option.map_some, Option.map_none, List.map_toArray, List.map_cons, List.map_nil, List.getElem_toArray, List.getElem_cons_zero, List.getElem_cons_succ, e0]
              clear e0
              go_simp
            refine steps2_cons (by decide) (fun a1 w1 hB hsz hdf hn hd => ⟨_, rfl, fun K hK => ?_⟩) ?_
            · have e5 := eval_of ((hn 5 rfl).trans rfl)
              refine value_ (v := .int .i64 (splitS l.length : Int)) (w1 := w1) rfl rfl ?_ (hK _ _ (Below.refl _ _) rfl)
              clear hd hn hK
              simp only [execOp, Option.map_some, Option.map_none, List.map_toArray, List.map_cons, List.map_nil, List.getElem_toArray, List.getElem_cons_zero, List.getElem_cons_succ, e5]
              clear e5
              go_simp
            refine steps2_cons (by decide) (fun a1 w1 hB hsz hdf hn hd => ⟨_, rfl, fun K hK => ?_⟩) ?_
            · obtain ⟨v20, h20, rfl⟩ := hd 5 20 rfl (by kernel_rfl)
              have e20 := eval_of h20
              clear h20
              obtain ⟨v21, h21, rfl⟩ := hd 6 21 rfl (by kernel_rfl)
              have e21 := eval_of h21
              clear h21
              refine value_ (v := .slice (if c = splitS l.length then A else A.map (·.add (splitS l.length * 3))) (l.length - splitS l.length) (c - splitS l.length)) (w1 := w1) rfl rfl ?_ (hK _ _ (Below.refl _ _) rfl)
              clear hd hn hK
              simp only [execOp, Option.map_some, Option.map_none, List.map_toArray, List.map_cons, List.map_nil, List.getElem_toArray, List.getElem_cons_zero, List.getElem_cons_succ, e20, e21]
              clear e20 e21
              have hq := cut_from 24 23 .i64 Try.underlying24 hi0 3 hi2 A l.length c (splitS l.length : Int) (by omega) (by omega) w1
              try simp only [Int.toNat_natCast] at hq
              clear hr hc hv ih hE hB
              go_simp
            refine steps2_cons (by decide) (fun a1 w1 hB hsz hdf hn hd => ⟨_, rfl, fun K hK => ?_⟩) ?_
            · obtain ⟨v22, h22, rfl⟩ := hd 7 22 rfl (by kernel_rfl)
              have e22 := eval_of h22
              clear h22
              refine goes_ Try.func69 (by kernel_rfl) rfl #[.slice (if c = splitS l.length then A else A.map (·.add (splitS l.length * 3))) (l.length - splitS l.length) (c - splitS l.length)] (by rfl) rfl rfl (by simp only [List.map_toArray, List.map_cons, List.map_nil, e22]) ?_
              have hl1 : (l.drop (splitS l.length)).length = l.length - splitS l.length := by rw [List.length_drop]
              have hC := Kd.C_below (Kd.C_drop hr.out (m := splitS l.length) (by omega) hc.out) hB
              rw [hl1] at hC
              refine (root_calls (l.drop (splitS l.length)).length (l.drop (splitS l.length)) _ _ _ w1 hl1.symm (by omega) hC (by have := hc.out; omega) (by omega) (fun e he => hv.out e (List.mem_of_mem_drop he))).mono ?_
              rintro e w2 ⟨rfl, hbw⟩
              exact ⟨_, rfl, hK _ _ hbw rfl⟩
            refine steps2_cons (by decide) (fun a1 w1 hB hsz hdf hn hd => ⟨_, rfl, fun K hK => ?_⟩) ?_
            · obtain ⟨v23, h23, rfl⟩ := hd 8 23 rfl (by kernel_rfl)
              have e23 := eval_of h23
              clear h23
              refine value_ (v := .slice (some ⟨w1.heap.size, 0, none⟩) 1 1) (w1 := w1.alloc (.cells #[.int .u64 (rootS (l.drop (splitS l.length)))] 25)) rfl rfl ?_ (hK _ _ (below_alloc (Below.refl _ _) _) ⟨_, rfl, by simp⟩)
              clear hd hn hK
              simp only [execOp, Option.map_some, Option.map_none, List.map_toArray, List.map_cons, List.map_nil, List.getElem_toArray, List.getElem_cons_zero, List.getElem_cons_succ, e23]
              clear e23
              go_simp
            refine steps2_late (by decide) (fun a1 w1 hB hsz hdf hn hd => ⟨_, rfl, fun K hK => ?_⟩) ?_
            · obtain ⟨v19, h19, q19⟩ := hd 4 19 rfl (by kernel_rfl)
              have hN : Nums w1 W.heap.size v19 (pathF f (l.take (splitS l.length)) i) := q19 (.inl rfl)
              obtain ⟨v24, h24, q24⟩ := hd 9 24 rfl (by kernel_rfl)
              obtain ⟨g, rfl, hcg⟩ := q24 (.inl rfl)
              refine append_ (y := rootS (l.drop (splitS l.length))) rfl rfl rfl (eval_of h19) (eval_of h24) hN hcg (by have := pathF_len f (l.take (splitS l.length)) i; omega) hB.size (fun vv w2 hN2 hg => hK _ _ ?_ (.inl rfl) hN2)
              exact grown_below hB hN (Nat.le_refl _) hB.size hg
            refine steps2_late (by decide) (fun a1 w1 hB hsz hdf hn hd => ⟨_, rfl, fun K hK => ?_⟩) ?_
            · obtain ⟨v25, h25, q25⟩ := hd 10 25 rfl (by kernel_rfl)
              have e25 := eval_of h25
              refine value_ (v := v25) (w1 := w1) rfl rfl ?_ (hK _ _ hB (.inr (Below.refl _ _)) (q25 (.inr (by decide))))
              clear hd hn hK
              simp only [execOp, List.getElem_toArray, List.getElem_cons_zero, List.getElem_cons_succ, e25]
              go_simp
            exact steps2_nil
          case stab => exact fun j v w w' => pathARel_stable _ _ _ _ _ _ j v w w'
          case rend =>
            intro vals w1 hB hrr
            have hlast := hrr (11, 4) (by simp) (by decide)
            simp only [fill, Act.put, List.setIfInBounds_toArray, List.set_cons_zero, List.set_cons_succ]
            have hlast' : Nums w1 W.heap.size (vals 11) (pathF f (l.take (splitS l.length)) i ++ [rootS (l.drop (splitS l.length))]) := hlast
            clear hlast hrr
            generalize vals 11 = vv at hlast' ⊢
            have HL := Aside0.mk hlast'
            clear hlast'
            go_wp2
            go_ret
            exact ⟨_, rfl, by rw [hE.out]; exact Nums.mono HL.out hbW.size, hbW.trans (hB.mono hbW.size)⟩
      · have hE := Aside0.mk (show pathF (f + 1) l i = _ by rw [pathF, if_neg c1, if_neg hk])
        have hkb : decide ((i : Int) < (splitS l.length : Int)) = false := by simp; omega
        have hkn : decide (i < splitS l.length) = false := by simp; omega
        clear c1
        go_enter Try.func76, Try.ntmps76
        go_wp2_with (go_at_call 117; (with_reducible refine (split_any l.length h2 h5 _).mono ?_); rintro e w' ⟨rfl, ⟨nd, rfl⟩⟩)
        obtain ⟨i0, hi0, hi1x, hi2, _⟩ := info_parts info23
        generalize hW : w.drewN nd = W
        have hbW : Below w.heap.size w W := by rw [← hW]; exact pw_below_drewN (Below.refl _ _) nd
        have hr' := Aside0.mk (Kd.C_below hr.out hbW)
        clear hr
        have hr := hr'
        clear hr' hW
        · refine rg2_ 12 [0, 1, 2, 3, 4, 5, 6, 7, 8, 9, 10, 11, 12, 13] [(0, 26), (1, 27), (2, 28), (3, 29), (4, 30), (5, 31), (6, 32), (7, 33), (8, 34), (9, 35), (10, 36), (11, 37), (12, 38), (13, 4)] (bitsOf (rtab .any (opsOf Try.f76 6)).2) (pathBRel f l A c i W.heap.size) (by kernel_rfl) rfl (by kernel_rfl) rfl (by kernel_rfl) ?stab ?steps ?rend
          case steps =>
            refine steps2_cons (by decide) (fun a1 w1 hB hsz hdf hn hd => ⟨_, rfl, fun K hK => ?_⟩) ?_
            · have e0 := eval_of ((hn 0 rfl).trans rfl)
              refine value_ (v := .slice A l.length c) (w1 := w1) rfl rfl ?_ (hK _ _ (Below.refl _ _) rfl)
              clear hd hn hK
              simp only [execOp, Option.map_some, Option.map_none, List.map_toArray, List.map_cons, List.map_nil, List.getElem_toArray, List.getElem_cons_zero, List.getElem_cons_succ, e0]
              clear e0
              go_simp
            refine steps2_cons (by decide) (fun a1 w1 hB hsz hdf hn hd => ⟨_, rfl, fun K hK => ?_⟩) ?_
            · have e5 := eval_of ((hn 5 rfl).trans rfl)
              refine value_ (v := .int .i64 (splitS l.length : Int)) (w1 := w1) rfl rfl ?_ (hK _ _ (Below.refl _ _) rfl)
              clear hd hn hK
              simp only [execOp, Option.map_some, Option.map_none, List.map_toArray, List.map_cons, List.map_nil, List.getElem_toArray, List.getElem_cons_zero, List.getElem_cons_succ, e5]
              clear e5
              go_simp
            refine steps2_cons (by decide) (fun a1 w1 hB hsz hdf hn hd => ⟨_, rfl, fun K hK => ?_⟩) ?_
            · obtain ⟨v26, h26, rfl⟩ := hd 0 26 rfl (by kernel_rfl)
              have e26 := eval_of h26
              clear h26
              obtain ⟨v27, h27, rfl⟩ := hd 1 27 rfl (by kernel_rfl)
              have e27 := eval_of h27
              clear h27
              refine value_ (v := .slice (if c = splitS l.length then A else A.map (·.add (splitS l.length * 3))) (l.length - splitS l.length) (c - splitS l.length)) (w1 := w1) rfl rfl ?_ (hK _ _ (Below.refl _ _) rfl)
              clear hd hn hK
              simp only [execOp, Option.map_some, Option.map_none, List.map_toArray, List.map_cons, List.map_nil, List.getElem_toArray, List.getElem_cons_zero, List.getElem_cons_succ, e26, e27]
              clear e26 e27
              have hq := cut_from 24 23 .i64 Try.underlying24 hi0 3 hi2 A l.length c (splitS l.length : Int) (by omega) (by omega) w1
              try simp only [Int.toNat_natCast] at hq
              clear hr hc hv ih hE hB
              go_simp
            refine steps2_cons (by decide) (fun a1 w1 hB hsz hdf hn hd => ⟨_, rfl, fun K hK => ?_⟩) ?_
            · have e1 := eval_of ((hn 1 rfl).trans rfl)
              refine value_ (v := .int .i64 (i : Int)) (w1 := w1) rfl rfl ?_ (hK _ _ (Below.refl _ _) rfl)
              clear hd hn hK
              simp only [execOp, Option.map_some, Option.map_none, List.map_toArray, List.map_cons, List.map_nil, List.getElem_toArray, List.getElem_cons_zero, List.getElem_cons_succ, e1]
              clear e1
              go_simp
            refine steps2_cons (by decide) (fun a1 w1 hB hsz hdf hn hd => ⟨_, rfl, fun K hK => ?_⟩) ?_
            · have e5 := eval_of ((hn 5 rfl).trans rfl)
              refine value_ (v := .int .i64 (splitS l.length : Int)) (w1 := w1) rfl rfl ?_ (hK _ _ (Below.refl _ _) rfl)
              clear hd hn hK
              simp only [execOp, Option.map_some, Option.map_none, List.map_toArray, List.map_cons, List.map_nil, List.getElem_toArray, List.getElem_cons_zero, List.getElem_cons_succ, e5]
              clear e5
              go_simp
            refine steps2_cons (by decide) (fun a1 w1 hB hsz hdf hn hd => ⟨_, rfl, fun K hK => ?_⟩) ?_
            · obtain ⟨v29, h29, rfl⟩ := hd 3 29 rfl (by kernel_rfl)
              have e29 := eval_of h29
              clear h29
              obtain ⟨v30, h30, rfl⟩ := hd 4 30 rfl (by kernel_rfl)
              have e30 := eval_of h30
              clear h30
              refine value_ (v := .int .i64 ((i : Int) - (splitS l.length : Int))) (w1 := w1) rfl rfl ?_ (hK _ _ (Below.refl _ _) rfl)
              clear hd hn hK
              simp only [execOp, Option.map_some, Option.map_none, List.map_toArray, List.map_cons, List.map_nil, List.getElem_toArray, List.getElem_cons_zero, List.getElem_cons_succ, e29, e30]
              clear e29 e30
              have hq : IntKind.i64.wrap ((i : Int) - (splitS l.length : Int)) = (i : Int) - (splitS l.length : Int) := by rw [i64_w]; unfold wrap64; omega
              clear hr hc hv ih hE hB
              go_simp
            refine steps2_cons (by decide) (fun a1 w1 hB hsz hdf hn hd => ⟨_, rfl, fun K hK => ?_⟩) ?_
            · obtain ⟨v28, h28, rfl⟩ := hd 2 28 rfl (by kernel_rfl)
              have e28 := eval_of h28
              clear h28
              obtain ⟨v31, h31, rfl⟩ := hd 5 31 rfl (by kernel_rfl)
              have e31 := eval_of h31
              clear h31
              refine goes_ Try.func76 (by kernel_rfl) rfl #[.slice (if c = splitS l.length then A else A.map (·.add (splitS l.length * 3))) (l.length - splitS l.length) (c - splitS l.length), .int .i64 ((i - splitS l.length : Nat) : Int)] (by rfl) rfl rfl (by simp only [List.map_toArray, List.map_cons, List.map_nil, e28, e31]; rw [show ((i : Int) - (splitS l.length : Int)) = ((i - splitS l.length : Nat) : Int) from by omega]) ?_
              have hl1 : (l.drop (splitS l.length)).length = l.length - splitS l.length := by rw [List.length_drop]
              have hC := Kd.C_below (Kd.C_drop hr.out (m := splitS l.length) (by omega) hc.out) hB
              rw [hl1] at hC
              refine (ih (l.drop (splitS l.length)) _ _ _ (i - splitS l.length) w1 hl1.symm (by omega) (by omega) (by omega) hC (by have := hc.out; omega) (by omega) (fun e he => hv.out e (List.mem_of_mem_drop he)) (by omega)).mono ?_
              rintro e w2 ⟨v, rfl, hN, hbw⟩
              exact ⟨_, rfl, hK _ _ hbw (Nums.mono hN hB.size)⟩
            refine steps2_cons (by decide) (fun a1 w1 hB hsz hdf hn hd => ⟨_, rfl, fun K hK => ?_⟩) ?_
            · have e0 := eval_of ((hn 0 rfl).trans rfl)
              refine value_ (v := .slice A l.length c) (w1 := w1) rfl rfl ?_ (hK _ _ (Below.refl _ _) rfl)
              clear hd hn hK
              simp only [execOp, Option.map_some, Option.map_none, List.map_toArray, List.map_cons, List.map_nil, List.getElem_toArray, List.getElem_cons_zero, List.getElem_cons_succ, e0]
              clear e0
              go_simp
            refine steps2_cons (by decide) (fun a1 w1 hB hsz hdf hn hd => ⟨_, rfl, fun K hK => ?_⟩) ?_
            · have e5 := eval_of ((hn 5 rfl).trans rfl)
              refine value_ (v := .int .i64 (splitS l.length : Int)) (w1 := w1) rfl rfl ?_ (hK _ _ (Below.refl _ _) rfl)
              clear hd hn hK
              simp only [execOp, Option.map_some, Option.map_none, List.map_toArray, List.map_cons, List.map_nil, List.getElem_toArray, List.getElem_cons_zero, List.getElem_cons_succ, e5]
              clear e5
              go_simp
            refine steps2_cons (by decide) (fun a1 w1 hB hsz hdf hn hd => ⟨_, rfl, fun K hK => ?_⟩) ?_
            · obtain ⟨v33, h33, rfl⟩ := hd 7 33 rfl (by kernel_rfl)
              have e33 := eval_of h33
              clear h33
              obtain ⟨v34, h34, rfl⟩ := hd 8 34 rfl (by kernel_rfl)
              have e34 := eval_of h34
              clear h34
              refine value_ (v := .slice A (splitS l.length) c) (w1 := w1) rfl rfl ?_ (hK _ _ (Below.refl _ _) rfl)
              clear hd hn hK
              simp only [execOp, Option.map_some, Option.map_none, List.map_toArray, List.map_cons, List.map_nil, List.getElem_toArray, List.getElem_cons_zero, List.getElem_cons_succ, e33, e34]
              clear e33 e34
              have hq := cut_to 24 23 .i64 Try.underlying24 hi0 A l.length c (splitS l.length : Int) (by omega) (by omega) hc.out w1
              try simp only [Int.toNat_natCast] at hq
              clear hr hc hv ih hE hB
              go_simp
            refine steps2_cons (by decide) (fun a1 w1 hB hsz hdf hn hd => ⟨_, rfl, fun K hK => ?_⟩) ?_
            · obtain ⟨v35, h35, rfl⟩ := hd 9 35 rfl (by kernel_rfl)
              have e35 := eval_of h35
              clear h35
              refine goes_ Try.func69 (by kernel_rfl) rfl #[.slice A (splitS l.length) c] (by rfl) rfl rfl (by simp only [List.map_toArray, List.map_cons, List.map_nil, e35]) ?_
              have hl1 : (l.take (splitS l.length)).length = splitS l.length := by rw [List.length_take]; omega
              have hC := Kd.C_below (Kd.C_take hr.out (m := splitS l.length) (by omega)) hB
              rw [hl1] at hC
              refine (root_calls (l.take (splitS l.length)).length (l.take (splitS l.length)) _ _ _ w1 hl1.symm (by omega) hC (by have := hc.out; omega) (by omega) (fun e he => hv.out e (List.mem_of_mem_take he))).mono ?_
              rintro e w2 ⟨rfl, hbw⟩
              exact ⟨_, rfl, hK _ _ hbw rfl⟩
            refine steps2_cons (by decide) (fun a1 w1 hB hsz hdf hn hd => ⟨_, rfl, fun K hK => ?_⟩) ?_
            · obtain ⟨v36, h36, rfl⟩ := hd 10 36 rfl (by kernel_rfl)
              have e36 := eval_of h36
              clear h36
              refine value_ (v := .slice (some ⟨w1.heap.size, 0, none⟩) 1 1) (w1 := w1.alloc (.cells #[.int .u64 (rootS (l.take (splitS l.length)))] 25)) rfl rfl ?_ (hK _ _ (below_alloc (Below.refl _ _) _) ⟨_, rfl, by simp⟩)
              clear hd hn hK
              simp only [execOp, Option.map_some, Option.map_none, List.map_toArray, List.map_cons, List.map_nil, List.getElem_toArray, List.getElem_cons_zero, List.getElem_cons_succ, e36]
              clear e36
              go_simp
            refine steps2_late (by decide) (fun a1 w1 hB hsz hdf hn hd => ⟨_, rfl, fun K hK => ?_⟩) ?_
            · obtain ⟨v32, h32, q32⟩ := hd 6 32 rfl (by kernel_rfl)
              have hN : Nums w1 W.heap.size v32 (pathF f (l.drop (splitS l.length)) (i - splitS l.length)) := q32 (.inl rfl)
              obtain ⟨v37, h37, q37⟩ := hd 11 37 rfl (by kernel_rfl)
              obtain ⟨g, rfl, hcg⟩ := q37 (.inl rfl)
              refine append_ (y := rootS (l.take (splitS l.length))) rfl rfl rfl (eval_of h32) (eval_of h37) hN hcg (by have := pathF_len f (l.drop (splitS l.length)) (i - splitS l.length); omega) hB.size (fun vv w2 hN2 hg => hK _ _ ?_ (.inl rfl) hN2)
              exact grown_below hB hN (Nat.le_refl _) hB.size hg
            refine steps2_late (by decide) (fun a1 w1 hB hsz hdf hn hd => ⟨_, rfl, fun K hK => ?_⟩) ?_
            · obtain ⟨v38, h38, q38⟩ := hd 12 38 rfl (by kernel_rfl)
              have e38 := eval_of h38
              refine value_ (v := v38) (w1 := w1) rfl rfl ?_ (hK _ _ hB (.inr (Below.refl _ _)) (q38 (.inr (by decide))))
              clear hd hn hK
              simp only [execOp, List.getElem_toArray, List.getElem_cons_zero, List.getElem_cons_succ, e38]
              go_simp
            exact steps2_nil
          case stab => exact fun j v w w' => pathBRel_stable _ _ _ _ _ _ j v w w'
          case rend =>
            intro vals w1 hB hrr
            have hlast := hrr (13, 4) (by simp) (by decide)
            simp only [fill, Act.put, List.setIfInBounds_toArray, List.set_cons_zero, List.set_cons_succ]
            have hlast' : Nums w1 W.heap.size (vals 13) (pathF f (l.drop (splitS l.length)) (i - splitS l.length) ++ [rootS (l.take (splitS l.length))]) := hlast
            clear hlast hrr
            generalize vals 13 = vv at hlast' ⊢
            have HL := Aside0.mk hlast'
            clear hlast'
            go_wp2
            go_ret
            exact ⟨_, rfl, by rw [hE.out]; exact Nums.mono HL.out hbW.size, hbW.trans (hB.mono hbW.size)⟩
end Go.Proofs.Ytkedodmlbepfnaa.Lg

-- from the working text Climb
set_option linter.unusedSimpArgs false
set_option linter.unusedVariables false
namespace Go.Proofs.Ytkedodmlbepfnaa.Lg
open Go.RowKit Go.Proofs.YtkedodmlbepfnaaW.PrintWords Go.Proofs.YtkedodmlbepfnaaW.PrintLast Go.Proofs.YtkedodmlbepfnaaW.PrintMore Go.Proofs.Ytkedodmlbepfnaa.Rg
/-- What a path makes of a number. -/
def climbF : Nat → Int → Nat → Nat → List Int → Int × Bool
  | 0, x, _, _, _ => (x, false)
  | f + 1, x, n, i, p => if n = 1 then (x, p.length == 0) else if p.length = 0 then (x, false) else
    if i < splitS n then (nodeS (climbF f x (splitS n) i (p.take (p.length - 1))).1 (p.getD (p.length - 1) 0), (climbF f x (splitS n) i (p.take (p.length - 1))).2)
    else (nodeS (p.getD (p.length - 1) 0) (climbF f x (n - splitS n) (i - splitS n) (p.take (p.length - 1))).1, (climbF f x (n - splitS n) (i - splitS n) (p.take (p.length - 1))).2)
theorem climbF_u64 : ∀ (f : Nat) (x : Int) (n i : Nat) (p : List Int), U64 x → U64 (climbF f x n i p).1
  | 0, x, _, _, _, h => h
  | f + 1, x, n, i, p, h => by
    rw [climbF]
    split
    · exact h
    · split
      · exact h
      · split <;> exact node_u64 _ _
/-- The last number of a list that is read. -/
theorem last_cell {w : World} {A : Option Addr} {p : List Int} {m : Nat} (hr : Kd.C (Kd.int .u64) w A (m + 1) p) (hp : p.length = m + 1) : ∃ ad : Addr, A = some ad ∧ w.cell? (ad.add m) = some (.int .u64 (p.getD m 0)) := by
  obtain ⟨ad, e, h⟩ := Kd.at_int hr m (by omega) (by omega)
  exact ⟨ad, e, by simpa [rd] using h⟩
set_option maxHeartbeats 4000000 in
set_option maxRecDepth 100000 in
theorem climb_calls : ∀ (f : Nat) (x : Int) (n i : Nat) (p : List Int) (len : Nat) (A : Option Addr) (c : Nat) (w : World), len = p.length → len < f → 1 ≤ n → n ≤ 512 → i < n → Kd.C (Kd.int .u64) w A len p → len ≤ c → len ≤ 1000000 → 
    Calls Try.prog 78 #[.int .u64 x, .int .i64 (n : Int), .int .i64 (i : Int), .slice A len c] w fun e w' => e = .returned (.tuple #[.int .u64 (climbF f x n i p).1, .bool (climbF f x n i p).2]) ∧ Below w.heap.size w w' := by
  intro f
  induction f with
  | zero => intro x n i p len A c w hlen hf; omega
  | succ f ih0 =>
    intro x n i p len A c w hlen hf h1 h5 hin hr0 hc0 hl
    have hr := Aside0.mk hr0
    have hc := Aside0.mk hc0
    have ih := Aside0.mk ih0
    clear hr0 hc0 ih0
    by_cases n1 : n = 1
    · subst n1
      have hE := Aside0.mk (show climbF (f + 1) x 1 i p = (x, p.length == 0) by rw [climbF, if_pos rfl])
      have hL := Aside0.mk hlen
      clear hlen
      by_cases l0 : len = 0
      · subst l0
        go_enter Try.func78, Try.ntmps78
        go_wp2
        go_ret2
        exact ⟨by rw [hE.out, ← hL.out]; rfl, (by repeat (first | exact Below.refl _ _ | apply below_drew | apply pw_below_drewN))⟩
      · have l0b : ((len : Int) == 0) = false := by rw [beq_eq_false_iff_ne]; omega
        have hz := Aside0.mk (show (p.length == 0) = false by rw [beq_eq_false_iff_ne, ← hL.out]; omega)
        go_enter Try.func78, Try.ntmps78
        go_wp2
        go_ret2
        exact ⟨by rw [hE.out, hz.out]; rfl, (by repeat (first | exact Below.refl _ _ | apply below_drew | apply pw_below_drewN))⟩
    · have n1b : ((n : Int) == 1) = false := by rw [beq_eq_false_iff_ne]; omega
      by_cases l0 : len = 0
      · have hE := Aside0.mk (show climbF (f + 1) x n i p = (x, false) by rw [climbF, if_neg n1, if_pos (by omega)])
        have hL := Aside0.mk hlen
        clear hlen
        subst l0
        go_enter Try.func78, Try.ntmps78
        go_wp2
        go_ret2
        exact ⟨by rw [hE.out]; rfl, (by repeat (first | exact Below.refl _ _ | apply below_drew | apply pw_below_drewN))⟩
      · obtain ⟨m, rfl⟩ : ∃ m, len = m + 1 := ⟨len - 1, by omega⟩
        have h2 : 2 ≤ n := by omega
        have s1 := split_lt h2
        have s2 := split_pos n
        obtain ⟨ad, rfl, hx0⟩ := last_cell hr.out hlen.symm
        have hpl : p.length - 1 = m := by omega
        have hcm : m + 1 ≤ c := hc.out
        have hl1 := Aside0.mk (show m = (p.take m).length by rw [List.length_take]; omega)
        have hC := Aside0.mk (show Kd.C (Kd.int .u64) w (some ad) m (p.take m) by
          have h := Kd.C_take (m := m) (show Kd.C (Kd.int .u64) w (some ad) p.length p by rw [← hlen]; exact hr.out) (by omega)
          rw [show (p.take m).length = m by rw [List.length_take]; omega] at h
          exact h)
        have l0b : ((m : Int) + 1 == 0) = false := by rw [beq_eq_false_iff_ne]; omega
        by_cases hk : i < splitS n
        · have hE := Aside0.mk (show climbF (f + 1) x n i p = (nodeS (climbF f x (splitS n) i (p.take m)).1 (p.getD m 0), (climbF f x (splitS n) i (p.take m)).2) by rw [climbF, if_neg n1, if_neg (by omega), if_pos hk, hpl])
          have hkb : decide ((i : Int) < (splitS n : Int)) = true := by simp; omega
          have hkn : decide (i < splitS n) = true := by simp; omega
          clear n1 l0 hlen hpl
          have hx := Aside0.mk hx0
          clear hx0
          go_enter Try.func78, Try.ntmps78
          go_wp2_with (first | (go_at_call 117; (with_reducible refine (split_any n h2 h5 _).mono ?_); rintro e w' ⟨rfl, ⟨nd, rfl⟩⟩))
          have HC2 := Aside0.mk (Kd.C_drewN hC.out nd)
          refine (ih.out x (splitS n) i (p.take m) m _ c _ hl1.out (by omega) (by omega) (by omega) hk HC2.out (by omega) (by omega)).mono ?_
          rintro e w2 ⟨rfl, hb⟩
          have hbw : Below w.heap.size w w2 := below_step (pw_below_drewN (Below.refl _ _) nd) hb
          have hx2 : w2.cell? (ad.add m) = some (.int .u64 (p.getD m 0)) := pw_cell_below hbw hx.out
          have HB := Aside0.mk hbw
          clear hb hbw hr hC HC2 hl1 ih hc
          generalize hgen : climbF f x (splitS n) i (p.take m) = res at hE ⊢
          have hG := Aside0.mk hgen
          clear hgen
          go_wp2_with fail
          have hux2 := Aside0.mk (show True from trivial)
          refine (node_any _ _ _).mono ?_
          rintro e w3 ⟨rfl, hb3⟩
          have HB3 := Aside0.mk (below_step HB.out hb3)
          clear HB hx2 hb3
          go_wp2
          go_ret2
          exact ⟨by rw [hE.out]; rfl, HB3.out⟩
        · have hE := Aside0.mk (show climbF (f + 1) x n i p = (nodeS (p.getD m 0) (climbF f x (n - splitS n) (i - splitS n) (p.take m)).1, (climbF f x (n - splitS n) (i - splitS n) (p.take m)).2) by rw [climbF, if_neg n1, if_neg (by omega), if_neg hk, hpl])
          have hkb : decide ((i : Int) < (splitS n : Int)) = false := by simp; omega
          have hkn : decide (i < splitS n) = false := by simp; omega
          have hs1 : IntKind.i64.wrap ((n : Int) - (splitS n : Int)) = (n : Int) - (splitS n : Int) := by rw [i64_w]; unfold wrap64; omega
          have hs2 : IntKind.i64.wrap ((i : Int) - (splitS n : Int)) = (i : Int) - (splitS n : Int) := by rw [i64_w]; unfold wrap64; omega
          clear n1 l0 hlen hpl
          have hx := Aside0.mk hx0
          clear hx0
          go_enter Try.func78, Try.ntmps78
          go_wp2_with (first | (go_at_call 117; (with_reducible refine (split_any n h2 h5 _).mono ?_); rintro e w' ⟨rfl, ⟨nd, rfl⟩⟩))
          have HC2 := Aside0.mk (Kd.C_drewN hC.out nd)
          rw [show ((n : Int) - (splitS n : Int)) = ((n - splitS n : Nat) : Int) from by omega, show ((i : Int) - (splitS n : Int)) = ((i - splitS n : Nat) : Int) from by omega]
          refine (ih.out x (n - splitS n) (i - splitS n) (p.take m) m _ c _ hl1.out (by omega) (by omega) (by omega) (by omega) HC2.out (by omega) (by omega)).mono ?_
          rintro e w2 ⟨rfl, hb⟩
          have hbw : Below w.heap.size w w2 := below_step (pw_below_drewN (Below.refl _ _) nd) hb
          have hx2 : w2.cell? (ad.add m) = some (.int .u64 (p.getD m 0)) := pw_cell_below hbw hx.out
          have HB := Aside0.mk hbw
          clear hb hbw hr hC HC2 hl1 ih hc
          generalize hgen : climbF f x (n - splitS n) (i - splitS n) (p.take m) = res at hE ⊢
          have hG := Aside0.mk hgen
          clear hgen
          go_wp2_with fail
          have hux2 := Aside0.mk (show True from trivial)
          refine (node_any _ _ _).mono ?_
          rintro e w3 ⟨rfl, hb3⟩
          have HB3 := Aside0.mk (below_step HB.out hb3)
          clear HB hx2 hb3
          go_wp2
          go_ret2
          exact ⟨by rw [hE.out]; rfl, HB3.out⟩
end Go.Proofs.Ytkedodmlbepfnaa.Lg

-- from the working text Rclimb
set_option linter.unusedSimpArgs false
set_option linter.unusedVariables false
namespace Go.Proofs.Ytkedodmlbepfnaa.Lg
open Go.RowKit Go.Proofs.YtkedodmlbepfnaaW.PrintWords Go.Proofs.YtkedodmlbepfnaaW.PrintLast Go.Proofs.YtkedodmlbepfnaaW.PrintMore Go.Proofs.Ytkedodmlbepfnaa.Rg
set_option maxHeartbeats 4000000 in
set_option maxRecDepth 100000 in
theorem rclimb_calls : ∀ (f : Nat) (x : Int) (n i : Nat) (p : List Int) (len : Nat) (A : Option Addr) (c : Nat) (w : World), len = p.length → len < f → 1 ≤ n → n ≤ 512 → i < n → Kd.C (Kd.int .u64) w A len p → len ≤ c → len ≤ 1000000 → U64 x → (∀ y ∈ p, U64 y) → 
    Calls Try.prog 79 #[.int .u64 x, .int .i64 (n : Int), .int .i64 (i : Int), .slice A len c] w fun e w' => e = .returned (.tuple #[.int .u64 (climbF f x n i p).1, .bool (climbF f x n i p).2]) ∧ Below w.heap.size w w' := by
  intro f
  induction f with
  | zero => intro x n i p len A c w hlen hf; omega
  | succ f ih0 =>
    intro x n i p len A c w hlen hf h1 h5 hin hr0 hc0 hl hux hup
    have hr := Aside0.mk hr0
    have hc := Aside0.mk hc0
    have ih := Aside0.mk ih0
    clear hr0 hc0 ih0
    have hup := Aside0.mk hup
    by_cases n1 : n = 1
    · subst n1
      have hE := Aside0.mk (show climbF (f + 1) x 1 i p = (x, p.length == 0) by rw [climbF, if_pos rfl])
      have hL := Aside0.mk hlen
      clear hlen
      by_cases l0 : len = 0
      · subst l0
        go_enter Try.func79, Try.ntmps79
        go_wp2
        go_ret2
        exact ⟨by rw [hE.out, ← hL.out]; rfl, (by repeat (first | exact Below.refl _ _ | apply below_drew | apply pw_below_drewN))⟩
      · have l0b : ((len : Int) == 0) = false := by rw [beq_eq_false_iff_ne]; omega
        have hz := Aside0.mk (show (p.length == 0) = false by rw [beq_eq_false_iff_ne, ← hL.out]; omega)
        go_enter Try.func79, Try.ntmps79
        go_wp2
        go_ret2
        exact ⟨by rw [hE.out, hz.out]; rfl, (by repeat (first | exact Below.refl _ _ | apply below_drew | apply pw_below_drewN))⟩
    · have n1b : ((n : Int) == 1) = false := by rw [beq_eq_false_iff_ne]; omega
      by_cases l0 : len = 0
      · have hE := Aside0.mk (show climbF (f + 1) x n i p = (x, false) by rw [climbF, if_neg n1, if_pos (by omega)])
        have hL := Aside0.mk hlen
        clear hlen
        subst l0
        go_enter Try.func79, Try.ntmps79
        go_wp2
        go_ret2
        exact ⟨by rw [hE.out]; rfl, (by repeat (first | exact Below.refl _ _ | apply below_drew | apply pw_below_drewN))⟩
      · obtain ⟨m, rfl⟩ : ∃ m, len = m + 1 := ⟨len - 1, by omega⟩
        have h2 : 2 ≤ n := by omega
        have s1 := split_lt h2
        have s2 := split_pos n
        obtain ⟨ad, rfl, hx0⟩ := last_cell hr.out hlen.symm
        have hpl : p.length - 1 = m := by omega
        have hcm : m + 1 ≤ c := hc.out
        have hl1 := Aside0.mk (show m = (p.take m).length by rw [List.length_take]; omega)
        have hC := Aside0.mk (show Kd.C (Kd.int .u64) w (some ad) m (p.take m) by
          have h := Kd.C_take (m := m) (show Kd.C (Kd.int .u64) w (some ad) p.length p by rw [← hlen]; exact hr.out) (by omega)
          rw [show (p.take m).length = m by rw [List.length_take]; omega] at h
          exact h)
        have l0b : ((m : Int) + 1 == 0) = false := by rw [beq_eq_false_iff_ne]; omega
        have hum := Aside0.mk (show U64 (p.getD m 0) by rw [List.getD_eq_getElem?_getD, List.getElem?_eq_getElem (by omega)]; exact hup.out _ (List.getElem_mem _))
        by_cases hk : i < splitS n
        · have hE := Aside0.mk (show climbF (f + 1) x n i p = (nodeS (climbF f x (splitS n) i (p.take m)).1 (p.getD m 0), (climbF f x (splitS n) i (p.take m)).2) by rw [climbF, if_neg n1, if_neg (by omega), if_pos hk, hpl])
          have hkb : decide ((i : Int) < (splitS n : Int)) = true := by simp; omega
          have hkn : decide (i < splitS n) = true := by simp; omega
          clear n1 l0 hlen hpl
          have hx := Aside0.mk hx0
          clear hx0
          go_enter Try.func79, Try.ntmps79
          go_wp2_with (first | (go_at_call 105; (with_reducible refine (rsplit_any n h2 h5 _).mono ?_); rintro e w' ⟨rfl, ⟨nd, rfl⟩⟩))
          have HC2 := Aside0.mk (Kd.C_drewN hC.out nd)
          refine (ih.out x (splitS n) i (p.take m) m _ m _ hl1.out (by omega) (by omega) (by omega) hk HC2.out (by omega) (by omega) hux (fun y hy => hup.out y (List.mem_of_mem_take hy))).mono ?_
          rintro e w2 ⟨rfl, hb⟩
          have hbw : Below w.heap.size w w2 := below_step (pw_below_drewN (Below.refl _ _) nd) hb
          have hx2 : w2.cell? (ad.add m) = some (.int .u64 (p.getD m 0)) := pw_cell_below hbw hx.out
          have HB := Aside0.mk hbw
          clear hb hbw hr hC HC2 hl1 ih hc
          generalize hgen : climbF f x (splitS n) i (p.take m) = res at hE ⊢
          have hG := Aside0.mk hgen
          clear hgen
          go_wp2_with fail
          have hux2 := Aside0.mk (show True from trivial)
          have hures : U64 res.1 := by rw [← hG.out]; exact climbF_u64 _ _ _ _ _ hux
          refine (rnode_any _ _ hures hum.out _).mono ?_
          rintro e w3 ⟨rfl, hb3⟩
          have HB3 := Aside0.mk (below_step HB.out hb3)
          clear HB hx2 hb3
          go_wp2
          go_ret2
          exact ⟨by rw [hE.out]; rfl, HB3.out⟩
        · have hE := Aside0.mk (show climbF (f + 1) x n i p = (nodeS (p.getD m 0) (climbF f x (n - splitS n) (i - splitS n) (p.take m)).1, (climbF f x (n - splitS n) (i - splitS n) (p.take m)).2) by rw [climbF, if_neg n1, if_neg (by omega), if_neg hk, hpl])
          have hkb : decide ((i : Int) < (splitS n : Int)) = false := by simp; omega
          have hkn : decide (i < splitS n) = false := by simp; omega
          have hs1 : IntKind.i64.wrap ((n : Int) - (splitS n : Int)) = (n : Int) - (splitS n : Int) := by rw [i64_w]; unfold wrap64; omega
          have hs2 : IntKind.i64.wrap ((i : Int) - (splitS n : Int)) = (i : Int) - (splitS n : Int) := by rw [i64_w]; unfold wrap64; omega
          clear n1 l0 hlen hpl
          have hx := Aside0.mk hx0
          clear hx0
          go_enter Try.func79, Try.ntmps79
          go_wp2_with (first | (go_at_call 105; (with_reducible refine (rsplit_any n h2 h5 _).mono ?_); rintro e w' ⟨rfl, ⟨nd, rfl⟩⟩))
          have HC2 := Aside0.mk (Kd.C_drewN hC.out nd)
          rw [show ((n : Int) - (splitS n : Int)) = ((n - splitS n : Nat) : Int) from by omega, show ((i : Int) - (splitS n : Int)) = ((i - splitS n : Nat) : Int) from by omega]
          refine (ih.out x (n - splitS n) (i - splitS n) (p.take m) m _ m _ hl1.out (by omega) (by omega) (by omega) (by omega) HC2.out (by omega) (by omega) hux (fun y hy => hup.out y (List.mem_of_mem_take hy))).mono ?_
          rintro e w2 ⟨rfl, hb⟩
          have hbw : Below w.heap.size w w2 := below_step (pw_below_drewN (Below.refl _ _) nd) hb
          have hx2 : w2.cell? (ad.add m) = some (.int .u64 (p.getD m 0)) := pw_cell_below hbw hx.out
          have HB := Aside0.mk hbw
          clear hb hbw hr hC HC2 hl1 ih hc
          generalize hgen : climbF f x (n - splitS n) (i - splitS n) (p.take m) = res at hE ⊢
          have hG := Aside0.mk hgen
          clear hgen
          go_wp2_with fail
          have hux2 := Aside0.mk (show True from trivial)
          have hures : U64 res.1 := by rw [← hG.out]; exact climbF_u64 _ _ _ _ _ hux
          refine (rnode_any _ _ hum.out hures _).mono ?_
          rintro e w3 ⟨rfl, hb3⟩
          have HB3 := Aside0.mk (below_step HB.out hb3)
          clear HB hx2 hb3
          go_wp2
          go_ret2
          exact ⟨by rw [hE.out]; rfl, HB3.out⟩
end Go.Proofs.Ytkedodmlbepfnaa.Lg

-- from the working text Grow
set_option linter.unusedSimpArgs false
set_option linter.unusedVariables false
namespace Go.Proofs.Ytkedodmlbepfnaa.Lg
open Go.RowKit Go.Proofs.YtkedodmlbepfnaaW.PrintWords Go.Proofs.YtkedodmlbepfnaaW.PrintLast Go.Proofs.YtkedodmlbepfnaaW.PrintMore Go.Proofs.Ytkedodmlbepfnaa.Rg
/-- What a growth makes of a number. -/
def growF : Nat → Int → Nat → Nat → Bool → List Int → Int × Int × Bool
  | 0, _, _, _, _, _ => (0, 0, false)
  | f + 1, x, i, n, b, p => if i = n then (if b = true then (x, x, p.length == 0) else if p.length = 1 then (p.getD 0 0, p.getD 0 0, true) else (0, 0, false)) else if p.length = 0 then (0, 0, false) else
    if i ≤ splitS n then ((growF f x i (splitS n) b (p.take (p.length - 1))).1, nodeS (growF f x i (splitS n) b (p.take (p.length - 1))).2.1 (p.getD (p.length - 1) 0), (growF f x i (splitS n) b (p.take (p.length - 1))).2.2)
    else (nodeS (p.getD (p.length - 1) 0) (growF f x (i - splitS n) (n - splitS n) false (p.take (p.length - 1))).1, nodeS (p.getD (p.length - 1) 0) (growF f x (i - splitS n) (n - splitS n) false (p.take (p.length - 1))).2.1, (growF f x (i - splitS n) (n - splitS n) false (p.take (p.length - 1))).2.2)
theorem U64_0 : U64 0 := by unfold U64; omega
theorem getD_u64 {p : List Int} (h : ∀ y ∈ p, U64 y) (m : Nat) : U64 (p.getD m 0) := by
  rw [List.getD_eq_getElem?_getD]
  cases hm : p[m]? with
  | none => exact U64_0
  | some y => exact h y (List.mem_of_getElem? hm)
theorem growF_u64 : ∀ (f : Nat) (x : Int) (i n : Nat) (b : Bool) (p : List Int), U64 x → (∀ y ∈ p, U64 y) → U64 (growF f x i n b p).1 ∧ U64 (growF f x i n b p).2.1
  | 0, x, _, _, _, _, h, _ => ⟨U64_0, U64_0⟩
  | f + 1, x, i, n, b, p, h, hp => by
    rw [growF]
    split
    · split
      · exact ⟨h, h⟩
      · split
        · exact ⟨getD_u64 hp 0, getD_u64 hp 0⟩
        · exact ⟨U64_0, U64_0⟩
    · split
      · exact ⟨U64_0, U64_0⟩
      · have hq : ∀ y ∈ p.take (p.length - 1), U64 y := fun y hy => hp y (List.mem_of_mem_take hy)
        split
        · exact ⟨(growF_u64 f x i (splitS n) b _ h hq).1, node_u64 _ _⟩
        · exact ⟨node_u64 _ _, node_u64 _ _⟩
def grow10Rel (m : Nat) (ad : Addr) (n c : Nat) (h : Int) : Nat → Value → World → Prop
  | 0, v, _ => v = .slice (some ad) (m + 1) c
  | 1, v, _ => v = .int .i64 (m : Int)
  | 2, v, _ => v = .pointer (some (ad.add m))
  | 3, v, _ => v = .int .u64 h
  | 4, v, _ => v = .int .i64 (n : Int)
  | 5, v, _ => v = .int .i64 (splitS n : Int)
  | 6, v, _ => v = .int .u64 h
  | 7, v, _ => v = .int .i64 (splitS n : Int)
  | _, _, _ => True
theorem grow10Rel_stable (m : Nat) (ad : Addr) (n c : Nat) (h : Int) (i : Nat) (v : Value) (w w' : World) (hh : grow10Rel m ad n c h i v w) (hb : Below w.heap.size w w') : grow10Rel m ad n c h i v w' := by
  revert hh
  unfold grow10Rel
  split <;> intro h <;> exact h
set_option maxHeartbeats 8000000 in
set_option maxRecDepth 100000 in
theorem grow_calls : ∀ (f : Nat) (x : Int) (i n : Nat) (b : Bool) (p : List Int) (len : Nat) (A : Option Addr) (c : Nat) (w : World), len = p.length → len < f → 1 ≤ i → i ≤ n → n ≤ 512 → Kd.C (Kd.int .u64) w A len p → len ≤ c → len ≤ 1000000 → 
    Calls Try.prog 82 #[.int .u64 x, .int .i64 (i : Int), .int .i64 (n : Int), .bool b, .slice A len c] w fun e w' => e = .returned (.tuple #[.int .u64 (growF f x i n b p).1, .int .u64 (growF f x i n b p).2.1, .bool (growF f x i n b p).2.2]) ∧ Below w.heap.size w w' := by
  intro f
  induction f with
  | zero => intro x i n b p len A c w hlen hf; omega
  | succ f ih0 =>
    intro x i n b p len A c w hlen hf h1 hin h5 hr0 hc0 hl
    have hr := Aside0.mk hr0
    have hc := Aside0.mk hc0
    have ih := Aside0.mk ih0
    clear hr0 hc0 ih0
    by_cases n1 : i = n
    · have n1b : ((i : Int) == (n : Int)) = true := by rw [beq_iff_eq]; omega
      cases b with
      | true =>
        have hE := Aside0.mk (show growF (f + 1) x i n true p = (x, x, p.length == 0) by rw [growF, if_pos n1, if_pos rfl])
        by_cases l0 : len = 0
        · have hz := Aside0.mk (show (p.length == 0) = true by rw [beq_iff_eq, ← hlen]; exact l0)
          subst l0
          clear hlen n1 hin
          go_enter Try.func82, Try.ntmps82
          go_wp2
          go_ret3
          exact ⟨by rw [hE.out, hz.out]; rfl, (by repeat (first | exact Below.refl _ _ | apply below_drew | apply pw_below_drewN))⟩
        · have l0b : ((len : Int) == 0) = false := by rw [beq_eq_false_iff_ne]; omega
          have l0c : decide ((len : Int) - 1 < 0) = false := by simp; omega
          have hz := Aside0.mk (show (p.length == 0) = false by rw [beq_eq_false_iff_ne, ← hlen]; omega)
          clear hlen n1 hin
          go_enter Try.func82, Try.ntmps82
          go_wp2
          go_ret3
          exact ⟨by rw [hE.out, hz.out]; rfl, (by repeat (first | exact Below.refl _ _ | apply below_drew | apply pw_below_drewN))⟩
      | false =>
        by_cases l1 : len = 1
        · have hE := Aside0.mk (show growF (f + 1) x i n false p = (p.getD 0 0, p.getD 0 0, true) by rw [growF, if_pos n1, if_neg (by simp), if_pos (by omega)])
          obtain ⟨ad, rfl, hx0⟩ := last_cell (m := 0) (show Kd.C (Kd.int .u64) w A (0 + 1) p by have h := hr.out; rw [l1] at h; exact h) (by omega)
          rw [Addr.add_zero'] at hx0
          subst l1
          clear hlen n1 hin
          go_enter Try.func82, Try.ntmps82
          go_wp2
          repeat (go_quiet (fail); try go_wp2)
          go_ret3
          exact ⟨by rw [hE.out]; rfl, (by repeat (first | exact Below.refl _ _ | apply below_drew | apply pw_below_drewN))⟩
        · have hE := Aside0.mk (show growF (f + 1) x i n false p = (0, 0, false) by rw [growF, if_pos n1, if_neg (by simp), if_neg (by omega)])
          by_cases l0 : len = 0
          · subst l0
            clear hlen n1 hin
            go_enter Try.func82, Try.ntmps82
            go_wp2
            go_ret3
            exact ⟨by rw [hE.out]; rfl, (by repeat (first | exact Below.refl _ _ | apply below_drew | apply pw_below_drewN))⟩
          · have l1b : ((len : Int) == 1) = false := by rw [beq_eq_false_iff_ne]; omega
            have l1c : ((len : Int) - 1 == 0) = false := by rw [beq_eq_false_iff_ne]; omega
            have l1d : ((len : Int) - 1 != 0) = true := by rw [bne_iff_ne]; omega
            have l1e : ((len : Int) != 1) = true := by rw [bne_iff_ne]; omega
            clear hlen n1 hin
            go_enter Try.func82, Try.ntmps82
            go_wp2
            go_ret3
            exact ⟨by rw [hE.out]; rfl, (by repeat (first | exact Below.refl _ _ | apply below_drew | apply pw_below_drewN))⟩
    · have n1b : ((i : Int) == (n : Int)) = false := by rw [beq_eq_false_iff_ne]; omega
      by_cases l0 : len = 0
      · have hE := Aside0.mk (show growF (f + 1) x i n b p = (0, 0, false) by rw [growF, if_neg n1, if_pos (by omega)])
        subst l0
        clear hlen n1 hin
        go_enter Try.func82, Try.ntmps82
        go_wp2
        go_ret3
        exact ⟨by rw [hE.out]; rfl, (by repeat (first | exact Below.refl _ _ | apply below_drew | apply pw_below_drewN))⟩
      · obtain ⟨m, rfl⟩ : ∃ m, len = m + 1 := ⟨len - 1, by omega⟩
        have h2 : 2 ≤ n := by omega
        have s1 := split_lt h2
        have s2 := split_pos n
        obtain ⟨ad, rfl, hx0⟩ := last_cell hr.out hlen.symm
        have hpl : p.length - 1 = m := by omega
        have hcm : m + 1 ≤ c := hc.out
        have hl1 := Aside0.mk (show m = (p.take m).length by rw [List.length_take]; omega)
        have hC := Aside0.mk (show Kd.C (Kd.int .u64) w (some ad) m (p.take m) by
          have h := Kd.C_take (m := m) (show Kd.C (Kd.int .u64) w (some ad) p.length p by rw [← hlen]; exact hr.out) (by omega)
          rw [show (p.take m).length = m by rw [List.length_take]; omega] at h
          exact h)
        have l0b : ((m : Int) + 1 == 0) = false := by rw [beq_eq_false_iff_ne]; omega
        have l0d : decide ((m : Int) < 0) = false := by simp
        by_cases hk : i ≤ splitS n
        · have hE := Aside0.mk (show growF (f + 1) x i n b p = ((growF f x i (splitS n) b (p.take m)).1, nodeS (growF f x i (splitS n) b (p.take m)).2.1 (p.getD m 0), (growF f x i (splitS n) b (p.take m)).2.2) by rw [growF, if_neg n1, if_neg (by omega), if_pos hk, hpl])
          have hkb : decide ((i : Int) ≤ (splitS n : Int)) = true := by simp; omega
          have hkn : decide (i ≤ splitS n) = true := by simp; omega
          clear n1 l0 hlen hpl
          have hx := Aside0.mk hx0
          clear hx0
          go_enter Try.func82, Try.ntmps82
          go_wp2
          refine rg_ [0, 1, 2, 3, 4, 5, 6, 7] [(0, 43), (1, 44), (2, 45), (3, 46), (4, 47), (5, 48), (6, 14), (7, 15)] (bitsOf (rtab .any (opsOf Try.f82 10)).2) (grow10Rel m ad n c (p.getD m 0)) (by kernel_rfl) rfl (by kernel_rfl) rfl (by kernel_rfl) ?stab ?steps ?rend
          case steps =>
            refine steps_cons (fun a1 w1 hB hsz hdf hn hd => ⟨_, rfl, fun K hK => ?_⟩) ?_
            · have e4 := eval_of ((hn 4 rfl).trans rfl)
              have hbW2 := hB
              clear hbW2
              refine value_ (v := .slice (some ad) (m + 1) c) (w1 := w1) rfl rfl ?_ (hK _ _ (Below.refl _ _) rfl)
              clear hd hn hK
              simp only [execOp, Option.map_some, Option.map_none, List.map_toArray, List.map_cons, List.map_nil, List.getElem_toArray, List.getElem_cons_zero, List.getElem_cons_succ, e4]
              clear e4
              clear hr hc ih hE hB hC hl1 hx
              go_simp
            refine steps_cons (fun a1 w1 hB hsz hdf hn hd => ⟨_, rfl, fun K hK => ?_⟩) ?_
            · have e13 := eval_of ((hn 13 rfl).trans rfl)
              have hbW2 := hB
              clear hbW2
              refine value_ (v := .int .i64 (m : Int)) (w1 := w1) rfl rfl ?_ (hK _ _ (Below.refl _ _) rfl)
              clear hd hn hK
              simp only [execOp, Option.map_some, Option.map_none, List.map_toArray, List.map_cons, List.map_nil, List.getElem_toArray, List.getElem_cons_zero, List.getElem_cons_succ, e13]
              clear e13
              clear hr hc ih hE hB hC hl1 hx
              go_simp
            refine steps_cons (fun a1 w1 hB hsz hdf hn hd => ⟨_, rfl, fun K hK => ?_⟩) ?_
            · obtain ⟨v43, h43, rfl⟩ := hd 0 43 rfl (by kernel_rfl)
              have e43 := eval_of h43
              clear h43
              obtain ⟨v44, h44, rfl⟩ := hd 1 44 rfl (by kernel_rfl)
              have e44 := eval_of h44
              clear h44
              have hbW2 := hB
              clear hbW2
              refine value_ (v := .pointer (some (ad.add m))) (w1 := w1) rfl rfl ?_ (hK _ _ (Below.refl _ _) rfl)
              clear hd hn hK
              simp only [execOp, Option.map_some, Option.map_none, List.map_toArray, List.map_cons, List.map_nil, List.getElem_toArray, List.getElem_cons_zero, List.getElem_cons_succ, e43, e44]
              clear e43 e44
              clear hr hc ih hE hB hC hl1 hx
              go_simp
              intro habs
              omega
            refine steps_cons (fun a1 w1 hB hsz hdf hn hd => ⟨_, rfl, fun K hK => ?_⟩) ?_
            · obtain ⟨v45, h45, rfl⟩ := hd 2 45 rfl (by kernel_rfl)
              have e45 := eval_of h45
              clear h45
              have hbW2 := hB
              have c1 : w1.cell? (ad.add m) = some (.int .u64 (p.getD m 0)) := pw_cell_below hbW2 hx.out
              clear hbW2
              refine value_ (v := .int .u64 (p.getD m 0)) (w1 := w1) rfl rfl ?_ (hK _ _ (Below.refl _ _) rfl)
              clear hd hn hK
              simp only [execOp, Option.map_some, Option.map_none, List.map_toArray, List.map_cons, List.map_nil, List.getElem_toArray, List.getElem_cons_zero, List.getElem_cons_succ, e45]
              clear e45
              clear hr hc ih hE hB hC hl1 hx
              go_simp
            refine steps_cons (fun a1 w1 hB hsz hdf hn hd => ⟨_, rfl, fun K hK => ?_⟩) ?_
            · have e2 := eval_of ((hn 2 rfl).trans rfl)
              have hbW2 := hB
              clear hbW2
              refine value_ (v := .int .i64 (n : Int)) (w1 := w1) rfl rfl ?_ (hK _ _ (Below.refl _ _) rfl)
              clear hd hn hK
              simp only [execOp, Option.map_some, Option.map_none, List.map_toArray, List.map_cons, List.map_nil, List.getElem_toArray, List.getElem_cons_zero, List.getElem_cons_succ, e2]
              clear e2
              clear hr hc ih hE hB hC hl1 hx
              go_simp
            refine steps_cons (fun a1 w1 hB hsz hdf hn hd => ⟨_, rfl, fun K hK => ?_⟩) ?_
            · obtain ⟨v47, h47, rfl⟩ := hd 4 47 rfl (by kernel_rfl)
              have e47 := eval_of h47
              clear h47
              refine goes_ Try.func117 (by kernel_rfl) rfl #[.int .i64 (n : Int)] (by rfl) rfl rfl (by simp only [List.map_toArray, List.map_cons, List.map_nil, e47]) ?_
              refine (split_any n h2 h5 w1).mono ?_
              rintro e w2 ⟨rfl, hdr⟩
              exact ⟨_, rfl, hK _ _ hdr.below rfl⟩
            refine steps_cons (fun a1 w1 hB hsz hdf hn hd => ⟨_, rfl, fun K hK => ?_⟩) ?_
            · obtain ⟨v46, h46, rfl⟩ := hd 3 46 rfl (by kernel_rfl)
              have e46 := eval_of h46
              clear h46
              have hbW2 := hB
              clear hbW2
              refine value_ (v := .int .u64 (p.getD m 0)) (w1 := w1) rfl rfl ?_ (hK _ _ (Below.refl _ _) rfl)
              clear hd hn hK
              simp only [execOp, Option.map_some, Option.map_none, List.map_toArray, List.map_cons, List.map_nil, List.getElem_toArray, List.getElem_cons_zero, List.getElem_cons_succ, e46]
              clear e46
              clear hr hc ih hE hB hC hl1 hx
              go_simp
            refine steps_cons (fun a1 w1 hB hsz hdf hn hd => ⟨_, rfl, fun K hK => ?_⟩) ?_
            · obtain ⟨v48, h48, rfl⟩ := hd 5 48 rfl (by kernel_rfl)
              have e48 := eval_of h48
              clear h48
              have hbW2 := hB
              clear hbW2
              refine value_ (v := .int .i64 (splitS n : Int)) (w1 := w1) rfl rfl ?_ (hK _ _ (Below.refl _ _) rfl)
              clear hd hn hK
              simp only [execOp, Option.map_some, Option.map_none, List.map_toArray, List.map_cons, List.map_nil, List.getElem_toArray, List.getElem_cons_zero, List.getElem_cons_succ, e48]
              clear e48
              clear hr hc ih hE hB hC hl1 hx
              go_simp
            exact steps_nil
          case stab => exact fun i v w w' => grow10Rel_stable _ _ _ _ _ i v w w'
          case rend =>
            intro vals w2 hB hrr
            have hq1 := hrr (6, 14) (by simp)
            have hq2 := hrr (7, 15) (by simp)
            have hq1' : vals 6 = .int .u64 (p.getD m 0) := hq1
            have hq2' : vals 7 = .int .i64 (splitS n : Int) := hq2
            clear hq1 hq2 hrr
            simp only [fill, Act.put, List.setIfInBounds_toArray, List.set_cons_zero, List.set_cons_succ]
            rw [hq1', hq2']
            clear hq1' hq2'
            have HB0 := Aside0.mk hB
            clear hB
            go_wp2_with fail
            have HC2 := Aside0.mk (Kd.C_below hC.out HB0.out)
            refine (ih.out x i (splitS n) b (p.take m) m _ c _ hl1.out (by omega) (by omega) (by omega) (by omega) HC2.out (by omega) (by omega)).mono ?_
            rintro e w2 ⟨rfl, hb⟩
            have hbw : Below w.heap.size w w2 := below_step HB0.out hb
            generalize growF f x i (splitS n) b (p.take m) = res at hE ⊢
            have HB := Aside0.mk hbw
            clear hb hbw hr hc HC2 hl1 ih hC
            go_wp2_with fail
            refine (node_any _ _ _).mono ?_
            rintro e w3 ⟨rfl, hb3⟩
            have HB3 := Aside0.mk (below_step HB.out hb3)
            clear hb3
            clear HB
            go_wp2
            go_ret3
            exact ⟨by rw [hE.out]; rfl, HB3.out⟩
        · have hE := Aside0.mk (show growF (f + 1) x i n b p = (nodeS (p.getD m 0) (growF f x (i - splitS n) (n - splitS n) false (p.take m)).1, nodeS (p.getD m 0) (growF f x (i - splitS n) (n - splitS n) false (p.take m)).2.1, (growF f x (i - splitS n) (n - splitS n) false (p.take m)).2.2) by rw [growF, if_neg n1, if_neg (by omega), if_neg hk, hpl])
          have hkb : decide ((i : Int) ≤ (splitS n : Int)) = false := by simp; omega
          have hkn : decide (i ≤ splitS n) = false := by simp; omega
          have hs1 : IntKind.i64.wrap ((n : Int) - (splitS n : Int)) = (n : Int) - (splitS n : Int) := by rw [i64_w]; unfold wrap64; omega
          have hs2 : IntKind.i64.wrap ((i : Int) - (splitS n : Int)) = (i : Int) - (splitS n : Int) := by rw [i64_w]; unfold wrap64; omega
          clear n1 l0 hlen hpl
          have hx := Aside0.mk hx0
          clear hx0
          go_enter Try.func82, Try.ntmps82
          go_wp2
          refine rg_ [0, 1, 2, 3, 4, 5, 6, 7] [(0, 43), (1, 44), (2, 45), (3, 46), (4, 47), (5, 48), (6, 14), (7, 15)] (bitsOf (rtab .any (opsOf Try.f82 10)).2) (grow10Rel m ad n c (p.getD m 0)) (by kernel_rfl) rfl (by kernel_rfl) rfl (by kernel_rfl) ?stab ?steps ?rend
          case steps =>
            refine steps_cons (fun a1 w1 hB hsz hdf hn hd => ⟨_, rfl, fun K hK => ?_⟩) ?_
            · have e4 := eval_of ((hn 4 rfl).trans rfl)
              have hbW2 := hB
              clear hbW2
              refine value_ (v := .slice (some ad) (m + 1) c) (w1 := w1) rfl rfl ?_ (hK _ _ (Below.refl _ _) rfl)
              clear hd hn hK
              simp only [execOp, Option.map_some, Option.map_none, List.map_toArray, List.map_cons, List.map_nil, List.getElem_toArray, List.getElem_cons_zero, List.getElem_cons_succ, e4]
              clear e4
              clear hr hc ih hE hB hC hl1 hx
              go_simp
            refine steps_cons (fun a1 w1 hB hsz hdf hn hd => ⟨_, rfl, fun K hK => ?_⟩) ?_
            · have e13 := eval_of ((hn 13 rfl).trans rfl)
              have hbW2 := hB
              clear hbW2
              refine value_ (v := .int .i64 (m : Int)) (w1 := w1) rfl rfl ?_ (hK _ _ (Below.refl _ _) rfl)
              clear hd hn hK
              simp only [execOp, Option.map_some, Option.map_none, List.map_toArray, List.map_cons, List.map_nil, List.getElem_toArray, List.getElem_cons_zero, List.getElem_cons_succ, e13]
              clear e13
              clear hr hc ih hE hB hC hl1 hx
              go_simp
            refine steps_cons (fun a1 w1 hB hsz hdf hn hd => ⟨_, rfl, fun K hK => ?_⟩) ?_
            · obtain ⟨v43, h43, rfl⟩ := hd 0 43 rfl (by kernel_rfl)
              have e43 := eval_of h43
              clear h43
              obtain ⟨v44, h44, rfl⟩ := hd 1 44 rfl (by kernel_rfl)
              have e44 := eval_of h44
              clear h44
              have hbW2 := hB
              clear hbW2
              refine value_ (v := .pointer (some (ad.add m))) (w1 := w1) rfl rfl ?_ (hK _ _ (Below.refl _ _) rfl)
              clear hd hn hK
              simp only [execOp, Option.map_some, Option.map_none, List.map_toArray, List.map_cons, List.map_nil, List.getElem_toArray, List.getElem_cons_zero, List.getElem_cons_succ, e43, e44]
              clear e43 e44
              clear hr hc ih hE hB hC hl1 hx
              go_simp
              intro habs
              omega
            refine steps_cons (fun a1 w1 hB hsz hdf hn hd => ⟨_, rfl, fun K hK => ?_⟩) ?_
            · obtain ⟨v45, h45, rfl⟩ := hd 2 45 rfl (by kernel_rfl)
              have e45 := eval_of h45
              clear h45
              have hbW2 := hB
              have c1 : w1.cell? (ad.add m) = some (.int .u64 (p.getD m 0)) := pw_cell_below hbW2 hx.out
              clear hbW2
              refine value_ (v := .int .u64 (p.getD m 0)) (w1 := w1) rfl rfl ?_ (hK _ _ (Below.refl _ _) rfl)
              clear hd hn hK
              simp only [execOp, Option.map_some, Option.map_none, List.map_toArray, List.map_cons, List.map_nil, List.getElem_toArray, List.getElem_cons_zero, List.getElem_cons_succ, e45]
              clear e45
              clear hr hc ih hE hB hC hl1 hx
              go_simp
            refine steps_cons (fun a1 w1 hB hsz hdf hn hd => ⟨_, rfl, fun K hK => ?_⟩) ?_
            · have e2 := eval_of ((hn 2 rfl).trans rfl)
              have hbW2 := hB
              clear hbW2
              refine value_ (v := .int .i64 (n : Int)) (w1 := w1) rfl rfl ?_ (hK _ _ (Below.refl _ _) rfl)
              clear hd hn hK
              simp only [execOp, Option.map_some, Option.map_none, List.map_toArray, List.map_cons, List.map_nil, List.getElem_toArray, List.getElem_cons_zero, List.getElem_cons_succ, e2]
              clear e2
              clear hr hc ih hE hB hC hl1 hx
              go_simp
            refine steps_cons (fun a1 w1 hB hsz hdf hn hd => ⟨_, rfl, fun K hK => ?_⟩) ?_
            · obtain ⟨v47, h47, rfl⟩ := hd 4 47 rfl (by kernel_rfl)
              have e47 := eval_of h47
              clear h47
              refine goes_ Try.func117 (by kernel_rfl) rfl #[.int .i64 (n : Int)] (by rfl) rfl rfl (by simp only [List.map_toArray, List.map_cons, List.map_nil, e47]) ?_
              refine (split_any n h2 h5 w1).mono ?_
              rintro e w2 ⟨rfl, hdr⟩
              exact ⟨_, rfl, hK _ _ hdr.below rfl⟩
            refine steps_cons (fun a1 w1 hB hsz hdf hn hd => ⟨_, rfl, fun K hK => ?_⟩) ?_
            · obtain ⟨v46, h46, rfl⟩ := hd 3 46 rfl (by kernel_rfl)
              have e46 := eval_of h46
              clear h46
              have hbW2 := hB
              clear hbW2
              refine value_ (v := .int .u64 (p.getD m 0)) (w1 := w1) rfl rfl ?_ (hK _ _ (Below.refl _ _) rfl)
              clear hd hn hK
              simp only [execOp, Option.map_some, Option.map_none, List.map_toArray, List.map_cons, List.map_nil, List.getElem_toArray, List.getElem_cons_zero, List.getElem_cons_succ, e46]
              clear e46
              clear hr hc ih hE hB hC hl1 hx
              go_simp
            refine steps_cons (fun a1 w1 hB hsz hdf hn hd => ⟨_, rfl, fun K hK => ?_⟩) ?_
            · obtain ⟨v48, h48, rfl⟩ := hd 5 48 rfl (by kernel_rfl)
              have e48 := eval_of h48
              clear h48
              have hbW2 := hB
              clear hbW2
              refine value_ (v := .int .i64 (splitS n : Int)) (w1 := w1) rfl rfl ?_ (hK _ _ (Below.refl _ _) rfl)
              clear hd hn hK
              simp only [execOp, Option.map_some, Option.map_none, List.map_toArray, List.map_cons, List.map_nil, List.getElem_toArray, List.getElem_cons_zero, List.getElem_cons_succ, e48]
              clear e48
              clear hr hc ih hE hB hC hl1 hx
              go_simp
            exact steps_nil
          case stab => exact fun i v w w' => grow10Rel_stable _ _ _ _ _ i v w w'
          case rend =>
            intro vals w2 hB hrr
            have hq1 := hrr (6, 14) (by simp)
            have hq2 := hrr (7, 15) (by simp)
            have hq1' : vals 6 = .int .u64 (p.getD m 0) := hq1
            have hq2' : vals 7 = .int .i64 (splitS n : Int) := hq2
            clear hq1 hq2 hrr
            simp only [fill, Act.put, List.setIfInBounds_toArray, List.set_cons_zero, List.set_cons_succ]
            rw [hq1', hq2']
            clear hq1' hq2'
            have HB0 := Aside0.mk hB
            clear hB
            go_wp2_with fail
            have HC2 := Aside0.mk (Kd.C_below hC.out HB0.out)
            rw [show ((n : Int) - (splitS n : Int)) = ((n - splitS n : Nat) : Int) from by omega, show ((i : Int) - (splitS n : Int)) = ((i - splitS n : Nat) : Int) from by omega]
            refine (ih.out x (i - splitS n) (n - splitS n) false (p.take m) m _ c _ hl1.out (by omega) (by omega) (by omega) (by omega) HC2.out (by omega) (by omega)).mono ?_
            rintro e w2 ⟨rfl, hb⟩
            have hbw : Below w.heap.size w w2 := below_step HB0.out hb
            generalize growF f x (i - splitS n) (n - splitS n) false (p.take m) = res at hE ⊢
            have HB := Aside0.mk hbw
            clear hb hbw hr hc HC2 hl1 ih hC
            go_wp2_with fail
            refine (node_any _ _ _).mono ?_
            rintro e w3 ⟨rfl, hb3⟩
            have HB3 := Aside0.mk (below_step HB.out hb3)
            clear hb3 HB
            go_wp2_with fail
            refine (node_any _ _ _).mono ?_
            rintro e w4 ⟨rfl, hb4⟩
            have HB4 := Aside0.mk (below_step HB3.out hb4)
            clear hb4 HB3
            go_wp2
            go_ret3
            exact ⟨by rw [hE.out]; rfl, HB4.out⟩
end Go.Proofs.Ytkedodmlbepfnaa.Lg

-- from the working text Rgrow
set_option linter.unusedSimpArgs false
set_option linter.unusedVariables false
namespace Go.Proofs.Ytkedodmlbepfnaa.Lg
open Go.RowKit Go.Proofs.YtkedodmlbepfnaaW.PrintWords Go.Proofs.YtkedodmlbepfnaaW.PrintLast Go.Proofs.YtkedodmlbepfnaaW.PrintMore Go.Proofs.Ytkedodmlbepfnaa.Rg
def grow15Rel (m : Nat) (ad : Addr) (c : Nat) (h : Int) (res : Int × Int × Bool) : Nat → Value → World → Prop
  | 0, v, _ => v = .slice (some ad) (m + 1) c
  | 1, v, _ => v = .int .i64 (m : Int)
  | 2, v, _ => v = .pointer (some (ad.add m))
  | 3, v, _ => v = .int .u64 h
  | 4, v, _ => v = .int .u64 res.1
  | 5, v, _ => v = .int .u64 (nodeS h res.1)
  | 6, v, _ => v = .slice (some ad) (m + 1) c
  | 7, v, _ => v = .int .i64 (m : Int)
  | 8, v, _ => v = .pointer (some (ad.add m))
  | 9, v, _ => v = .int .u64 h
  | 10, v, _ => v = .int .u64 res.2.1
  | 11, v, _ => v = .int .u64 (nodeS h res.2.1)
  | 12, v, _ => v = .bool res.2.2
  | 13, v, _ => v = .int .u64 (nodeS h res.1)
  | 14, v, _ => v = .int .u64 (nodeS h res.2.1)
  | 15, v, _ => v = .bool res.2.2
  | _, _, _ => True
theorem grow15Rel_stable (m : Nat) (ad : Addr) (c : Nat) (h : Int) (res : Int × Int × Bool) (i : Nat) (v : Value) (w w' : World) (hh : grow15Rel m ad c h res i v w) (hb : Below w.heap.size w w') : grow15Rel m ad c h res i v w' := by
  revert hh
  unfold grow15Rel
  split <;> intro h <;> exact h
set_option maxHeartbeats 8000000 in
set_option maxRecDepth 100000 in
theorem rgrow_calls : ∀ (f : Nat) (x : Int) (i n : Nat) (b : Bool) (p : List Int) (len : Nat) (A : Option Addr) (c : Nat) (w : World), len = p.length → len < f → 1 ≤ i → i ≤ n → n ≤ 512 → Kd.C (Kd.int .u64) w A len p → len ≤ c → len ≤ 1000000 → U64 x → (∀ y ∈ p, U64 y) → 
    Calls Try.prog 83 #[.int .u64 x, .int .i64 (i : Int), .int .i64 (n : Int), .bool b, .slice A len c] w fun e w' => e = .returned (.tuple #[.int .u64 (growF f x i n b p).1, .int .u64 (growF f x i n b p).2.1, .bool (growF f x i n b p).2.2]) ∧ Below w.heap.size w w' := by
  intro f
  induction f with
  | zero => intro x i n b p len A c w hlen hf; omega
  | succ f ih0 =>
    intro x i n b p len A c w hlen hf h1 hin h5 hr0 hc0 hl hux hup
    have hr := Aside0.mk hr0
    have hc := Aside0.mk hc0
    have ih := Aside0.mk ih0
    clear hr0 hc0 ih0
    have hup := Aside0.mk hup
    by_cases n1 : i = n
    · have n1b : ((i : Int) == (n : Int)) = true := by rw [beq_iff_eq]; omega
      cases b with
      | true =>
        have hE := Aside0.mk (show growF (f + 1) x i n true p = (x, x, p.length == 0) by rw [growF, if_pos n1, if_pos rfl])
        by_cases l0 : len = 0
        · have hz := Aside0.mk (show (p.length == 0) = true by rw [beq_iff_eq, ← hlen]; exact l0)
          subst l0
          clear hlen n1 hin
          go_enter Try.func83, Try.ntmps83
          go_wp2
          go_ret3
          exact ⟨by rw [hE.out, hz.out]; rfl, (by repeat (first | exact Below.refl _ _ | apply below_drew | apply pw_below_drewN))⟩
        · have l0b : ((len : Int) == 0) = false := by rw [beq_eq_false_iff_ne]; omega
          have l0c : decide ((len : Int) - 1 < 0) = false := by simp; omega
          have hz := Aside0.mk (show (p.length == 0) = false by rw [beq_eq_false_iff_ne, ← hlen]; omega)
          clear hlen n1 hin
          go_enter Try.func83, Try.ntmps83
          go_wp2
          go_ret3
          exact ⟨by rw [hE.out, hz.out]; rfl, (by repeat (first | exact Below.refl _ _ | apply below_drew | apply pw_below_drewN))⟩
      | false =>
        by_cases l1 : len = 1
        · have hE := Aside0.mk (show growF (f + 1) x i n false p = (p.getD 0 0, p.getD 0 0, true) by rw [growF, if_pos n1, if_neg (by simp), if_pos (by omega)])
          obtain ⟨ad, rfl, hx0⟩ := last_cell (m := 0) (show Kd.C (Kd.int .u64) w A (0 + 1) p by have h := hr.out; rw [l1] at h; exact h) (by omega)
          rw [Addr.add_zero'] at hx0
          subst l1
          clear hlen n1 hin
          go_enter Try.func83, Try.ntmps83
          go_wp2
          repeat (go_quiet (fail); try go_wp2)
          go_ret3
          exact ⟨by rw [hE.out]; rfl, (by repeat (first | exact Below.refl _ _ | apply below_drew | apply pw_below_drewN))⟩
        · have hE := Aside0.mk (show growF (f + 1) x i n false p = (0, 0, false) by rw [growF, if_pos n1, if_neg (by simp), if_neg (by omega)])
          by_cases l0 : len = 0
          · subst l0
            clear hlen n1 hin
            go_enter Try.func83, Try.ntmps83
            go_wp2
            go_ret3
            exact ⟨by rw [hE.out]; rfl, (by repeat (first | exact Below.refl _ _ | apply below_drew | apply pw_below_drewN))⟩
          · have l1b : ((len : Int) == 1) = false := by rw [beq_eq_false_iff_ne]; omega
            have l1c : ((len : Int) - 1 == 0) = false := by rw [beq_eq_false_iff_ne]; omega
            have l1d : ((len : Int) - 1 != 0) = true := by rw [bne_iff_ne]; omega
            have l1e : ((len : Int) != 1) = true := by rw [bne_iff_ne]; omega
            clear hlen n1 hin
            go_enter Try.func83, Try.ntmps83
            go_wp2
            go_ret3
            exact ⟨by rw [hE.out]; rfl, (by repeat (first | exact Below.refl _ _ | apply below_drew | apply pw_below_drewN))⟩
    · have n1b : ((i : Int) == (n : Int)) = false := by rw [beq_eq_false_iff_ne]; omega
      by_cases l0 : len = 0
      · have hE := Aside0.mk (show growF (f + 1) x i n b p = (0, 0, false) by rw [growF, if_neg n1, if_pos (by omega)])
        subst l0
        clear hlen n1 hin
        go_enter Try.func83, Try.ntmps83
        go_wp2
        go_ret3
        exact ⟨by rw [hE.out]; rfl, (by repeat (first | exact Below.refl _ _ | apply below_drew | apply pw_below_drewN))⟩
      · obtain ⟨m, rfl⟩ : ∃ m, len = m + 1 := ⟨len - 1, by omega⟩
        have h2 : 2 ≤ n := by omega
        have s1 := split_lt h2
        have s2 := split_pos n
        obtain ⟨ad, rfl, hx0⟩ := last_cell hr.out hlen.symm
        have hpl : p.length - 1 = m := by omega
        have hcm : m + 1 ≤ c := hc.out
        have hl1 := Aside0.mk (show m = (p.take m).length by rw [List.length_take]; omega)
        have hC := Aside0.mk (show Kd.C (Kd.int .u64) w (some ad) m (p.take m) by
          have h := Kd.C_take (m := m) (show Kd.C (Kd.int .u64) w (some ad) p.length p by rw [← hlen]; exact hr.out) (by omega)
          rw [show (p.take m).length = m by rw [List.length_take]; omega] at h
          exact h)
        have l0b : ((m : Int) + 1 == 0) = false := by rw [beq_eq_false_iff_ne]; omega
        have l0d : decide ((m : Int) < 0) = false := by simp
        have hum := Aside0.mk (getD_u64 hup.out m)
        by_cases hk : i ≤ splitS n
        · have hE := Aside0.mk (show growF (f + 1) x i n b p = ((growF f x i (splitS n) b (p.take m)).1, nodeS (growF f x i (splitS n) b (p.take m)).2.1 (p.getD m 0), (growF f x i (splitS n) b (p.take m)).2.2) by rw [growF, if_neg n1, if_neg (by omega), if_pos hk, hpl])
          have hkb : decide ((i : Int) ≤ (splitS n : Int)) = true := by simp; omega
          have hkn : decide (i ≤ splitS n) = true := by simp; omega
          clear n1 l0 hlen hpl
          have hx := Aside0.mk hx0
          clear hx0
          go_enter Try.func83, Try.ntmps83
          go_wp2_with (first | (go_at_call 105; (with_reducible refine (rsplit_any n h2 h5 _).mono ?_); rintro e w' ⟨rfl, ⟨nd, rfl⟩⟩))
          have HB0 := Aside0.mk (pw_below_drewN (Below.refl w.heap.size w) nd)
          have HC2 := Aside0.mk (Kd.C_below hC.out HB0.out)
          refine (ih.out x i (splitS n) b (p.take m) m _ m _ hl1.out (by omega) (by omega) (by omega) (by omega) HC2.out (by omega) (by omega) hux (fun y hy => hup.out y (List.mem_of_mem_take hy))).mono ?_
          rintro e w2 ⟨rfl, hb⟩
          have hbw : Below w.heap.size w w2 := below_step HB0.out hb
          have hures : U64 (growF f x i (splitS n) b (p.take m)).1 ∧ U64 (growF f x i (splitS n) b (p.take m)).2.1 := growF_u64 _ _ _ _ _ _ hux (fun y hy => hup.out y (List.mem_of_mem_take hy))
          generalize growF f x i (splitS n) b (p.take m) = res at hE hures ⊢
          have hx2 : w2.cell? (ad.add m) = some (.int .u64 (p.getD m 0)) := pw_cell_below hbw hx.out
          have HB := Aside0.mk hbw
          clear hb hbw hr hc HC2 hl1 ih hC
          have hq0 : decide ((m : Int) < (m : Int) + 1) = true := by simp; omega
          go_wp2_with fail
          refine (rnode_any _ _ hures.2 hum.out _).mono ?_
          rintro e w3 ⟨rfl, hb3⟩
          have HB3 := Aside0.mk (below_step HB.out hb3)
          clear hb3
          clear HB
          go_wp2
          go_ret3
          exact ⟨by rw [hE.out]; rfl, HB3.out⟩
        · have hE := Aside0.mk (show growF (f + 1) x i n b p = (nodeS (p.getD m 0) (growF f x (i - splitS n) (n - splitS n) false (p.take m)).1, nodeS (p.getD m 0) (growF f x (i - splitS n) (n - splitS n) false (p.take m)).2.1, (growF f x (i - splitS n) (n - splitS n) false (p.take m)).2.2) by rw [growF, if_neg n1, if_neg (by omega), if_neg hk, hpl])
          have hkb : decide ((i : Int) ≤ (splitS n : Int)) = false := by simp; omega
          have hkn : decide (i ≤ splitS n) = false := by simp; omega
          have hs1 : IntKind.i64.wrap ((n : Int) - (splitS n : Int)) = (n : Int) - (splitS n : Int) := by rw [i64_w]; unfold wrap64; omega
          have hs2 : IntKind.i64.wrap ((i : Int) - (splitS n : Int)) = (i : Int) - (splitS n : Int) := by rw [i64_w]; unfold wrap64; omega
          clear n1 l0 hlen hpl
          have hx := Aside0.mk hx0
          clear hx0
          go_enter Try.func83, Try.ntmps83
          go_wp2_with (first | (go_at_call 105; (with_reducible refine (rsplit_any n h2 h5 _).mono ?_); rintro e w' ⟨rfl, ⟨nd, rfl⟩⟩))
          have HB0 := Aside0.mk (pw_below_drewN (Below.refl w.heap.size w) nd)
          have HC2 := Aside0.mk (Kd.C_below hC.out HB0.out)
          rw [show ((n : Int) - (splitS n : Int)) = ((n - splitS n : Nat) : Int) from by omega, show ((i : Int) - (splitS n : Int)) = ((i - splitS n : Nat) : Int) from by omega]
          refine (ih.out x (i - splitS n) (n - splitS n) false (p.take m) m _ m _ hl1.out (by omega) (by omega) (by omega) (by omega) HC2.out (by omega) (by omega) hux (fun y hy => hup.out y (List.mem_of_mem_take hy))).mono ?_
          rintro e w2 ⟨rfl, hb⟩
          have hbw : Below w.heap.size w w2 := below_step HB0.out hb
          have hures : U64 (growF f x (i - splitS n) (n - splitS n) false (p.take m)).1 ∧ U64 (growF f x (i - splitS n) (n - splitS n) false (p.take m)).2.1 := growF_u64 _ _ _ _ _ _ hux (fun y hy => hup.out y (List.mem_of_mem_take hy))
          generalize growF f x (i - splitS n) (n - splitS n) false (p.take m) = res at hE hures ⊢
          have hx2 : w2.cell? (ad.add m) = some (.int .u64 (p.getD m 0)) := pw_cell_below hbw hx.out
          have HB := Aside0.mk hbw
          clear hb hbw hr hc HC2 hl1 ih hC
          have hq0 : decide ((m : Int) < (m : Int) + 1) = true := by simp; omega
          go_wp2
          refine rg_ [0, 1, 2, 3, 4, 5, 6, 7, 8, 9, 10, 11, 12, 13, 14, 15] [(0, 87), (1, 88), (2, 89), (3, 90), (4, 91), (5, 92), (6, 93), (7, 94), (8, 95), (9, 96), (10, 97), (11, 98), (12, 99), (13, 10), (14, 11), (15, 12)] (bitsOf (rtab .any (opsOf Try.f83 15)).2) (grow15Rel m ad c (p.getD m 0) res) (by kernel_rfl) rfl (by kernel_rfl) rfl (by kernel_rfl) ?stab ?steps ?rend
          case steps =>
            refine steps_cons (fun a1 w1 hB hsz hdf hn hd => ⟨_, rfl, fun K hK => ?_⟩) ?_
            · have e4 := eval_of ((hn 4 rfl).trans rfl)
              clear hx2
              refine value_ (v := .slice (some ad) (m + 1) c) (w1 := w1) rfl rfl ?_ (hK _ _ (Below.refl _ _) rfl)
              clear hd hn hK
              simp only [execOp, Option.map_some, Option.map_none, List.map_toArray, List.map_cons, List.map_nil, List.getElem_toArray, List.getElem_cons_zero, List.getElem_cons_succ, e4]
              clear e4
              clear hE hB HB
              go_simp
            refine steps_cons (fun a1 w1 hB hsz hdf hn hd => ⟨_, rfl, fun K hK => ?_⟩) ?_
            · have e13 := eval_of ((hn 13 rfl).trans rfl)
              clear hx2
              refine value_ (v := .int .i64 (m : Int)) (w1 := w1) rfl rfl ?_ (hK _ _ (Below.refl _ _) rfl)
              clear hd hn hK
              simp only [execOp, Option.map_some, Option.map_none, List.map_toArray, List.map_cons, List.map_nil, List.getElem_toArray, List.getElem_cons_zero, List.getElem_cons_succ, e13]
              clear e13
              clear hE hB HB
              go_simp
            refine steps_cons (fun a1 w1 hB hsz hdf hn hd => ⟨_, rfl, fun K hK => ?_⟩) ?_
            · obtain ⟨v87, h87, rfl⟩ := hd 0 87 rfl (by kernel_rfl)
              have e87 := eval_of h87
              clear h87
              obtain ⟨v88, h88, rfl⟩ := hd 1 88 rfl (by kernel_rfl)
              have e88 := eval_of h88
              clear h88
              clear hx2
              refine value_ (v := .pointer (some (ad.add m))) (w1 := w1) rfl rfl ?_ (hK _ _ (Below.refl _ _) rfl)
              clear hd hn hK
              simp only [execOp, Option.map_some, Option.map_none, List.map_toArray, List.map_cons, List.map_nil, List.getElem_toArray, List.getElem_cons_zero, List.getElem_cons_succ, e87, e88]
              clear e87 e88
              clear hE hB HB
              go_simp
              intro habs
              omega
            refine steps_cons (fun a1 w1 hB hsz hdf hn hd => ⟨_, rfl, fun K hK => ?_⟩) ?_
            · obtain ⟨v89, h89, rfl⟩ := hd 2 89 rfl (by kernel_rfl)
              have e89 := eval_of h89
              clear h89
              have c1 : w1.cell? (ad.add m) = some (.int .u64 (p.getD m 0)) := pw_cell_below hB hx2
              clear hx2
              refine value_ (v := .int .u64 (p.getD m 0)) (w1 := w1) rfl rfl ?_ (hK _ _ (Below.refl _ _) rfl)
              clear hd hn hK
              simp only [execOp, Option.map_some, Option.map_none, List.map_toArray, List.map_cons, List.map_nil, List.getElem_toArray, List.getElem_cons_zero, List.getElem_cons_succ, e89]
              clear e89
              clear hE hB HB
              go_simp
            refine steps_cons (fun a1 w1 hB hsz hdf hn hd => ⟨_, rfl, fun K hK => ?_⟩) ?_
            · have e18 := eval_of ((hn 18 rfl).trans rfl)
              clear hx2
              refine value_ (v := .int .u64 res.1) (w1 := w1) rfl rfl ?_ (hK _ _ (Below.refl _ _) rfl)
              clear hd hn hK
              simp only [execOp, Option.map_some, Option.map_none, List.map_toArray, List.map_cons, List.map_nil, List.getElem_toArray, List.getElem_cons_zero, List.getElem_cons_succ, e18]
              clear e18
              clear hE hB HB
              go_simp
            refine steps_cons (fun a1 w1 hB hsz hdf hn hd => ⟨_, rfl, fun K hK => ?_⟩) ?_
            · obtain ⟨v90, h90, rfl⟩ := hd 3 90 rfl (by kernel_rfl)
              have e90 := eval_of h90
              clear h90
              obtain ⟨v91, h91, rfl⟩ := hd 4 91 rfl (by kernel_rfl)
              have e91 := eval_of h91
              clear h91
              refine goes_ Try.func19 (by kernel_rfl) rfl #[.int .u64 (p.getD m 0), .int .u64 res.1] (by rfl) rfl rfl (by simp only [List.map_toArray, List.map_cons, List.map_nil, e90, e91]) ?_
              refine (rnode_any _ _ hum.out hures.1 w1).mono ?_
              rintro e w3 ⟨rfl, hb3⟩
              exact ⟨_, rfl, hK _ _ hb3 rfl⟩
            refine steps_cons (fun a1 w1 hB hsz hdf hn hd => ⟨_, rfl, fun K hK => ?_⟩) ?_
            · have e4 := eval_of ((hn 4 rfl).trans rfl)
              clear hx2
              refine value_ (v := .slice (some ad) (m + 1) c) (w1 := w1) rfl rfl ?_ (hK _ _ (Below.refl _ _) rfl)
              clear hd hn hK
              simp only [execOp, Option.map_some, Option.map_none, List.map_toArray, List.map_cons, List.map_nil, List.getElem_toArray, List.getElem_cons_zero, List.getElem_cons_succ, e4]
              clear e4
              clear hE hB HB
              go_simp
            refine steps_cons (fun a1 w1 hB hsz hdf hn hd => ⟨_, rfl, fun K hK => ?_⟩) ?_
            · have e13 := eval_of ((hn 13 rfl).trans rfl)
              clear hx2
              refine value_ (v := .int .i64 (m : Int)) (w1 := w1) rfl rfl ?_ (hK _ _ (Below.refl _ _) rfl)
              clear hd hn hK
              simp only [execOp, Option.map_some, Option.map_none, List.map_toArray, List.map_cons, List.map_nil, List.getElem_toArray, List.getElem_cons_zero, List.getElem_cons_succ, e13]
              clear e13
              clear hE hB HB
              go_simp
            refine steps_cons (fun a1 w1 hB hsz hdf hn hd => ⟨_, rfl, fun K hK => ?_⟩) ?_
            · obtain ⟨v93, h93, rfl⟩ := hd 6 93 rfl (by kernel_rfl)
              have e93 := eval_of h93
              clear h93
              obtain ⟨v94, h94, rfl⟩ := hd 7 94 rfl (by kernel_rfl)
              have e94 := eval_of h94
              clear h94
              clear hx2
              refine value_ (v := .pointer (some (ad.add m))) (w1 := w1) rfl rfl ?_ (hK _ _ (Below.refl _ _) rfl)
              clear hd hn hK
              simp only [execOp, Option.map_some, Option.map_none, List.map_toArray, List.map_cons, List.map_nil, List.getElem_toArray, List.getElem_cons_zero, List.getElem_cons_succ, e93, e94]
              clear e93 e94
              clear hE hB HB
              go_simp
              intro habs
              omega
            refine steps_cons (fun a1 w1 hB hsz hdf hn hd => ⟨_, rfl, fun K hK => ?_⟩) ?_
            · obtain ⟨v95, h95, rfl⟩ := hd 8 95 rfl (by kernel_rfl)
              have e95 := eval_of h95
              clear h95
              have c1 : w1.cell? (ad.add m) = some (.int .u64 (p.getD m 0)) := pw_cell_below hB hx2
              clear hx2
              refine value_ (v := .int .u64 (p.getD m 0)) (w1 := w1) rfl rfl ?_ (hK _ _ (Below.refl _ _) rfl)
              clear hd hn hK
              simp only [execOp, Option.map_some, Option.map_none, List.map_toArray, List.map_cons, List.map_nil, List.getElem_toArray, List.getElem_cons_zero, List.getElem_cons_succ, e95]
              clear e95
              clear hE hB HB
              go_simp
            refine steps_cons (fun a1 w1 hB hsz hdf hn hd => ⟨_, rfl, fun K hK => ?_⟩) ?_
            · have e19 := eval_of ((hn 19 rfl).trans rfl)
              clear hx2
              refine value_ (v := .int .u64 res.2.1) (w1 := w1) rfl rfl ?_ (hK _ _ (Below.refl _ _) rfl)
              clear hd hn hK
              simp only [execOp, Option.map_some, Option.map_none, List.map_toArray, List.map_cons, List.map_nil, List.getElem_toArray, List.getElem_cons_zero, List.getElem_cons_succ, e19]
              clear e19
              clear hE hB HB
              go_simp
            refine steps_cons (fun a1 w1 hB hsz hdf hn hd => ⟨_, rfl, fun K hK => ?_⟩) ?_
            · obtain ⟨v96, h96, rfl⟩ := hd 9 96 rfl (by kernel_rfl)
              have e96 := eval_of h96
              clear h96
              obtain ⟨v97, h97, rfl⟩ := hd 10 97 rfl (by kernel_rfl)
              have e97 := eval_of h97
              clear h97
              refine goes_ Try.func19 (by kernel_rfl) rfl #[.int .u64 (p.getD m 0), .int .u64 res.2.1] (by rfl) rfl rfl (by simp only [List.map_toArray, List.map_cons, List.map_nil, e96, e97]) ?_
              refine (rnode_any _ _ hum.out hures.2 w1).mono ?_
              rintro e w3 ⟨rfl, hb3⟩
              exact ⟨_, rfl, hK _ _ hb3 rfl⟩
            refine steps_cons (fun a1 w1 hB hsz hdf hn hd => ⟨_, rfl, fun K hK => ?_⟩) ?_
            · have e20 := eval_of ((hn 20 rfl).trans rfl)
              clear hx2
              refine value_ (v := .bool res.2.2) (w1 := w1) rfl rfl ?_ (hK _ _ (Below.refl _ _) rfl)
              clear hd hn hK
              simp only [execOp, Option.map_some, Option.map_none, List.map_toArray, List.map_cons, List.map_nil, List.getElem_toArray, List.getElem_cons_zero, List.getElem_cons_succ, e20]
              clear e20
              clear hE hB HB
              go_simp
            refine steps_cons (fun a1 w1 hB hsz hdf hn hd => ⟨_, rfl, fun K hK => ?_⟩) ?_
            · obtain ⟨v92, h92, rfl⟩ := hd 5 92 rfl (by kernel_rfl)
              have e92 := eval_of h92
              clear h92
              clear hx2
              refine value_ (v := .int .u64 (nodeS (p.getD m 0) res.1)) (w1 := w1) rfl rfl ?_ (hK _ _ (Below.refl _ _) rfl)
              clear hd hn hK
              simp only [execOp, Option.map_some, Option.map_none, List.map_toArray, List.map_cons, List.map_nil, List.getElem_toArray, List.getElem_cons_zero, List.getElem_cons_succ, e92]
              clear e92
              clear hE hB HB
              go_simp
            refine steps_cons (fun a1 w1 hB hsz hdf hn hd => ⟨_, rfl, fun K hK => ?_⟩) ?_
            · obtain ⟨v98, h98, rfl⟩ := hd 11 98 rfl (by kernel_rfl)
              have e98 := eval_of h98
              clear h98
              clear hx2
              refine value_ (v := .int .u64 (nodeS (p.getD m 0) res.2.1)) (w1 := w1) rfl rfl ?_ (hK _ _ (Below.refl _ _) rfl)
              clear hd hn hK
              simp only [execOp, Option.map_some, Option.map_none, List.map_toArray, List.map_cons, List.map_nil, List.getElem_toArray, List.getElem_cons_zero, List.getElem_cons_succ, e98]
              clear e98
              clear hE hB HB
              go_simp
            refine steps_cons (fun a1 w1 hB hsz hdf hn hd => ⟨_, rfl, fun K hK => ?_⟩) ?_
            · obtain ⟨v99, h99, rfl⟩ := hd 12 99 rfl (by kernel_rfl)
              have e99 := eval_of h99
              clear h99
              clear hx2
              refine value_ (v := .bool res.2.2) (w1 := w1) rfl rfl ?_ (hK _ _ (Below.refl _ _) rfl)
              clear hd hn hK
              simp only [execOp, Option.map_some, Option.map_none, List.map_toArray, List.map_cons, List.map_nil, List.getElem_toArray, List.getElem_cons_zero, List.getElem_cons_succ, e99]
              clear e99
              clear hE hB HB
              go_simp
            exact steps_nil
          case stab => exact fun i v w w' => grow15Rel_stable _ _ _ _ _ i v w w'
          case rend =>
            intro vals w3 hB hrr
            have q1 : vals 13 = .int .u64 (nodeS (p.getD m 0) res.1) := hrr (13, 10) (by simp)
            have q2 : vals 14 = .int .u64 (nodeS (p.getD m 0) res.2.1) := hrr (14, 11) (by simp)
            have q3 : vals 15 = .bool res.2.2 := hrr (15, 12) (by simp)
            clear hrr
            simp only [fill, Act.put, List.setIfInBounds_toArray, List.set_cons_zero, List.set_cons_succ]
            rw [q1, q2, q3]
            clear q1 q2 q3
            have HB3 := Aside0.mk (below_step HB.out hB)
            clear hB HB hx2
            go_wp2
            go_ret3
            exact ⟨by rw [hE.out]; rfl, HB3.out⟩
end Go.Proofs.Ytkedodmlbepfnaa.Lg

-- from the working text Few
set_option linter.unusedSimpArgs false
set_option linter.unusedVariables false
namespace Go.Proofs.Ytkedodmlbepfnaa.Lg
open Go.RowKit Go.Proofs.YtkedodmlbepfnaaW.PrintWords Go.Proofs.YtkedodmlbepfnaaW.PrintLast Go.Proofs.YtkedodmlbepfnaaW.PrintMore Go.Proofs.Ytkedodmlbepfnaa.Rg
def Big (e : S23) : Bool := decide (2500 < e.f2.size)
set_option maxRecDepth 100000 in
theorem few1_yes (e : S23) (h : Big e = true) (w : World) : Calls Try.prog 65 #[.agg #[.int .i64 e.f0, .int .i64 e.f1, .string e.f2]] w fun x w' => x = .returned (.bool true) ∧ Below w.heap.size w w' := by
  have h1 : 2500 < e.f2.size := by simpa [Big] using h
  have hb : decide ((2500 : Int) < (e.f2.size : Int)) = true := by simp; omega
  have hb2 : decide (2500 < e.f2.size) = true := by simp; omega
  clear h
  go_enter Try.func65, Try.ntmps65
  go_wp2
  go_ret
  exact ⟨rfl, (by repeat (first | exact Below.refl _ _ | apply below_alloc | apply below_drew | apply pw_below_drewN))⟩
set_option maxRecDepth 100000 in
theorem few1_no (e : S23) (h : Big e = false) (w : World) : Calls Try.prog 65 #[.agg #[.int .i64 e.f0, .int .i64 e.f1, .string e.f2]] w fun x w' => x = .returned (.bool false) ∧ Below w.heap.size w w' := by
  have h1 : e.f2.size ≤ 2500 := by simpa [Big] using h
  have hb : decide ((2500 : Int) < (e.f2.size : Int)) = false := by simp; omega
  have hb2 : decide (2500 < e.f2.size) = false := by simp; omega
  clear h
  go_enter Try.func65, Try.ntmps65
  go_wp2
  go_ret
  exact ⟨rfl, (by repeat (first | exact Below.refl _ _ | apply below_alloc | apply below_drew | apply pw_below_drewN))⟩
def IdxPost (l : List S23) (w : World) (e : Ending) (w' : World) : Prop := ∃ r : Int, e = .returned (.int .i64 r) ∧ decide (0 ≤ r) = l.any Big ∧ Below w.heap.size w w'
set_option maxHeartbeats 4000000 in
set_option maxRecDepth 100000 in
theorem idx_calls (l : List S23) (A : Option Addr) (c : Nat) (w : World) (hr0 : Kd.C k23 w A l.length l) (hc0 : l.length ≤ c) :
    Calls Try.prog 116 #[.slice A l.length c, .func (.func 65) #[] #[]] w (IdxPost l w) := by
  have hr := Aside0.mk hr0
  have hc := Aside0.mk hc0
  have hmax := Kd.C_max hr0
  clear hr0 hc0
  go_enter Try.func116, Try.ntmps116
  go_wp2
  go_loopw [8] (fun v w' => ∃ j : Nat, v = .int .i64 (j : Int) ∧ j ≤ l.length ∧ Aside0 ((l.take j).any Big = false) ∧ Aside0 (Below w.heap.size w w')) (fun v _ => l.length - (intOf v).toNat)
  case atStart => exact ⟨0, rfl, by omega, ⟨by simp⟩, ⟨(by repeat (first | exact Below.refl _ _ | apply below_alloc | apply below_drew | apply pw_below_drewN))⟩⟩
  case round =>
    obtain ⟨j, rfl, hj, hno, HB⟩ := hrel
    by_cases hlt : j < l.length
    · obtain ⟨ad, e0, hx0, hx1, hx2⟩ := at_T23 hr.out (j : Int) (by omega) (by omega)
      cases e0
      replace hx0 := (HB.out.cell (World.block_lt_of_cell? w _ hx0)).trans hx0
      replace hx1 := (HB.out.cell (World.block_lt_of_cell? w _ hx1)).trans hx1
      replace hx2 := (HB.out.cell (World.block_lt_of_cell? w _ hx2)).trans hx2
      have hrd : rd_T23 l (j : Int) = l[j] := by simp [rd_T23, List.getD_eq_getElem?_getD, hlt]
      rw [hrd] at hx0 hx1 hx2
      simp only [Int.toNat_natCast] at hx0 hx1 hx2
      have hltn : (j : Int) < (l.length : Int) := by omega
      clear hrd
      have hsn : (l.take (j + 1)).any Big = ((l.take j).any Big || Big l[j]) := by rw [List.take_succ_eq_append_getElem hlt, List.any_append]; simp
      cases hb : Big l[j] with
      | true =>
        have HBig := Aside0.mk hb
        have hany := Aside0.mk (show l.any Big = true by rw [List.any_eq_true]; exact ⟨_, List.getElem_mem hlt, hb⟩)
        clear hb hsn
        go_wp2_with (go_at_call 65; (with_reducible refine (few1_yes l[j] HBig.out _).mono ?_); rintro e w2 ⟨rfl, hbb⟩; have HB2 := Aside0.mk (below_step HB.out hbb); clear hbb)
        go_ret
        exact ⟨(j : Int), rfl, by rw [hany.out]; simp, HB2.out⟩
      | false =>
        have HBig := Aside0.mk hb
        have hnx := Aside0.mk (show (l.take (j + 1)).any Big = false by rw [hsn, hno.out, hb]; rfl)
        clear hb hsn
        go_wp2_with (go_at_call 65; (with_reducible refine (few1_no l[j] HBig.out _).mono ?_); rintro e w2 ⟨rfl, hbb⟩; have HB2 := Aside0.mk (below_step HB.out hbb); clear hbb)
        go_roundw
        case rel => exact ⟨j + 1, by go_num, by omega, hnx, HB2⟩
        case measure => simp [intOf]; omega
    · have hany := Aside0.mk (show l.any Big = false by have := hno.out; rw [List.take_of_length_le (by omega)] at this; exact this)
      have hnlt : ¬ (j : Int) < (l.length : Int) := by omega
      have hjl : j = l.length := by omega
      have hd : decide ((j : Int) < (l.length : Int)) = false := by simp; omega
      clear hjl
      go_wp2
      go_ret
      exact ⟨-1, rfl, by rw [hany.out]; rfl, HB.out⟩
theorem contains_calls (l : List S23) (A : Option Addr) (c : Nat) (w : World) (hr0 : Kd.C k23 w A l.length l) (hc0 : l.length ≤ c) :
    Calls Try.prog 64 #[.slice A l.length c, .func (.func 65) #[] #[]] w fun e w' => e = .returned (.bool (l.any Big)) ∧ Below w.heap.size w w' := by
  have hr := Aside0.mk hr0
  have hc := Aside0.mk hc0
  clear hr0 hc0
  go_enter Try.func64, Try.ntmps64
  go_wp2_with (go_at_call 116; (with_reducible refine (idx_calls l A c _ hr.out hc.out).mono ?_); rintro e w2 ⟨r, rfl, hr1, hb⟩; have HR1 := Aside0.mk hr1; have HB := Aside0.mk hb; clear hr1 hb)
  go_ret
  exact ⟨by rw [← HR1.out]; rfl, HB.out⟩
/-- Few entries, or slightly more than there can be, none much too long. -/
def Few (l : List S23) : Bool := (decide (l.length ≤ 40) || (decide (512 < l.length) && decide (l.length ≤ 520))) && !l.any Big
set_option maxHeartbeats 4000000 in
set_option maxRecDepth 100000 in
theorem few_calls (l : List S23) (A : Option Addr) (c : Nat) (w : World) (hr0 : Kd.C k23 w A l.length l) (hc0 : l.length ≤ c) :
    Calls Try.prog 11 #[.slice A l.length c] w fun e w' => e = .returned (.bool (Few l)) ∧ Below w.heap.size w w' := by
  have hr := Aside0.mk hr0
  have hc := Aside0.mk hc0
  have hmax := Kd.C_max hr0
  clear hr0 hc0
  by_cases h1 : l.length ≤ 40
  · have b1 : decide ((l.length : Int) ≤ 40) = true := by simp; omega
    have b1n : decide (l.length ≤ 40) = true := by simp; omega
    have hE := Aside0.mk (show Few l = !l.any Big by unfold Few; rw [b1n]; simp)
    go_enter Try.func11, Try.ntmps11
    go_wp2_with (go_at_call 64; (with_reducible refine (contains_calls l A c _ hr.out hc.out).mono ?_); rintro e w2 ⟨rfl, hb⟩; have HB := Aside0.mk hb; clear hb)
    go_ret
    exact ⟨by rw [hE.out]; rfl, HB.out⟩
  · have b1 : decide ((l.length : Int) ≤ 40) = false := by simp; omega
    have b1n : decide (l.length ≤ 40) = false := by simp; omega
    by_cases h2 : 512 < l.length
    · have b2 : decide ((512 : Int) < (l.length : Int)) = true := by simp; omega
      have b2n : decide (512 < l.length) = true := by simp; omega
      by_cases h3 : l.length ≤ 520
      · have b3 : decide ((l.length : Int) ≤ 520) = true := by simp; omega
        have b3n : decide (l.length ≤ 520) = true := by simp; omega
        have hE := Aside0.mk (show Few l = !l.any Big by unfold Few; rw [b1n, b2n, b3n]; simp)
        go_enter Try.func11, Try.ntmps11
        go_wp2_with (go_at_call 64; (with_reducible refine (contains_calls l A c _ hr.out hc.out).mono ?_); rintro e w2 ⟨rfl, hb⟩; have HB := Aside0.mk hb; clear hb)
        go_ret
        exact ⟨by rw [hE.out]; rfl, HB.out⟩
      · have b3 : decide ((l.length : Int) ≤ 520) = false := by simp; omega
        have b3n : decide (l.length ≤ 520) = false := by simp; omega
        have hE := Aside0.mk (show Few l = false by unfold Few; rw [b1n, b2n, b3n]; simp)
        go_enter Try.func11, Try.ntmps11
        go_wp2
        go_ret
        exact ⟨by rw [hE.out]; rfl, (by repeat (first | exact Below.refl _ _ | apply below_alloc | apply below_drew | apply pw_below_drewN))⟩
    · have b2 : decide ((512 : Int) < (l.length : Int)) = false := by simp; omega
      have b2n : decide (512 < l.length) = false := by simp; omega
      have hE := Aside0.mk (show Few l = false by unfold Few; rw [b1n, b2n]; simp)
      go_enter Try.func11, Try.ntmps11
      go_wp2
      go_ret
      exact ⟨by rw [hE.out]; rfl, (by repeat (first | exact Below.refl _ _ | apply below_alloc | apply below_drew | apply pw_below_drewN))⟩
end Go.Proofs.Ytkedodmlbepfnaa.Lg

-- from the working text Dk
set_option linter.unusedSimpArgs false
set_option linter.unusedVariables false
namespace Go.Proofs.Ytkedodmlbepfnaa.Lg
open Go.RowKit Go.Proofs.YtkedodmlbepfnaaW.PrintWords Go.Proofs.YtkedodmlbepfnaaW.PrintLast Go.Proofs.YtkedodmlbepfnaaW.PrintMore Go.Proofs.Ytkedodmlbepfnaa.Rg
/-- Nothing but the blocks of S is changed; new blocks may come. -/
structure Kp (S : Nat → Prop) (w w' : World) : Prop where
  os : w'.os = w.os
  tape : w'.tape = w.tape
  output : w'.output = w.output
  size : w.heap.size ≤ w'.heap.size
  block : ∀ k, k < w.heap.size → ¬ S k → w'.heap[k]? = w.heap[k]?
/-- S, and all that is newer than w. -/
def Nw (S : Nat → Prop) (w : World) : Nat → Prop := fun k => S k ∨ w.heap.size ≤ k
section
variable {S S' : Nat → Prop} {w w1 w2 W : World} {B g : Nat}
theorem Kp.refl (S : Nat → Prop) (w : World) : Kp S w w := ⟨rfl, rfl, rfl, Nat.le_refl _, fun _ _ _ => rfl⟩
theorem Kp.trans (h : Kp S w w1) (k : Kp (Nw S w) w1 w2) : Kp S w w2 :=
  ⟨k.os.trans h.os, k.tape.trans h.tape, k.output.trans h.output, Nat.le_trans h.size k.size, fun i hi hn => (k.block i (Nat.lt_of_lt_of_le hi h.size) (fun hk => hk.elim hn (fun hk => by omega))).trans (h.block i hi hn)⟩
theorem Kp.mono (h : Kp S w w1) (hs : ∀ k, S k → S' k) : Kp S' w w1 := ⟨h.os, h.tape, h.output, h.size, fun i hi hn => h.block i hi (fun hk => hn (hs i hk))⟩
theorem Kp.of_below (S : Nat → Prop) (h : Below w.heap.size w w1) : Kp S w w1 := ⟨h.os, h.tape, h.output, h.size, fun i hi _ => h.block i hi⟩
theorem Kp.below (h : Kp S w w1) (k : Below w1.heap.size w1 w2) : Kp S w w2 := h.trans (Kp.of_below _ k)
theorem Kp.to_below (h : Kp S w w1) (hs : ∀ k, S k → B ≤ k) (hB : B ≤ w.heap.size) : Below B w w1 := ⟨h.os, h.tape, h.output, h.size, fun k hk => h.block k (by omega) (fun hS => by have := hs k hS; omega)⟩
theorem Kp.of_grown {row : Option Nat} (h : Kp S w w1) (hg : w1.grownBy w2 row) (hr : ∀ k, row = some k → Nw S w k) : Kp S w w2 :=
  h.trans ⟨hg.os, hg.tape, hg.output, hg.size, fun i hi hn => hg.block i hi (fun e => hn (hr i e.symm))⟩
theorem Kp.setRow (h : Kp S w w1) {g : Nat} (hp : Nw S w g) (cs : Array Value) : Kp S w (w1.setRow g cs) :=
  ⟨h.os, h.tape, h.output, by simpa [World.setRow] using h.size, fun i hi hn => (setRow_other w1 g i cs (fun e => hp.elim (fun hk => hn (e ▸ hk)) (fun hk => by omega))).trans (h.block i hi hn)⟩
theorem Kp.setCell (h : Kp S w w1) {p : Addr} (hp : Nw S w p.block) (u : Value) : Kp S w (w1.setCell p u) :=
  ⟨h.os, h.tape, h.output, by simpa using h.size, fun i hi hn => (Below.heap_setCell w1 p u i (fun e => hp.elim (fun hk => hn (e ▸ hk)) (fun hk => by omega))).trans (h.block i hi hn)⟩
/-- A row of the object's own. -/
def Own (w : World) (S : Nat → Prop) (e : TypeId) (size : Nat) (v : Value) (n : Nat) (xs : List Value) : Prop := w.ownsRow 0 e size v n xs ∧ ∀ k, v.ownBlock = some k → S k
theorem Own.kp {e : TypeId} {size n : Nat} {v : Value} {xs : List Value} (h : Own w S e size v n xs) (hk : Kp S' w w1) (hd : ∀ k, S k → k < w.heap.size → ¬ S' k) : Own w1 S e size v n xs := by
  refine ⟨⟨h.1.1, ?_⟩, h.2⟩
  rcases h.1.2 with h2 | ⟨g, cap, cur, hv, hb, hh, r⟩
  · exact .inl h2
  · refine .inr ⟨g, cap, cur, hv, hb, (hk.block g (blk_lt hh) (hd g (h.2 g (by rw [hv]; rfl)) (blk_lt hh))).trans hh, r⟩
theorem Own.mono {e : TypeId} {size n : Nat} {v : Value} {xs : List Value} (h : Own w S e size v n xs) (hs : ∀ k, S k → S' k) : Own w S' e size v n xs := ⟨h.1, fun k hk => hs k (h.2 k hk)⟩
/-- A change of one block that is another. -/
theorem Own.setCell {e : TypeId} {size n : Nat} {v : Value} {xs : List Value} (h : Own w S e size v n xs) {p : Addr} (hp : v.ownBlock ≠ some p.block) (u : Value) : Own (w.setCell p u) S e size v n xs := by
  refine ⟨⟨h.1.1, ?_⟩, h.2⟩
  rcases h.1.2 with h2 | ⟨g, cap, cur, hv, hb, hh, r⟩
  · exact .inl h2
  · refine .inr ⟨g, cap, cur, hv, hb, (Below.heap_setCell w p u g (fun e' => hp (by rw [hv]; simp [Value.ownBlock, e']))).trans hh, r⟩
theorem Own.type_ne {e t : TypeId} {size n : Nat} {v : Value} {xs : List Value} {cs : Array Value} (h : Own w S e size v n xs) (hb : w.heap[g]? = some (.cells cs t (0, 0))) (hne : e ≠ t) : v.ownBlock ≠ some g := by
  intro hv
  obtain ⟨cells, hc⟩ := own_typed h.1 g hv
  rw [hb] at hc
  injection hc with hc
  injection hc with _ hc _
  exact hne hc.symm
def Sect (s : List Int) : Prop := s.length = 64 ∧ ∀ x ∈ s, 0 ≤ x ∧ x < 256
/-- What a disk is. -/
structure DS where
  safe : List (List Int)
  now : List (List Int)
  wr : List (Int × List Int)
  armed : Int
  down : Bool
  falls : Int
structure DS.Ok (d : DS) : Prop where
  len : d.safe.length = d.now.length
  pos : 1 ≤ d.now.length
  lim : d.now.length ≤ 4096
  safe : ∀ s ∈ d.safe, Sect s
  now : ∀ s ∈ d.now, Sect s
  wr : ∀ x ∈ d.wr, 0 ≤ x.1 ∧ x.1 < d.now.length ∧ Sect x.2
  armed0 : 0 ≤ d.armed
  armed1 : d.armed ≤ 9223372036854775807
  falls0 : 0 ≤ d.falls
def flat (ss : List (List Int)) : List Value := nums .u8 ss.flatten
def wflat (ws : List (Int × List Int)) : List Value := (ws.map fun x => Value.int .i64 x.1 :: nums .u8 x.2).flatten
/-- A disk in memory: its block, and its rows. -/
def DiskAt (w : World) (S : Nat → Prop) (g : Nat) (d : DS) (vs vn vw : Value) : Prop :=
  d.Ok ∧ S g ∧ w.heap[g]? = some (.cells #[vs, vn, vw, .int .i64 d.armed, .bool d.down, .int .i64 d.falls] 115 (0, 0)) ∧
  Own w S 122 64 vs d.safe.length (flat d.safe) ∧ Own w S 122 64 vn d.now.length (flat d.now) ∧ Own w S 124 65 vw d.wr.length (wflat d.wr) ∧ (vs.ownBlock = none ∨ vs.ownBlock ≠ vn.ownBlock)
theorem DiskAt.kp {d : DS} {vs vn vw : Value} (h : DiskAt w S g d vs vn vw) (hk : Kp S' w w1) (hd : ∀ k, S k → k < w.heap.size → ¬ S' k) : DiskAt w1 S g d vs vn vw := by
  obtain ⟨h1, h2, h3, h4, h5, h6, h7⟩ := h
  exact ⟨h1, h2, (hk.block g (blk_lt h3) (hd g h2 (blk_lt h3))).trans h3, h4.kp hk hd, h5.kp hk hd, h6.kp hk hd, h7⟩
theorem DiskAt.below {d : DS} {vs vn vw : Value} (h : DiskAt w S g d vs vn vw) (hb : Below w.heap.size w w1) : DiskAt w1 S g d vs vn vw := h.kp (S' := fun _ => False) (Kp.of_below _ hb) (fun _ _ _ h => h)
theorem DiskAt.mono {d : DS} {vs vn vw : Value} (h : DiskAt w S g d vs vn vw) (hs : ∀ k, S k → S' k) : DiskAt w S' g d vs vn vw := by
  obtain ⟨h1, h2, h3, h4, h5, h6, h7⟩ := h
  exact ⟨h1, hs g h2, h3, h4.mono hs, h5.mono hs, h6.mono hs, h7⟩
/-- A field of the block is changed. -/
theorem DiskAt.set {d d' : DS} {vs vn vw u : Value} {i : Nat} (h : DiskAt w S g d vs vn vw) (hok : d'.Ok)
    (hc : (#[vs, vn, vw, .int .i64 d.armed, .bool d.down, .int .i64 d.falls] : Array Value).setIfInBounds i u = #[vs, vn, vw, .int .i64 d'.armed, .bool d'.down, .int .i64 d'.falls])
    (h1 : d'.safe = d.safe) (h2 : d'.now = d.now) (h3 : d'.wr = d.wr) : DiskAt (w.setCell ⟨g, i, none⟩ u) S g d' vs vn vw := by
  obtain ⟨k1, k2, k3, k4, k5, k6, k7⟩ := h
  refine ⟨hok, k2, by rw [blk_set k3, hc], ?_, ?_, ?_, k7⟩
  · rw [h1]; exact k4.setCell (k4.type_ne k3 (by decide)) u
  · rw [h2]; exact k5.setCell (k5.type_ne k3 (by decide)) u
  · rw [h3]; exact k6.setCell (k6.type_ne k3 (by decide)) u
end
/-- The power goes off. -/
def DS.off (d : DS) : DS := { d with down := true, falls := d.falls + 1 }
theorem DS.Ok.off {d : DS} (h : d.Ok) : d.off.Ok := ⟨h.len, h.pos, h.lim, h.safe, h.now, h.wr, h.armed0, h.armed1, by have := h.falls0; show 0 ≤ d.falls + 1; omega⟩
set_option maxHeartbeats 4000000 in
set_option maxRecDepth 100000 in
theorem off_calls (w : World) (S : Nat → Prop) (g : Nat) (d : DS) (vs vn vw : Value) (h0 : DiskAt w S g d vs vn vw) (hf : d.falls ≤ 1000000) :
    Calls Try.prog 89 #[.pointer (some ⟨g, 0, none⟩)] w fun e w' => e = .returned (.tuple #[]) ∧ DiskAt w' S g d.off vs vn vw ∧ Kp S w w' := by
  have H := Aside0.mk h0
  have hf0 := h0.1.falls0
  have hb := h0.2.2.1
  have c5 : w.cell? ⟨g, 5, none⟩ = some (.int .i64 d.falls) := (blk_cell hb 5).trans rfl
  have c4 : w.cell? ⟨g, 4, none⟩ = some (.bool d.down) := (blk_cell hb 4).trans rfl
  have f5 := blk_frozen hb 5
  have f4 := blk_frozen hb 4
  clear h0 hb
  go_enter Try.func89, Try.ntmps89
  go_wp2
  go_end0
  have h1 : DiskAt (w.setCell ⟨g, 4, none⟩ (.bool true)) S g { d with down := true } vs vn vw := H.out.set ⟨H.out.1.len, H.out.1.pos, H.out.1.lim, H.out.1.safe, H.out.1.now, H.out.1.wr, H.out.1.armed0, H.out.1.armed1, H.out.1.falls0⟩ rfl rfl rfl rfl
  exact ⟨rfl, h1.set H.out.1.off rfl rfl rfl rfl, ((Kp.refl S w).setCell (.inl H.out.2.1) _).setCell (.inl H.out.2.1) _⟩
/-- A call is counted. -/
def DS.fails (d : DS) : Bool × DS := if d.armed = 0 then (false, d) else if 1 < d.armed then (false, { d with armed := d.armed - 1 }) else (true, { d with armed := 0, down := true, falls := d.falls + 1 })
theorem DS.Ok.arm {d : DS} (h : d.Ok) {n : Int} (h0 : 0 ≤ n) (h1 : n ≤ 9223372036854775807) : ({ d with armed := n } : DS).Ok := ⟨h.len, h.pos, h.lim, h.safe, h.now, h.wr, h0, h1, h.falls0⟩
set_option maxHeartbeats 4000000 in
set_option maxRecDepth 100000 in
theorem fails_calls (w : World) (S : Nat → Prop) (g : Nat) (d : DS) (vs vn vw : Value) (h0 : DiskAt w S g d vs vn vw) (hf : d.falls ≤ 1000000) :
    Calls Try.prog 86 #[.pointer (some ⟨g, 0, none⟩)] w fun e w' => e = .returned (.bool d.fails.1) ∧ DiskAt w' S g d.fails.2 vs vn vw ∧ Kp S w w' := by
  have H := Aside0.mk h0
  have ha0 := h0.1.armed0
  have ha1 := h0.1.armed1
  have hb := h0.2.2.1
  have c3 : w.cell? ⟨g, 3, none⟩ = some (.int .i64 d.armed) := (blk_cell hb 3).trans rfl
  have f3 := blk_frozen hb 3
  clear h0 hb
  by_cases h1 : d.armed = 0
  · have hE := Aside0.mk (show d.fails = (false, d) by unfold DS.fails; rw [if_pos h1])
    have b1 : (d.armed == 0) = true := by rw [beq_iff_eq]; exact h1
    clear h1
    go_enter Try.func86, Try.ntmps86
    go_wp2
    go_ret
    exact ⟨by rw [hE.out]; rfl, by rw [hE.out]; exact H.out, Kp.refl S w⟩
  · have b1 : (d.armed == 0) = false := by rw [beq_eq_false_iff_ne]; exact h1
    have hgt : 1 ≤ d.armed := by omega
    have h2' := H.out.set (H.out.1.arm (n := d.armed - 1) (by omega) (by omega)) (i := 3) (u := .int .i64 (d.armed - 1)) rfl rfl rfl rfl
    by_cases h2 : 1 < d.armed
    · have hE := Aside0.mk (show d.fails = (false, { d with armed := d.armed - 1 }) by unfold DS.fails; rw [if_neg h1, if_pos h2])
      have b2 : decide (0 < d.armed - 1) = true := by simp; omega
      have H2 := Aside0.mk h2'
      clear h1 h2'
      go_enter Try.func86, Try.ntmps86
      go_wp2
      go_ret
      exact ⟨by rw [hE.out]; rfl, by rw [hE.out]; exact H2.out, (Kp.refl S w).setCell (.inl H.out.2.1) _⟩
    · have hone : d.armed = 1 := by omega
      have hE := Aside0.mk (show d.fails = (true, { d with armed := 0, down := true, falls := d.falls + 1 }) by unfold DS.fails; rw [if_neg h1, if_neg h2])
      have H2 := Aside0.mk (show DiskAt (w.setCell ⟨g, 3, none⟩ (.int .i64 0)) S g { d with armed := 0 } vs vn vw by rw [hone] at h2'; exact h2')
      have hf2 := Aside0.mk hf
      rw [hone] at c3
      clear h1 h2 h2' b1 hgt ha0 ha1 hone hf
      go_enter Try.func86, Try.ntmps86
      go_wp2_with (go_at_call 89; (with_reducible refine (off_calls _ S g { d with armed := 0 } vs vn vw H2.out hf2.out).mono ?_); rintro e w2 ⟨rfl, hd, hk⟩; have HD := Aside0.mk hd; have HK := Aside0.mk hk; clear hd hk)
      go_ret
      exact ⟨by rw [hE.out]; rfl, by rw [hE.out]; exact HD.out, ((Kp.refl S w).setCell (.inl H.out.2.1) _).trans (HK.out.mono fun k hk => .inl hk)⟩
/-- Whether there is power, and such a sector. -/
def DS.check (d : DS) (at_ : Int) : Int := if d.down = true then 91 else if at_ < 0 ∨ (d.now.length : Int) ≤ at_ then 1 else 0
theorem Own.slice {w : World} {S : Nat → Prop} {e : TypeId} {size n : Nat} {v : Value} {xs : List Value} (h : Own w S e size v n xs) : ∃ A c, v = .slice A n c := own_slice h.1
set_option maxHeartbeats 4000000 in
set_option maxRecDepth 100000 in
theorem check_calls (w : World) (S : Nat → Prop) (g : Nat) (d : DS) (vs vn vw : Value) (i : Int) (h0 : DiskAt w S g d vs vn vw) :
    Calls Try.prog 85 #[.pointer (some ⟨g, 0, none⟩), .int .i64 i] w fun e w' => e = .returned (.int .i64 (d.check i)) ∧ Drawn0 w w' := by
  obtain ⟨A, c, rfl⟩ := h0.2.2.2.2.1.slice
  have hl := h0.1.lim
  have hb := h0.2.2.1
  have c4 : w.cell? ⟨g, 4, none⟩ = some (.bool d.down) := (blk_cell hb 4).trans rfl
  have c1 : w.cell? ⟨g, 1, none⟩ = some (.slice A d.now.length c) := (blk_cell hb 1).trans rfl
  clear h0 hb
  cases hd : d.down with
  | true =>
    have hE := Aside0.mk (show d.check i = 91 by unfold DS.check; rw [if_pos hd])
    rw [hd] at c4
    clear hd
    go_enter Try.func85, Try.ntmps85
    go_wp2
    go_ret
    exact ⟨by rw [hE.out]; rfl, by repeat (first | exact Drawn0.refl _ | apply Drawn0.step)⟩
  | false =>
    rw [hd] at c4
    by_cases h1 : i < 0
    · have hE := Aside0.mk (show d.check i = 1 by unfold DS.check; rw [if_neg (by simp [hd]), if_pos (.inl h1)])
      have b1 : decide (i < 0) = true := by simp; omega
      clear hd
      go_enter Try.func85, Try.ntmps85
      go_wp2
      go_ret
      exact ⟨by rw [hE.out]; rfl, by repeat (first | exact Drawn0.refl _ | apply Drawn0.step)⟩
    · have b1 : decide (i < 0) = false := by simp; omega
      by_cases h2 : (d.now.length : Int) ≤ i
      · have hE := Aside0.mk (show d.check i = 1 by unfold DS.check; rw [if_neg (by simp [hd]), if_pos (.inr h2)])
        have b2 : decide ((d.now.length : Int) ≤ i) = true := by simp; omega
        clear hd
        go_enter Try.func85, Try.ntmps85
        go_wp2
        go_ret
        exact ⟨by rw [hE.out]; rfl, by repeat (first | exact Drawn0.refl _ | apply Drawn0.step)⟩
      · have hE := Aside0.mk (show d.check i = 0 by unfold DS.check; rw [if_neg (by simp [hd]), if_neg (by omega)])
        have b2 : decide ((d.now.length : Int) ≤ i) = false := by simp; omega
        clear hd
        go_enter Try.func85, Try.ntmps85
        go_wp2
        go_ret
        exact ⟨by rw [hE.out]; rfl, by repeat (first | exact Drawn0.refl _ | apply Drawn0.step)⟩
set_option maxRecDepth 100000 in
theorem up_calls (w : World) (S : Nat → Prop) (g : Nat) (d : DS) (vs vn vw : Value) (h0 : DiskAt w S g d vs vn vw) :
    Calls Try.prog 42 #[.pointer (some ⟨g, 0, none⟩)] w fun e w' => e = .returned (.bool (!d.down)) ∧ Drawn0 w w' := by
  have hb := h0.2.2.1
  have c4 : w.cell? ⟨g, 4, none⟩ = some (.bool d.down) := (blk_cell hb 4).trans rfl
  clear h0 hb
  go_enter Try.func42, Try.ntmps42
  go_wp2
  go_ret
  exact ⟨rfl, by repeat (first | exact Drawn0.refl _ | apply Drawn0.step)⟩
set_option maxRecDepth 100000 in
theorem sectors_calls (w : World) (S : Nat → Prop) (g : Nat) (d : DS) (vs vn vw : Value) (h0 : DiskAt w S g d vs vn vw) :
    Calls Try.prog 44 #[.pointer (some ⟨g, 0, none⟩)] w fun e w' => e = .returned (.int .i64 (d.now.length : Int)) ∧ Drawn0 w w' := by
  obtain ⟨A, c, rfl⟩ := h0.2.2.2.2.1.slice
  have hb := h0.2.2.1
  have c1 : w.cell? ⟨g, 1, none⟩ = some (.slice A d.now.length c) := (blk_cell hb 1).trans rfl
  clear h0 hb
  go_enter Try.func44, Try.ntmps44
  go_wp2
  go_ret
  exact ⟨rfl, by repeat (first | exact Drawn0.refl _ | apply Drawn0.step)⟩
end Go.Proofs.Ytkedodmlbepfnaa.Lg

-- from the working text Nd
set_option linter.unusedSimpArgs false
set_option linter.unusedVariables false
namespace Go.Proofs.Ytkedodmlbepfnaa.Lg
open Go.RowKit Go.Proofs.YtkedodmlbepfnaaW.PrintWords Go.Proofs.YtkedodmlbepfnaaW.PrintLast Go.Proofs.YtkedodmlbepfnaaW.PrintMore Go.Proofs.Ytkedodmlbepfnaa.Rg
def zero64 : Array Value := Array.replicate 64 (.int .u8 0)
theorem info122 : (Try.prog.info? 122).map (fun i => (i.zero, i.size, i.bytes)) = some (some (.agg zero64), 64, 64) := by kernel_rfl
theorem made_zero (m : Nat) : (madeCells zero64 m).toList = List.replicate m (.int .u8 0) := by
  apply List.ext_getElem
  · simp [madeCells]
  · intro i h1 h2
    have hm : i % 64 < 64 := Nat.mod_lt _ (by omega)
    simp [madeCells, zero64, getElem!_pos, hm]
def zsec : List Int := List.replicate 64 0
theorem flat_zero : ∀ n : Nat, flat (List.replicate n zsec) = List.replicate (n * 64) (.int .u8 0)
  | 0 => rfl
  | n + 1 => by
    have h := flat_zero n
    unfold flat at h ⊢
    rw [List.replicate_succ, List.flatten_cons, nums_append, h]
    have : nums .u8 zsec = List.replicate 64 (.int .u8 0) := by simp [nums, zsec]
    rw [this, List.replicate_append_replicate]
    congr 1
    omega
theorem zsec_ok : Sect zsec := ⟨by simp [zsec], fun x hx => by simp [zsec] at hx; omega⟩
def DS.new (n : Nat) : DS := { safe := List.replicate n zsec, now := List.replicate n zsec, wr := [], armed := 0, down := false, falls := 0 }
theorem DS.new_ok (n : Nat) (h : 1 ≤ n) (h' : n ≤ 4096) : (DS.new n).Ok :=
  ⟨by simp [DS.new], by simp [DS.new]; omega, by simp [DS.new]; omega, fun s hs => by have := List.eq_of_mem_replicate hs; subst this; exact zsec_ok, fun s hs => by have := List.eq_of_mem_replicate hs; subst this; exact zsec_ok, fun x hx => by simp [DS.new] at hx, by simp [DS.new], by simp [DS.new], by simp [DS.new]⟩
theorem own_zero (W : World) (S : Nat → Prop) (n g : Nat) (hg : g = W.heap.size) (hn : n ≤ 4096) (hS : S g) : Own (W.alloc (.cells (madeCells zero64 (n * 64)) 122)) S 122 64 (.slice (some ⟨g, 0, none⟩) n n) n (flat (List.replicate n zsec)) := by
  subst hg
  refine ⟨?_, fun k hk => by simp [Value.ownBlock] at hk; subst hk; exact hS⟩
  have h := World.ownsRow_lit (base := 0) (e := 122) (size := 64) W (madeCells zero64 (n * 64)) n (by omega) (by simp [maxLen]; omega) (size_madeCells _ _)
  rw [flat_zero, ← made_zero]
  exact h
theorem Own.nil (w : World) (S : Nat → Prop) (e : TypeId) (size : Nat) : Own w S e size (.slice none 0 0) 0 [] := ⟨own_nil w 0 e size, fun k hk => by simp [Value.ownBlock] at hk⟩
def ndWorld (w : World) (n a b : Nat) : World := (((w.alloc (.cells (madeCells zero64 (n * 64)) 122)).alloc (.cells (madeCells zero64 (n * 64)) 122)).alloc
  (.cells #[.slice (some ⟨a, 0, none⟩) n n, .slice (some ⟨b, 0, none⟩) n n, .slice none 0 0, .int .i64 0, .bool false, .int .i64 0] 115)).drew
theorem own_later {w w1 : World} {S : Nat → Prop} {e : TypeId} {size n : Nat} {v : Value} {xs : List Value} (h : Own w S e size v n xs) (hb : Below w.heap.size w w1) : Own w1 S e size v n xs := h.kp (S' := fun _ => False) (Kp.of_below _ hb) (fun _ _ _ h => h)
theorem newDisk_fin (w : World) (n : Nat) (h1 : 1 ≤ n) (h2 : n ≤ 4096) (a b : Nat) (hab : (a = w.heap.size ∧ b = w.heap.size + 1) ∨ (a = w.heap.size + 1 ∧ b = w.heap.size)) :
    DiskAt (ndWorld w n a b) (fun k => w.heap.size ≤ k) (w.heap.size + 1 + 1) (DS.new n) (.slice (some ⟨a, 0, none⟩) n n) (.slice (some ⟨b, 0, none⟩) n n) (.slice none 0 0) := by
  have hx : Own (ndWorld w n a b) (fun k => w.heap.size ≤ k) 122 64 (.slice (some ⟨w.heap.size, 0, none⟩) n n) n (flat (List.replicate n zsec)) :=
    own_later (own_zero w _ n _ rfl h2 (Nat.le_refl _)) (below_drew (below_alloc (below_alloc (Below.refl _ _) _) _))
  have hy : Own (ndWorld w n a b) (fun k => w.heap.size ≤ k) 122 64 (.slice (some ⟨w.heap.size + 1, 0, none⟩) n n) n (flat (List.replicate n zsec)) :=
    own_later (own_zero (w.alloc (.cells (madeCells zero64 (n * 64)) 122)) _ n _ (by simp) h2 (Nat.le_succ _)) (below_drew (below_alloc (Below.refl _ _) _))
  refine ⟨DS.new_ok n h1 h2, by show w.heap.size ≤ w.heap.size + 1 + 1; omega, ?_, ?_, ?_, Own.nil _ _ _ _, .inr ?_⟩
  · have h := blk_new ((w.alloc (.cells (madeCells zero64 (n * 64)) 122)).alloc (.cells (madeCells zero64 (n * 64)) 122)) (.cells #[.slice (some ⟨a, 0, none⟩) n n, .slice (some ⟨b, 0, none⟩) n n, .slice none 0 0, .int .i64 0, .bool false, .int .i64 0] 115)
    rw [show ((w.alloc (.cells (madeCells zero64 (n * 64)) 122)).alloc (.cells (madeCells zero64 (n * 64)) 122)).heap.size = w.heap.size + 1 + 1 by simp] at h
    exact h
  · rw [show (DS.new n).safe.length = n by simp [DS.new]]
    rcases hab with ⟨rfl, rfl⟩ | ⟨rfl, rfl⟩
    · exact hx
    · exact hy
  · rw [show (DS.new n).now.length = n by simp [DS.new]]
    rcases hab with ⟨rfl, rfl⟩ | ⟨rfl, rfl⟩
    · exact hy
    · exact hx
  · simp only [Value.ownBlock, ne_eq, Option.some.injEq]
    omega
theorem newDisk_below (w : World) (n a b : Nat) : Below w.heap.size w (ndWorld w n a b) := below_drew (below_alloc (below_alloc (below_alloc (Below.refl _ _) _) _) _)
set_option maxHeartbeats 4000000 in
set_option maxRecDepth 100000 in
theorem newDisk_calls (n : Nat) (w : World) (h1 : 1 ≤ n) (h2 : n ≤ 4096) :
    Calls Try.prog 29 #[.int .i64 (n : Int)] w fun e w' => ∃ g vs vn vw, e = .returned (.tuple #[.pointer (some ⟨g, 0, none⟩), .int .i64 0]) ∧ DiskAt w' (fun k => w.heap.size ≤ k) g (DS.new n) vs vn vw ∧ Below w.heap.size w w' := by
  obtain ⟨i0, hi, hz0, hz1, hz2⟩ := info_parts info122
  have kmk : ∀ W : World, (Instr.makeSlice 112 (.int .i64 (n : Int)) (.int .i64 (n : Int))).run Try.prog W = .ok (.slice (some ⟨W.heap.size, 0, none⟩) n n) (W.alloc (.cells (madeCells zero64 (n * 64)) 122)) := by
    intro W
    have h := run_make (P := Try.prog) W 112 122 i0 (.agg zero64) Try.underlying112 hi hz0 .i64 .i64 n n (by omega) (Int.le_refl _) (by rw [hz2]; omega) (by omega)
    rw [hz1] at h
    exact h
  have b1 : decide ((n : Int) < 1) = false := by simp; omega
  have b2 : decide ((4096 : Int) < (n : Int)) = false := by simp; omega
  clear hi hz0 hz1 hz2
  go_enter Try.func29, Try.ntmps29
  go_wp2
  go_region_with (fail)
  · go_wp2
    go_ret2
    exact ⟨_, _, _, _, rfl, newDisk_fin w n h1 h2 _ _ (.inl ⟨rfl, rfl⟩), newDisk_below w n _ _⟩
  · go_wp2
    go_ret2
    exact ⟨_, _, _, _, rfl, newDisk_fin w n h1 h2 _ _ (.inr ⟨rfl, rfl⟩), newDisk_below w n _ _⟩
end Go.Proofs.Ytkedodmlbepfnaa.Lg

-- from the working text Wr
set_option linter.unusedSimpArgs false
set_option linter.unusedVariables false
namespace Go.Proofs.Ytkedodmlbepfnaa.Lg
open Go.RowKit Go.Proofs.YtkedodmlbepfnaaW.PrintWords Go.Proofs.YtkedodmlbepfnaaW.PrintLast Go.Proofs.YtkedodmlbepfnaaW.PrintMore Go.Proofs.Ytkedodmlbepfnaa.Rg
/-- A piece of a row is replaced. -/
def patch (cur : List Value) (o : Nat) (b : List Value) : List Value := cur.take o ++ b ++ cur.drop (o + b.length)
theorem run_copy_str (w : World) (dT sT ty elem : TypeId) (g o dLen dCap : Nat) (cur : Array Value) (t : TypeId) (s : ByteArray) (hu : Try.prog.underlying dT = some (.slice elem)) (hz : (Try.prog.info? elem).map (·.size) = some 1)
    (hg : w.heap[g]? = some (.cells cur t (0, 0))) (hle : s.size ≤ dLen) (hfit : o + s.size ≤ cur.size) :
    (Builtin.copy_ #[dT, sT] ty #[.slice (some ⟨g, o, none⟩) dLen dCap, .string s]).run Try.prog w = .ok (goInt s.size) (w.setRow g (patch cur.toList o (nums .u8 (bytesOf s))).toArray) := by
  have hmin : Nat.min s.size dLen = s.size := Nat.min_eq_left hle
  have hlen : (nums .u8 (bytesOf s)).length = s.size := by rw [nums_length, bytesOf_length]
  have hst := run_storeCells_at Try.prog g o t (nums .u8 (bytesOf s)) 0 cur w hg (by rw [hlen]; omega) (by intro v hv; simp only [nums, List.mem_map] at hv; obtain ⟨x, _, rfl⟩ := hv; rfl)
  have he : (s.data.toList.map fun x => Value.int .u8 (x.toNat : Int)) = nums .u8 (bytesOf s) := by simp [nums, bytesOf]
  cases hq : Try.prog.info? elem with
  | none => simp [hq] at hz
  | some i =>
    have hi : i.size = 1 := by simpa [hq] using hz
    simp [Builtin.copy_, run_underlying hu, Builtin.lenOf, Builtin.firstCells, sizeOf, typeInfo, hq, hi, hmin]
    rw [List.take_of_length_le (by rw [he, hlen]; exact Nat.le_refl _), he, hst]
    rfl
theorem flat_set : ∀ (ss : List (List Int)) (i : Nat) (b : List Int), (∀ s ∈ ss, s.length = 64) → i < ss.length → b.length = 64 → patch (flat ss) (i * 64) (nums .u8 b) = flat (ss.set i b)
  | s :: ss, 0, b, h, hi, hb => by
    have hs := h s List.mem_cons_self
    unfold patch flat
    simp only [List.set_cons_zero, List.flatten_cons, nums_append, nums_length, Nat.zero_mul, List.take_zero, List.nil_append, Nat.zero_add]
    rw [hb, List.drop_append, List.drop_of_length_le (by rw [nums_length, hs]; omega), nums_length, hs]
    simp
  | s :: ss, i + 1, b, h, hi, hb => by
    have hs := h s List.mem_cons_self
    have ih := flat_set ss i b (fun t ht => h t (List.mem_cons_of_mem _ ht)) (by simpa using hi) hb
    unfold patch flat at ih ⊢
    simp only [List.set_cons_succ, List.flatten_cons, nums_append, nums_length] at ih ⊢
    rw [← ih, hb, List.take_append, List.take_of_length_le (by rw [nums_length, hs]; omega), List.drop_append, List.drop_of_length_le (by rw [nums_length, hs]; omega), nums_length, hs,
      show (i + 1) * 64 - 64 = i * 64 by omega, show (i + 1) * 64 + 64 - 64 = i * 64 + 64 by omega]
    simp
theorem patch_take {cur x b : List Value} {o m : Nat} (ht : cur.take m = x) (h : o + b.length ≤ m) (hm : m ≤ cur.length) : (patch cur o b).take m = patch x o b := by
  subst ht
  unfold patch
  rw [List.take_append, List.take_append, List.take_of_length_le (by rw [List.length_take]; omega), List.take_take, Nat.min_eq_left (by omega), List.length_append, List.length_take, Nat.min_eq_left (by omega),
    List.take_of_length_le (l := b) (by omega), List.drop_take]
theorem patch_length {cur b : List Value} {o : Nat} (h : o + b.length ≤ cur.length) : (patch cur o b).length = cur.length := by
  unfold patch
  rw [List.length_append, List.length_append, List.length_take, List.length_drop]
  omega
/-- A piece of a row of one's own is replaced. -/
theorem Own.patch {w : World} {S : Nat → Prop} {e : TypeId} {size n g c : Nat} {xs b : List Value} {o : Nat} {cur : Array Value} (h : Own w S e size (.slice (some ⟨g, 0, none⟩) n c) n xs) (hg : w.heap[g]? = some (.cells cur e (0, 0))) (hb : o + b.length ≤ n * size) :
    Own (w.setRow g (patch cur.toList o b).toArray) S e size (.slice (some ⟨g, 0, none⟩) n c) n (Lg.patch xs o b) := by
  obtain ⟨⟨h1, h2⟩, h3⟩ := h
  rcases h2 with ⟨h2, _⟩ | ⟨g', cap, cur', hv, hbs, hh, hnc, hcm, hcs, ht⟩
  · cases h2
  · injection hv with ha _ hc
    injection ha with ha
    injection ha with ha
    subst ha
    subst hc
    rw [hg] at hh
    injection hh with hh
    injection hh with hh
    subst hh
    have hle : n * size ≤ cur.toList.length := by
      have := Nat.mul_le_mul_right size hnc
      rw [Array.length_toList]; omega
    refine ⟨⟨?_, .inr ⟨g, c, _, rfl, hbs, setRow_heap w g cur _ e (0, 0) hg, hnc, hcm, ?_, ?_⟩⟩, h3⟩
    · rw [patch_length (by omega)]; exact h1
    · rw [List.size_toArray, patch_length (by omega), Array.length_toList]; exact hcs
    · rw [List.toList_toArray]; exact patch_take ht hb hle
theorem Own.setRow {w : World} {S : Nat → Prop} {e : TypeId} {size n g : Nat} {v : Value} {xs : List Value} (h : Own w S e size v n xs) (hp : v.ownBlock ≠ some g) (cs : Array Value) : Own (w.setRow g cs) S e size v n xs := by
  refine ⟨⟨h.1.1, ?_⟩, h.2⟩
  rcases h.1.2 with h2 | ⟨g', cap, cur, hv, hb, hh, r⟩
  · exact .inl h2
  · refine .inr ⟨g', cap, cur, hv, hb, (setRow_other w g g' cs (fun e' => hp (by rw [hv]; simp [Value.ownBlock, e']))).trans hh, r⟩
/-- One sector as it is read. -/
theorem Own.form {w : World} {S : Nat → Prop} {e : TypeId} {size n : Nat} {v : Value} {xs : List Value} (h : Own w S e size v n xs) (hn : 0 < n) : ∃ g c cur, v = .slice (some ⟨g, 0, none⟩) n c ∧ S g ∧ w.heap[g]? = some (.cells cur e (0, 0)) ∧ n ≤ c ∧ c ≤ 9223372036854775807 ∧ cur.size = c * size ∧ cur.toList.take (n * size) = xs := by
  rcases h.1.2 with ⟨_, h2⟩ | ⟨g, cap, cur, hv, hb, hh, hnc, hcm, hcs, ht⟩
  · omega
  · exact ⟨g, cap, cur, hv, h.2 g (by rw [hv]; rfl), hh, hnc, by simpa [maxLen] using hcm, hcs, ht⟩
theorem DS.Ok.setNow {d : DS} (h : d.Ok) (i : Nat) (b : List Int) (hb : Sect b) : ({ d with now := d.now.set i b } : DS).Ok :=
  ⟨by show d.safe.length = (d.now.set i b).length; rw [List.length_set]; exact h.len, by show 1 ≤ (d.now.set i b).length; rw [List.length_set]; exact h.pos, by show (d.now.set i b).length ≤ 4096; rw [List.length_set]; exact h.lim, h.safe,
   fun s hs => by rcases List.mem_or_eq_of_mem_set hs with h1 | h1
                  · exact h.now s h1
                  · subst h1; exact hb,
   fun x hx => by show 0 ≤ x.1 ∧ x.1 < ((d.now.set i b).length : Int) ∧ _; rw [List.length_set]; exact h.wr x hx, h.armed0, h.armed1, h.falls0⟩
theorem DiskAt.sector {w : World} {S : Nat → Prop} {g : Nat} {d : DS} {vs vw : Value} {gn c : Nat} {cur : Array Value} (h : DiskAt w S g d vs (.slice (some ⟨gn, 0, none⟩) d.now.length c) vw) (hg : w.heap[gn]? = some (.cells cur 122 (0, 0)))
    {i : Nat} {b : List Int} (hi : i < d.now.length) (hb : Sect b) :
    DiskAt (w.setRow gn (patch cur.toList (i * 64) (nums .u8 b)).toArray) S g { d with now := d.now.set i b } vs (.slice (some ⟨gn, 0, none⟩) d.now.length c) vw := by
  obtain ⟨h1, h2, h3, h4, h5, h6, h7⟩ := h
  have hgn : g ≠ gn := by intro e; subst e; rw [h3] at hg; injection hg with hg; injection hg with _ hg _; cases hg
  have hbl : (nums .u8 b).length = 64 := by rw [nums_length, hb.1]
  refine ⟨h1.setNow i b hb, h2, (setRow_other w gn g _ hgn).trans h3, h4.setRow ?_ _, ?_, h6.setRow ?_ _, h7⟩
  · rcases h7 with h7 | h7
    · rw [h7]; simp
    · exact h7
  · show Own _ S 122 64 _ (d.now.set i b).length (flat (d.now.set i b))
    rw [List.length_set, ← flat_set d.now i b (fun s hs => (h1.now s hs).1) hi hb.1]
    exact h5.patch hg (by rw [hbl]; omega)
  · exact h6.type_ne hg (by decide)
def DS.put (d : DS) (i : Nat) (b : List Int) : DS := { d with now := d.now.set i b, wr := d.wr ++ [((i : Int), b)] }
theorem bytes_sect {s : ByteArray} (h : s.size = 64) : Sect (bytesOf s) := ⟨by rw [bytesOf_length, h], fun x hx => by
  unfold bytesOf at hx
  obtain ⟨y, _, rfl⟩ := List.mem_map.1 hx
  have := y.toNat_lt
  omega⟩
theorem DS.Ok.put {d : DS} (h : d.Ok) {i : Nat} (hi : i < d.now.length) {b : List Int} (hb : Sect b) : (d.put i b).Ok := by
  have h' := h.setNow i b hb
  refine ⟨h'.len, h'.pos, h'.lim, h'.safe, h'.now, fun x hx => ?_, h'.armed0, h'.armed1, h'.falls0⟩
  rcases List.mem_append.1 hx with hx | hx
  · exact h'.wr x hx
  · rw [List.mem_singleton] at hx
    subst hx
    show 0 ≤ (i : Int) ∧ (i : Int) < ((d.now.set i b).length : Int) ∧ Sect b
    rw [List.length_set]
    exact ⟨by omega, by omega, hb⟩
theorem wflat_snoc (ws : List (Int × List Int)) (i : Int) (b : List Int) : wflat (ws ++ [(i, b)]) = wflat ws ++ (.int .i64 i :: nums .u8 b) := by simp [wflat]
/-- Between the append and the store. -/
def WrMid (w : World) (S : Nat → Prop) (g : Nat) (d : DS) (i : Nat) (b : List Int) (vs vn vw : Value) (v : Value) (W : World) : Prop :=
  W.heap[g]? = some (.cells #[vs, vn, vw, .int .i64 d.armed, .bool d.down, .int .i64 d.falls] 115 (0, 0)) ∧ Own W (Nw S w) 122 64 vs d.safe.length (flat d.safe) ∧ Own W (Nw S w) 122 64 vn d.now.length (flat (d.now.set i b)) ∧ Own W (Nw S w) 124 65 v (d.wr.length + 1) (wflat (d.wr ++ [((i : Int), b)])) ∧ Kp S w W
theorem WrMid.store {w : World} {S : Nat → Prop} {g : Nat} {d : DS} {i : Nat} {b : List Int} {vs vn vw v : Value} {W : World} (h : WrMid w S g d i b vs vn vw v W) (hok : d.Ok) (hi : i < d.now.length) (hb : Sect b) (hS : S g) (hne : vs.ownBlock = none ∨ vs.ownBlock ≠ vn.ownBlock) :
    DiskAt (W.setCell ⟨g, 2, none⟩ v) (Nw S w) g (d.put i b) vs vn v ∧ Kp S w (W.setCell ⟨g, 2, none⟩ v) := by
  obtain ⟨h1, h2, h3, h4, h5⟩ := h
  refine ⟨⟨hok.put hi hb, .inl hS, by rw [blk_set h1]; rfl, h2.setCell (h2.type_ne h1 (by decide)) v, ?_, ?_, hne⟩, h5.setCell (.inl hS) v⟩
  · show Own _ _ 122 64 vn (d.now.set i b).length (flat (d.now.set i b))
    rw [List.length_set]
    exact h3.setCell (h3.type_ne h1 (by decide)) v
  · show Own _ _ 124 65 v (d.wr ++ [((i : Int), b)]).length _
    rw [List.length_append, List.length_singleton]
    exact h4.setCell (h4.type_ne h1 (by decide)) v
end Go.Proofs.Ytkedodmlbepfnaa.Lg

-- from the working text Bd
set_option linter.unusedSimpArgs false
set_option linter.unusedVariables false
namespace Go.Proofs.Ytkedodmlbepfnaa.Lg
open Go.RowKit Go.Proofs.YtkedodmlbepfnaaW.PrintWords Go.Proofs.YtkedodmlbepfnaaW.PrintLast Go.Proofs.YtkedodmlbepfnaaW.PrintMore Go.Proofs.Ytkedodmlbepfnaa.Rg
theorem fold_patch (off : Nat) (v cs : Array Value) (h : off + v.size ≤ cs.size) : (v.zipIdx.foldl (fun cs (x : Value × Nat) => cs.setIfInBounds (off + x.2) x.1) cs).toList = patch cs.toList off v.toList := by
  have e : v.zipIdx.foldl (fun cs (x : Value × Nat) => cs.setIfInBounds (off + x.2) x.1) cs = (v.toList.zipIdx 0).foldl (fun cs (x : Value × Nat) => cs.setIfInBounds (off + x.2) x.1) cs := by
    rw [← Array.foldl_toList, Array.toList_zipIdx]
  obtain ⟨h1, h2⟩ := Great.foldl_set off v.toList 0 cs
  rw [e]
  apply List.ext_getElem?
  intro k
  rw [Array.getElem?_toList, h2 k]
  unfold patch
  simp only [Nat.add_zero, Array.length_toList]
  by_cases hk : off ≤ k ∧ k < off + v.size ∧ k < cs.size
  · rw [if_pos hk, List.append_assoc, List.getElem?_append_right (by rw [List.length_take, Array.length_toList]; omega), List.length_take, Array.length_toList, Nat.min_eq_left (by omega), List.getElem?_append_left (by rw [Array.length_toList]; omega)]
  · rw [if_neg hk, List.append_assoc]
    by_cases hlt : k < off
    · rw [List.getElem?_append_left (by rw [List.length_take, Array.length_toList]; omega), List.getElem?_take, if_pos hlt, Array.getElem?_toList]
    · rw [List.getElem?_append_right (by rw [List.length_take, Array.length_toList]; omega), List.length_take, Array.length_toList, Nat.min_eq_left (by omega)]
      by_cases hge : off + v.size ≤ k
      · rw [List.getElem?_append_right (by rw [Array.length_toList]; omega), Array.length_toList, List.getElem?_drop, ← Array.getElem?_toList]
        congr 1
        omega
      · have hkc : cs.size ≤ k := by omega
        omega
theorem info124z : (Try.prog.info? 124).bind (fun i => i.zero.map fun z => (z, i.size, i.bytes)) = some (.agg (#[.int .i64 0] ++ zero64), 65, 72) := by kernel_rfl
theorem places124 : (match Try.prog.underlying 124 with | some (.struct fields) => fields.toList.mapM (fun f => (Try.prog.info? f.type).map fun i => (f.offset, i.size)) | _ => none) = some [(0, 1), (1, 64)] := by kernel_rfl
set_option maxRecDepth 100000 in
theorem built124 (i : Int) (b : List Int) (hb : b.length = 64) : Try.prog.built 124 [(0, .int .i64 i), (1, .agg (nums .u8 b).toArray)] = some (.int .i64 i :: nums .u8 b).toArray := by
  have hz := info124z
  have hp := places124
  unfold Program.built
  cases hi : Try.prog.info? 124 with
  | none => rw [hi] at hz; cases hz
  | some it =>
    cases hu : Try.prog.underlying 124 with
    | none => rw [hu] at hp; cases hp
    | some d =>
      cases d with
      | struct fields =>
        rw [hi] at hz
        rw [hu] at hp
        simp only at hp
        cases hzz : it.zero with
        | none => simp [hzz] at hz
        | some z =>
          simp [hzz] at hz
          simp only [hp, hzz]
          obtain ⟨rfl, _, _⟩ := hz
          have hn : (nums .u8 b).length = 64 := by rw [nums_length, hb]
          have c1 : (Value.int .i64 i).cells = #[.int .i64 i] := rfl
          have c2 : (Value.agg (nums .u8 b).toArray).cells = (nums .u8 b).toArray := rfl
          have cz : (Value.agg (#[.int .i64 0] ++ zero64)).cells = #[.int .i64 0] ++ zero64 := rfl
          have sz : (#[Value.int .i64 0] ++ zero64).size = 65 := by simp [zero64]
          have p1 := fold_patch 0 #[.int .i64 i] (#[.int .i64 0] ++ zero64) (by rw [sz]; simp)
          have s1 : (#[Value.int .i64 i].zipIdx.foldl (fun (cs : Array Value) (x : Value × Nat) => cs.setIfInBounds (0 + x.2) x.1) (#[Value.int .i64 0] ++ zero64)).size = 65 := by
            rw [← Array.length_toList, p1, patch_length (by simp [zero64]), Array.length_toList, sz]
          have p2 := fold_patch 1 (nums .u8 b).toArray (#[Value.int .i64 i].zipIdx.foldl (fun (cs : Array Value) (x : Value × Nat) => cs.setIfInBounds (0 + x.2) x.1) (#[Value.int .i64 0] ++ zero64)) (by rw [s1, List.size_toArray, hn]; omega)
          unfold Instr.fill
          simp only [List.getElem?_toArray, List.getElem?_cons_zero]
          rw [cz, c1, if_neg (by rw [sz]; simp)]
          unfold Instr.fill
          simp only [List.getElem?_toArray, List.getElem?_cons_zero, List.getElem?_cons_succ]
          rw [c2, if_neg (by rw [s1, List.size_toArray, hn]; simp)]
          unfold Instr.fill
          congr 1
          apply Array.ext'
          rw [p2, p1]
          simp only [patch, List.take_zero, List.nil_append, List.length_singleton, Array.toList_append, List.toList_toArray, Nat.zero_add, List.singleton_append, List.take_succ_cons, List.take_zero, hn]
          rw [List.drop_of_length_le (by simp [zero64])]
          simp
      | _ => rw [hu] at hp; cases hp
set_option maxRecDepth 100000 in
theorem fill124 (c : Array Value) (hc : c.size = 65) : Instr.fill (fun i => some (i * 65, 65)) ((Array.range (1 * 65)).map ((Value.agg (#[.int .i64 0] ++ zero64)).cells[· % (Value.agg (#[.int .i64 0] ++ zero64)).cells.size]!)) [(0, .agg c)] = some c := by
  have c2 : (Value.agg c).cells = c := rfl
  have p := fold_patch 0 c ((Array.range (1 * 65)).map ((Value.agg (#[.int .i64 0] ++ zero64)).cells[· % (Value.agg (#[.int .i64 0] ++ zero64)).cells.size]!)) (by simp [hc])
  unfold Instr.fill
  simp only [Nat.zero_mul]
  rw [c2, if_neg (by simp [hc])]
  unfold Instr.fill
  congr 1
  apply Array.ext'
  rw [p]
  unfold patch
  rw [List.drop_of_length_le (by simp [hc])]
  simp
set_option maxRecDepth 100000 in
theorem run_slice124 (w : World) (c : Array Value) (hc : c.size = 65) : (Instr.buildSlice 113 1 #[(0, .agg c)]).run Try.prog w = .ok (.slice (some ⟨w.heap.size, 0, none⟩) 1 1) (w.alloc (.cells c 124)) := by
  have hz := info124z
  cases hi : Try.prog.info? 124 with
  | none => rw [hi] at hz; cases hz
  | some it =>
    rw [hi] at hz
    cases hzz : it.zero with
    | none => simp [hzz] at hz
    | some z =>
      simp [hzz] at hz
      obtain ⟨rfl, h2, _⟩ := hz
      refine run_buildSlice w 113 124 1 _ c it _ Try.underlying113 hi hzz (by rw [h2]; omega) (by rw [h2]; omega) ?_
      rw [h2]
      exact fill124 c hc
end Go.Proofs.Ytkedodmlbepfnaa.Lg

-- from the working text Rm
namespace Go.Proofs.Ytkedodmlbepfnaa.Rg
open Go.RowKit Go.Proofs.YtkedodmlbepfnaaW.PrintWords Go.Proofs.YtkedodmlbepfnaaW.PrintLast Go.Proofs.YtkedodmlbepfnaaW.PrintMore
section
variable {P : Program} {ops : Array Oper} {Q : Exit → Act → World → Prop} {T : Bool × List (List Nat × List Nat)} {n : Nat} {a0 : Act} {w0 : World}
/-- m1 waits for all but m2 and the loose ones L, m2 for all. -/
def lastTwoL (B : List Nat) (O L : List Nat) (m1 m2 : Nat) : Bool :=
  O.contains m1 && O.contains m2 && !(m1 == m2) && O.all (fun i => i == m1 || i == m2 || (((B.getD m1 0).testBit i || L.contains i) && (B.getD m2 0).testBit i)) && (B.getD m2 0).testBit m1
/-- The step of an operation that neither reads nor writes memory. -/
def Loose (P : Program) (ops : Array Oper) (Q : Exit → Act → World → Prop) (B : List Nat) (D : List (Nat × Tmp)) (rel : Nat → Value → World → Prop) (st : Nat → Value → Prop) (a0 : Act) (m1 m2 i : Nat) : Prop :=
  ∀ a w, (∀ t, (D.all fun e => !(e.2 == t)) = true → a.tmps[t]? = a0.tmps[t]?) →
    (∀ j t, D.contains (j, t) = true → ((B.getD i 0).testBit j && !(j == m1) && !(j == m2)) = true → ∃ v, a.tmps[t]? = some v ∧ st j v) →
    ∃ oi, ops[i]? = some oi ∧ ∀ K : Act → World → Prop, (∀ v, (∀ w', rel i v w') → K (a.put oi.dst v) w) → if Region.wanted oi (yielded ops a.tmps) = true then Oper.wp P oi a w K Q else K (a.put oi.dst undef) w
theorem rg4_ {id : Nat} (m1 m2 : Nat) (O L : List Nat) (D : List (Nat × Tmp)) (B : List Nat) (rel : Nat → Value → World → Prop) (st : Nat → Value → Prop) (post1 post2 : Value → World → Prop)
    (hm : P.follows .mixedOrders = true) (hT : rtab .any ops = T) (hw : waitsOk T.2 B = true) (hn : ops.size = n)
    (hk : (baseOk T.2 O && dOk ops O D a0.tmps.size && (lof T.2.length O (fun _ => false) == (Array.replicate n false).toList && O.length == n) && lastTwoL B O L m1 m2) = true)
    (hst : ∀ i v w w', rel i v w → Below w.heap.size w w' → rel i v w') (hrs : ∀ i v w, rel i v w → st i v)
    (hs : ∀ i ∈ O, i = m1 ∨ i = m2 ∨ if L.contains i = true then Loose P ops Q B D rel st a0 m1 m2 i else Step P ops Q B D rel a0 w0 i)
    (h1 : ∀ a w, Below w0.heap.size w0 w → (∀ t, (D.all fun e => !(e.2 == t)) = true → a.tmps[t]? = a0.tmps[t]?) → (∀ j t, D.contains (j, t) = true → ((B.getD m1 0).testBit j && !(j == m1) && !(j == m2)) = true → ∃ v, a.tmps[t]? = some v ∧ rel j v w) →
      ∃ oi, ops[m1]? = some oi ∧ ∀ K : Act → World → Prop, (∀ v w1, post1 v w1 → K (a.put oi.dst v) w1) → if Region.wanted oi (yielded ops a.tmps) = true then Oper.wp P oi a w K Q else K (a.put oi.dst undef) w)
    (h2 : ∀ a w, (∀ t, (D.all fun e => !(e.2 == t)) = true → a.tmps[t]? = a0.tmps[t]?) → (∀ j t, D.contains (j, t) = true → (!(j == m1) && !(j == m2)) = true → ∃ v, a.tmps[t]? = some v ∧ st j v) → (∃ v, post1 v w ∧ ∀ t, D.contains (m1, t) = true → a.tmps[t]? = some v) →
      ∃ oi, ops[m2]? = some oi ∧ ∀ K : Act → World → Prop, (∀ v w1, post2 v w1 → K (a.put oi.dst v) w1) → if Region.wanted oi (yielded ops a.tmps) = true then Oper.wp P oi a w K Q else K (a.put oi.dst undef) w)
    (hend : ∀ (vals : Nat → Value) (w : World), post2 (vals m2) w → (∀ e ∈ D, e.1 ≠ m1 → e.1 ≠ m2 → st e.1 (vals e.1)) → Q .normal (fill a0 vals D) w) :
    (Code.region id ops true).wp P Q a0 w0 := by
  simp only [Bool.and_eq_true] at hk
  obtain ⟨⟨⟨hk1, hk2⟩, hk3⟩, hk4⟩ := hk
  refine start_ (n := n) (S := fun _ => True) (ds := []) (Array.replicate n false) hm hn rfl trivial fun _ => ?_
  have hb0 : Below w0.heap.size w0 w0.drew := below_drew (Below.refl _ _)
  revert hb0
  generalize w0.drew = w
  intro hb0
  simp only [dOk, Bool.and_eq_true] at hk2
  obtain ⟨⟨⟨hD1, hD2⟩, hD3⟩, hD4⟩ := hk2
  have hD2 := of_decide_eq_true hD2
  have hD3 := of_decide_eq_true hD3
  simp only [lastTwoL, Bool.and_eq_true, Bool.not_eq_true', beq_eq_false_iff_ne] at hk4
  obtain ⟨⟨⟨⟨hm1O, hm2O⟩, hmne⟩, hwait⟩, hm21⟩ := hk4
  have hwt : ∀ i, O.contains i = true → i ≠ m1 → i ≠ m2 → (L.contains i = false → (B.getD m1 0).testBit i = true) ∧ (B.getD m2 0).testBit i = true := by
    intro i hi h1 h2
    have h := List.all_eq_true.1 hwait i (List.contains_iff_mem.1 hi)
    simp only [Bool.or_eq_true, beq_iff_eq, Bool.and_eq_true] at h
    rcases h with (h | h) | h
    · exact absurd h h1
    · exact absurd h h2
    · refine ⟨fun hL => ?_, h.2⟩
      rcases h.1 with h | h
      · exact h
      · rw [hL] at h; cases h
  have hmemO : ∀ j t, D.contains (j, t) = true → O.contains j = true := fun j t hjt => by
    have h1 := List.all_eq_true.1 hD1 (j, t) (List.contains_iff_mem.1 hjt)
    simp only [Bool.and_eq_true] at h1
    exact h1.2
  refine inv_ O (fun b a w => ∃ vals : Nat → Value, a = putSel a0 b (ent vals D) ∧ (b m1 = false → Below w0.heap.size w0 w ∧ ∀ i, O.contains i = true → b i = true → i ≠ m1 → i ≠ m2 → rel i (vals i) w) ∧
    (b m1 = true → (∀ i, O.contains i = true → b i = true → i ≠ m1 → i ≠ m2 → st i (vals i)) ∧ (b m2 = false → post1 (vals m1) w) ∧ (b m2 = true → post2 (vals m2) w))) hT hw hk1 (by rw [Bool.and_eq_true]; exact hk3) ?_ ?_ ?_
  · refine ⟨fun _ => undef, ?_, fun _ => ⟨hb0, fun i _ h => by cases h⟩, fun h => by cases h⟩
    have : ∀ (D : List (Nat × Tmp)) (a : Act), a = putSel a (fun _ => false) (ent (fun _ => undef) D) := by
      intro D
      induction D with
      | nil => intro a; rfl
      | cons e r ih => intro a; exact ih a
    exact this D a0
  · intro i hi b a w hI hbi hneed hafter
    obtain ⟨vals, ha, hA, hB⟩ := hI
    have hsz := putSel_size b (ent vals D) a0
    rw [← ha] at hsz
    have hiO : O.contains i = true := List.contains_iff_mem.2 hi
    have hoff : ∀ t, (D.all fun e => !(e.2 == t)) = true → a.tmps[t]? = a0.tmps[t]? := fun t ht => by
      rw [ha]
      refine putSel_off ?_
      unfold ent
      rw [List.all_map]
      exact ht
    by_cases hi2 : i = m2
    · subst hi2
      have hbm1 : b m1 = true := hneed m1 (by rw [Bool.and_eq_true]; exact ⟨hm1O, hm21⟩)
      obtain ⟨hstt, hp1, _⟩ := hB hbm1
      obtain ⟨oi, hoi, hstep⟩ := h2 a w hoff (fun j t hjt hne => by
        simp only [Bool.and_eq_true, Bool.not_eq_true', beq_eq_false_iff_ne] at hne
        have hbj := hneed j (by rw [Bool.and_eq_true]; exact ⟨hmemO j t hjt, (hwt j (hmemO j t hjt) hne.1 hne.2).2⟩)
        refine ⟨vals j, ?_, hstt j (hmemO j t hjt) hbj hne.1 hne.2⟩
        rw [ha]
        exact slot_of hD1 hD2 (List.contains_iff_mem.1 hjt) hbj)
        ⟨vals m1, hp1 hbi, fun t ht => by rw [ha]; exact slot_of hD1 hD2 (List.contains_iff_mem.1 ht) hbm1⟩
      refine ⟨oi, hoi, fun K hK => hstep K fun v w1 hv => hK _ _ ⟨fun j => if j = i then v else vals j, ?_, fun h => ?_, fun _ => ⟨fun j hj hbj hj1 hj2 => ?_, fun h => ?_, fun _ => ?_⟩⟩⟩
      · rw [ha]; exact put_of hD2 hD3 hoi hi hbi hD4
      · rw [up_ne hmne, hbm1] at h; cases h
      · simp only [if_neg hj2]; exact hstt j hj (by rw [up_ne hj2] at hbj; exact hbj) hj1 hj2
      · rw [up_self] at h; cases h
      · simp only [if_true]; exact hv
    · have hb2 : b m2 = false := hafter m2 (by
        rw [Bool.and_eq_true]
        refine ⟨hm2O, ?_⟩
        by_cases hi1 : i = m1
        · subst hi1; exact hm21
        · exact (hwt i hiO hi1 hi2).2)
      by_cases hi1 : i = m1
      · subst hi1
        obtain ⟨hbw, hrel⟩ := hA hbi
        obtain ⟨oi, hoi, hstep⟩ := h1 a w hbw hoff (fun j t hjt hne => by
          simp only [Bool.and_eq_true, Bool.not_eq_true', beq_eq_false_iff_ne] at hne
          have hbj := hneed j (by rw [Bool.and_eq_true]; exact ⟨hmemO j t hjt, hne.1.1⟩)
          refine ⟨vals j, ?_, hrel j (hmemO j t hjt) hbj hne.1.2 hne.2⟩
          rw [ha]
          exact slot_of hD1 hD2 (List.contains_iff_mem.1 hjt) hbj)
        refine ⟨oi, hoi, fun K hK => hstep K fun v w1 hv => hK _ _ ⟨fun j => if j = i then v else vals j, ?_, fun h => ?_, fun _ => ⟨fun j hj hbj hj1 hj2 => ?_, fun _ => ?_, fun h => ?_⟩⟩⟩
        · rw [ha]; exact put_of hD2 hD3 hoi hi hbi hD4
        · rw [up_self] at h; cases h
        · simp only [if_neg hj1]; exact hrs j _ w (hrel j hj (by rw [up_ne hj1] at hbj; exact hbj) hj1 hj2)
        · simp only [if_true]; exact hv
        · rw [up_ne (Ne.symm hmne), hb2] at h; cases h
      · by_cases hL : L.contains i = true
        · have hsi : Loose P ops Q B D rel st a0 m1 m2 i := by
            rcases hs i hi with h | h | h
            · exact absurd h hi1
            · exact absurd h hi2
            · rw [if_pos hL] at h; exact h
          have hstt : ∀ j, O.contains j = true → b j = true → j ≠ m1 → j ≠ m2 → st j (vals j) := by
            intro j hj hbj hj1 hj2
            cases hb1 : b m1 with
            | false => exact hrs j _ w ((hA hb1).2 j hj hbj hj1 hj2)
            | true => exact (hB hb1).1 j hj hbj hj1 hj2
          obtain ⟨oi, hoi, hstep⟩ := hsi a w hoff (fun j t hjt hbit => by
            simp only [Bool.and_eq_true, Bool.not_eq_true', beq_eq_false_iff_ne] at hbit
            have hbj := hneed j (by rw [Bool.and_eq_true]; exact ⟨hmemO j t hjt, hbit.1.1⟩)
            refine ⟨vals j, ?_, hstt j (hmemO j t hjt) hbj hbit.1.2 hbit.2⟩
            rw [ha]
            exact slot_of hD1 hD2 (List.contains_iff_mem.1 hjt) hbj)
          refine ⟨oi, hoi, fun K hK => hstep K fun v hrv => hK _ _ ⟨fun j => if j = i then v else vals j, ?_, fun h => ?_, fun h => ?_⟩⟩
          · rw [ha]; exact put_of hD2 hD3 hoi hi hbi hD4
          · rw [up_ne (Ne.symm hi1)] at h
            obtain ⟨hbw, hrel⟩ := hA h
            refine ⟨hbw, fun j hj hbj hj1 hj2 => ?_⟩
            by_cases hji : j = i
            · subst hji; simp only [if_true]; exact hrv w
            · simp only [if_neg hji]
              rw [up_ne hji] at hbj
              exact hrel j hj hbj hj1 hj2
          · rw [up_ne (Ne.symm hi1)] at h
            obtain ⟨_, hp1, hp2⟩ := hB h
            refine ⟨fun j hj hbj hj1 hj2 => ?_, fun h2 => ?_, fun h2 => ?_⟩
            · by_cases hji : j = i
              · subst hji; simp only [if_true]; exact hrs j v w (hrv w)
              · simp only [if_neg hji]
                rw [up_ne hji] at hbj
                exact hstt j hj hbj hj1 hj2
            · simp only [if_neg (Ne.symm hi1)]; exact hp1 hb2
            · rw [up_ne (Ne.symm hi2), hb2] at h2; cases h2
        · have hLf : L.contains i = false := by simpa using hL
          have hb1 : b m1 = false := hafter m1 (by rw [Bool.and_eq_true]; exact ⟨hm1O, (hwt i hiO hi1 hi2).1 hLf⟩)
          obtain ⟨hbw, hrel⟩ := hA hb1
          have hsi : Step P ops Q B D rel a0 w0 i := by
            rcases hs i hi with h | h | h
            · exact absurd h hi1
            · exact absurd h hi2
            · rw [if_neg hL] at h; exact h
          obtain ⟨oi, hoi, hstep⟩ := hsi a w hbw hsz.1 hsz.2 hoff (fun j t hjt hbit => by
            have hbj := hneed j (by rw [Bool.and_eq_true]; exact ⟨hmemO j t hjt, hbit⟩)
            have hj1 : j ≠ m1 := fun h => by subst h; rw [hb1] at hbj; cases hbj
            have hj2 : j ≠ m2 := fun h => by subst h; rw [hb2] at hbj; cases hbj
            refine ⟨vals j, ?_, hrel j (hmemO j t hjt) hbj hj1 hj2⟩
            rw [ha]
            exact slot_of hD1 hD2 (List.contains_iff_mem.1 hjt) hbj)
          refine ⟨oi, hoi, fun K hK => hstep K fun v w1 hbw1 hrv => hK _ _ ⟨fun j => if j = i then v else vals j, ?_, fun _ => ⟨below_step hbw hbw1, fun j hj hbj hj1 hj2 => ?_⟩, fun h => ?_⟩⟩
          · rw [ha]; exact put_of hD2 hD3 hoi hi hbi hD4
          · by_cases hji : j = i
            · subst hji; simp only [if_true]; exact hrv
            · simp only [if_neg hji]
              rw [up_ne hji] at hbj
              exact hst j _ _ _ (hrel j hj hbj hj1 hj2) hbw1
          · rw [up_ne (Ne.symm hi1), hb1] at h; cases h
  · intro b a w hall hI
    obtain ⟨vals, ha, _, hB⟩ := hI
    have hm : ∀ e ∈ D, O.contains e.1 = true := fun e he => by
      have h1 := List.all_eq_true.1 hD1 e he
      simp only [Bool.and_eq_true] at h1
      exact h1.2
    obtain ⟨hstt, _, hp2⟩ := hB (hall m1 hm1O)
    rw [ha, fill_eq vals D a0 fun e he => hall e.1 (hm e he)]
    exact hend vals w (hp2 (hall m2 hm2O)) fun e he h1 h2 => hstt e.1 (hm e he) (hall e.1 (hm e he)) h1 h2
section
variable {B : List Nat} {D : List (Nat × Tmp)} {rel : Nat → Value → World → Prop} {st : Nat → Value → Prop} {m1 m2 : Nat} {L : List Nat}
/-- One of the steps of rg4_. -/
def Step4 (P : Program) (ops : Array Oper) (Q : Exit → Act → World → Prop) (B : List Nat) (D : List (Nat × Tmp)) (rel : Nat → Value → World → Prop) (st : Nat → Value → Prop) (a0 : Act) (w0 : World) (L : List Nat) (m1 m2 i : Nat) : Prop :=
  i = m1 ∨ i = m2 ∨ if L.contains i = true then Loose P ops Q B D rel st a0 m1 m2 i else Step P ops Q B D rel a0 w0 i
theorem steps4_nil : ∀ i ∈ ([] : List Nat), Step4 P ops Q B D rel st a0 w0 L m1 m2 i := fun _ h => by cases h
theorem steps4_cons {i : Nat} {rs : List Nat} (hL : L.contains i = false) (h : Step P ops Q B D rel a0 w0 i) (hs : ∀ j ∈ rs, Step4 P ops Q B D rel st a0 w0 L m1 m2 j) : ∀ j ∈ i :: rs, Step4 P ops Q B D rel st a0 w0 L m1 m2 j := fun j hj => by
  rcases List.mem_cons.1 hj with rfl | hj
  · exact .inr (.inr (by rw [if_neg (by rw [hL]; simp)]; exact h))
  · exact hs j hj
theorem steps4_loose {i : Nat} {rs : List Nat} (hL : L.contains i = true) (h : Loose P ops Q B D rel st a0 m1 m2 i) (hs : ∀ j ∈ rs, Step4 P ops Q B D rel st a0 w0 L m1 m2 j) : ∀ j ∈ i :: rs, Step4 P ops Q B D rel st a0 w0 L m1 m2 j := fun j hj => by
  rcases List.mem_cons.1 hj with rfl | hj
  · exact .inr (.inr (by rw [if_pos hL]; exact h))
  · exact hs j hj
theorem steps4_m1 {rs : List Nat} (hs : ∀ j ∈ rs, Step4 P ops Q B D rel st a0 w0 L m1 m2 j) : ∀ j ∈ m1 :: rs, Step4 P ops Q B D rel st a0 w0 L m1 m2 j := fun j hj => by
  rcases List.mem_cons.1 hj with rfl | hj
  · exact .inl rfl
  · exact hs j hj
theorem steps4_m2 {rs : List Nat} (hs : ∀ j ∈ rs, Step4 P ops Q B D rel st a0 w0 L m1 m2 j) : ∀ j ∈ m2 :: rs, Step4 P ops Q B D rel st a0 w0 L m1 m2 j := fun j hj => by
  rcases List.mem_cons.1 hj with rfl | hj
  · exact .inr (.inl rfl)
  · exact hs j hj
end
end
end Go.Proofs.Ytkedodmlbepfnaa.Rg

-- from the working text Wt
set_option linter.unusedSimpArgs false
set_option linter.unusedVariables false
namespace Go.Proofs.Ytkedodmlbepfnaa.Lg
open Go.RowKit Go.Proofs.YtkedodmlbepfnaaW.PrintWords Go.Proofs.YtkedodmlbepfnaaW.PrintLast Go.Proofs.YtkedodmlbepfnaaW.PrintMore Go.Proofs.Ytkedodmlbepfnaa.Rg
/-- Appending one write. -/
theorem append124 {w : World} {S : Nat → Prop} {v : Value} {n : Nat} {xs cs : List Value} {gl : Nat} (ty : TypeId) (h : Own w S 124 65 v n xs) (hl : w.heap[gl]? = some (.cells cs.toArray 124 (0, 0))) (hc : cs.length = 65) (h1 : ∀ u ∈ cs, u.oneCell' = true) (hn : n ≤ 1000000) :
    ∃ v' w', (Builtin.append_ #[113, 113] ty #[v, .slice (some ⟨gl, 0, none⟩) 1 1]).run Try.prog w = .ok v' w' ∧ Own w' (Nw S w) 124 65 v' (n + 1) (xs ++ cs) ∧ w.grownBy w' v.ownBlock := by
  have hz := info124z
  cases hi : Try.prog.info? 124 with
  | none => rw [hi] at hz; cases hz
  | some it =>
    rw [hi] at hz
    cases hzz : it.zero with
    | none => simp [hzz] at hz
    | some z =>
      simp [hzz] at hz
      obtain ⟨hz1, hz2, hz3⟩ := hz
      obtain ⟨v', w', hrun, hown, hg, _, hb⟩ := run_append_own_at (P := Try.prog) w 0 113 ty 124 it z 65 72 Try.underlying113 hi hzz hz2 hz3 (by rw [hz1]; show (#[Value.int .i64 0] ++ zero64).size = 65; simp [zero64]) (by omega) v n xs h.1 ⟨gl, 0, none⟩ 1 1 cs (by omega)
        (by
          intro j u hu
          rw [Addr.add_mid, Nat.zero_add, blk_cell hl j, List.getElem?_toArray]
          exact hu) h1 (by simp only [maxLen]; omega) (by omega) (Nat.zero_le _)
      refine ⟨v', w', hrun, ⟨hown, fun k hk => ?_⟩, hg⟩
      rcases hb with hb | hb
      · exact .inl (h.2 k (hb ▸ hk))
      · rw [hb] at hk
        injection hk with hk
        exact .inr (by omega)
theorem append124_step {oi : Oper} {a : Act} {w : World} {S : Nat → Prop} {s x : Operand} {v : Value} {n gl : Nat} {xs cs : List Value} (hop : oi.op = .call { callee := .builtin .append, args := #[s, x], argTypes := #[113, 113] })
    (hs : a.eval s = v) (hx : a.eval x = .slice (some ⟨gl, 0, none⟩) 1 1) (h : Own w S 124 65 v n xs) (hl : w.heap[gl]? = some (.cells cs.toArray 124 (0, 0))) (hc : cs.length = 65) (h1 : ∀ u ∈ cs, u.oneCell' = true) (hn : n ≤ 1000000) :
    ∃ v' w', (execOp a.eval oi).run Try.prog w = .ok (.value v') w' ∧ Own w' (Nw S w) 124 65 v' (n + 1) (xs ++ cs) ∧ w.grownBy w' v.ownBlock := by
  obtain ⟨v', w', hrun, hr⟩ := append124 oi.type h hl hc h1 hn
  refine ⟨v', w', ?_, hr⟩
  unfold execOp
  simp only [hop, resolve, invoke, builtin, Sem.run_bind, Sem.run_pure, Result.andThen_ok, List.map_toArray, List.map_cons, List.map_nil, hs, hx, hrun]
theorem append124_ {ops : Array Oper} {Q : Exit → Act → World → Prop} {oi : Oper} {N : Option Tmp} {a : Act} {w : World} {K : Act → World → Prop} {S : Nat → Prop} {s x : Operand} {v : Value} {n gl : Nat} {xs cs : List Value} (hw : Region.wanted oi (yielded ops a.tmps) = true) (hN : oi.dst = N)
    (hop : oi.op = .call { callee := .builtin .append, args := #[s, x], argTypes := #[113, 113] })
    (hs : a.eval s = v) (hx : a.eval x = .slice (some ⟨gl, 0, none⟩) 1 1) (h : Own w S 124 65 v n xs) (hl : w.heap[gl]? = some (.cells cs.toArray 124 (0, 0))) (hc : cs.length = 65) (h1 : ∀ u ∈ cs, u.oneCell' = true) (hn : n ≤ 1000000)
    (hk : ∀ v' w', Own w' (Nw S w) 124 65 v' (n + 1) (xs ++ cs) → w.grownBy w' v.ownBlock → K (a.put N v') w') : if Region.wanted oi (yielded ops a.tmps) = true then Oper.wp Try.prog oi a w K Q else K (a.put N undef) w := by
  obtain ⟨v', w', hrun, ho, hg⟩ := append124_step hop hs hx h hl hc h1 hn
  exact value_ hw hN hrun (hk v' w' ho hg)
theorem size113 : (Try.prog.info? 113).map (·.size) = some 1 := by kernel_rfl
set_option maxRecDepth 100000 in
theorem store_step {oi : Oper} {a : Act} {w : World} {g i n c : Nat} {A : Option Addr} {x p : Operand} {u : Value} {ty e : TypeId} (hop : oi.op = .store ty p x) (hp : a.eval p = .pointer (some ⟨g, i, none⟩)) (hx : a.eval x = .slice A n c) (hc : w.cell? ⟨g, i, none⟩ = some u) (hf : w.frozen? ⟨g, i, none⟩ = false)
    (hu : Try.prog.underlying ty = some (.slice e)) (hz : (Try.prog.info? ty).map (·.size) = some 1) : (execOp a.eval oi).run Try.prog w = .ok .skip (w.setCell ⟨g, i, none⟩ (.slice A n c)) := by
  cases hq : Try.prog.info? ty with
  | none => simp [hq] at hz
  | some it =>
    have hi : it.size = 1 := by simpa [hq] using hz
    have hso : ∀ w : World, (sizeOf ty).run Try.prog w = .ok 1 w := by
      intro w
      simp [sizeOf, typeInfo, hq, hi]
    unfold execOp
    simp only [hop, hp, hx]
    go_simp
theorem store_ {ops : Array Oper} {Q : Exit → Act → World → Prop} {oi : Oper} {a : Act} {w : World} {K : Act → World → Prop} {g i n c : Nat} {A : Option Addr} {x p : Operand} {u : Value} {ty e : TypeId} (hw : Region.wanted oi (yielded ops a.tmps) = true) (hN : oi.dst = none) (hop : oi.op = .store ty p x) (hp : a.eval p = .pointer (some ⟨g, i, none⟩)) (hx : a.eval x = .slice A n c) (hc : w.cell? ⟨g, i, none⟩ = some u) (hf : w.frozen? ⟨g, i, none⟩ = false)
    (hu : Try.prog.underlying ty = some (.slice e)) (hz : (Try.prog.info? ty).map (·.size) = some 1) (hk : K a (w.setCell ⟨g, i, none⟩ (.slice A n c))) : if Region.wanted oi (yielded ops a.tmps) = true then Oper.wp Try.prog oi a w K Q else K (a.put none undef) w :=
  skip_ hw hN (store_step hop hp hx hc hf hu hz) hk
theorem Own.grown {w w1 : World} {S : Nat → Prop} {e : TypeId} {size n : Nat} {v : Value} {xs : List Value} {row : Option Nat} (h : Own w S e size v n xs) (hg : w.grownBy w1 row) (hr : row = none ∨ v.ownBlock ≠ row) : Own w1 S e size v n xs := by
  refine ⟨⟨h.1.1, ?_⟩, h.2⟩
  rcases h.1.2 with h2 | ⟨g, cap, cur, hv, hb, hh, r⟩
  · exact .inl h2
  · refine .inr ⟨g, cap, cur, hv, hb, (hg.block g (blk_lt hh) (fun e' => ?_)).trans hh, r⟩
    rcases hr with hr | hr
    · rw [hr] at e'; cases e'
    · exact hr (by rw [hv, ← e']; rfl)
/-- Two rows of different types lie in different blocks. -/
theorem Own.apart {w : World} {S S' : Nat → Prop} {e e' : TypeId} {size size' n n' : Nat} {v v' : Value} {xs xs' : List Value} (h : Own w S e size v n xs) (h' : Own w S' e' size' v' n' xs') (hne : e ≠ e') : v'.ownBlock = none ∨ v.ownBlock ≠ v'.ownBlock := by
  cases hv : v'.ownBlock with
  | none => exact .inl rfl
  | some k =>
    refine .inr fun hk => ?_
    obtain ⟨c1, hc1⟩ := own_typed h'.1 k hv
    exact h.type_ne hc1 hne hk
theorem nums_one {k : IntKind} (l : List Int) : ∀ u ∈ nums k l, u.oneCell' = true := by
  intro u hu
  simp only [nums, List.mem_map] at hu
  obtain ⟨x, _, rfl⟩ := hu
  rfl
/-- What Write does. -/
def DS.write (d : DS) (i : Int) (s : ByteArray) : Int × DS := if d.check i ≠ 0 then (d.check i, d) else if s.size ≠ 64 then (1, d) else (if (d.put i.toNat (bytesOf s)).fails.1 = true then 91 else 0, (d.put i.toNat (bytesOf s)).fails.2)
theorem DS.check_zero {d : DS} {i : Int} (h : d.check i = 0) : d.down = false ∧ 0 ≤ i ∧ i < d.now.length := by
  unfold DS.check at h
  split at h
  · cases h
  · split at h
    · cases h
    · rename_i h1 h2
      exact ⟨by simpa using h1, by omega, by omega⟩
theorem flat_sect {ss : List (List Int)} (h : ∀ s ∈ ss, s.length = 64) {i : Nat} {b : List Int} (hb : ss[i]? = some b) (j : Nat) (hj : j < 64) : (flat ss)[i * 64 + j]? = (nums .u8 b)[j]? := by
  induction ss generalizing i with
  | nil => simp at hb
  | cons s ss ih =>
    have hs := h s List.mem_cons_self
    unfold flat at ih ⊢
    rw [List.flatten_cons, nums_append]
    cases i with
    | zero =>
      simp only [List.getElem?_cons_zero, Option.some.injEq] at hb
      subst hb
      rw [Nat.zero_mul, Nat.zero_add, List.getElem?_append_left (by rw [nums_length, hs]; exact hj)]
    | succ i =>
      rw [List.getElem?_cons_succ] at hb
      rw [List.getElem?_append_right (by rw [nums_length, hs]; omega), nums_length, hs, show (i + 1) * 64 + j - 64 = i * 64 + j by omega]
      exact ih (fun t ht => h t (List.mem_cons_of_mem _ ht)) hb
def wrRel (g gn i nn c : Nat) (vw : Value) (b : List Int) : Nat → Value → World → Prop
  | 0, v, _ => v = .pointer (some ⟨g, 0, none⟩)
  | 1, v, _ => v = .pointer (some ⟨g, 0, none⟩)
  | 2, v, _ => v = .pointer (some ⟨g, 0, none⟩)
  | 3, v, _ => v = .pointer (some ⟨g, 2, none⟩)
  | 4, v, _ => v = vw
  | 5, v, _ => v = .int .i64 (i : Int)
  | 6, v, _ => v = .pointer (some ⟨g, 0, none⟩)
  | 7, v, _ => v = .pointer (some ⟨g, 0, none⟩)
  | 8, v, _ => v = .pointer (some ⟨g, 1, none⟩)
  | 9, v, _ => v = .slice (some ⟨gn, 0, none⟩) nn c
  | 10, v, _ => v = .int .i64 (i : Int)
  | 11, v, _ => v = .pointer (some ⟨gn, i * 64, none⟩)
  | 12, v, _ => v = .agg (nums .u8 b).toArray
  | 13, v, _ => v = .agg (Value.int .i64 (i : Int) :: nums .u8 b).toArray
  | 14, v, w => ∃ gl, v = .slice (some ⟨gl, 0, none⟩) 1 1 ∧ w.heap[gl]? = some (.cells (Value.int .i64 (i : Int) :: nums .u8 b).toArray 124 (0, 0))
  | 16, v, _ => v = .pointer (some ⟨g, 0, none⟩)
  | 17, v, _ => v = .pointer (some ⟨g, 2, none⟩)
  | _, _, _ => True
def wrSt (g : Nat) : Nat → Value → Prop
  | 0, v => v = .pointer (some ⟨g, 0, none⟩)
  | 16, v => v = .pointer (some ⟨g, 0, none⟩)
  | 17, v => v = .pointer (some ⟨g, 2, none⟩)
  | _, _ => True
theorem wrRel_stable (g gn i nn c : Nat) (vw : Value) (b : List Int) (j : Nat) (v : Value) (w w' : World) (h : wrRel g gn i nn c vw b j v w) (hb : Below w.heap.size w w') : wrRel g gn i nn c vw b j v w' := by
  revert h
  unfold wrRel
  split <;> intro h <;> first | exact h | (obtain ⟨gl, h1, h2⟩ := h; exact ⟨gl, h1, (hb.block gl (blk_lt h2)).trans h2⟩)
theorem wrRel_st (g gn i nn c : Nat) (vw : Value) (b : List Int) (j : Nat) (v : Value) (w : World) (h : wrRel g gn i nn c vw b j v w) : wrSt g j v := by
  unfold wrSt
  split <;> first | exact h | trivial
theorem DiskAt.below' {w w1 : World} {S : Nat → Prop} {g : Nat} {d : DS} {vs vn vw : Value} (h : DiskAt w S g d vs vn vw) (hb : Below w.heap.size w w1) : DiskAt w1 S g d vs vn vw := h.below hb
theorem wr_post1 {w0 W0 w1 w2 : World} {S : Nat → Prop} {g i : Nat} {d : DS} {b : List Int} {vs vn vw v : Value} (h : DiskAt W0 S g { d with now := d.now.set i b } vs vn vw) (hk : Kp S w0 W0) (hB : Below W0.heap.size W0 w1)
    (hown : Own w2 (Nw S w1) 124 65 v (d.wr.length + 1) (wflat d.wr ++ (.int .i64 (i : Int) :: nums .u8 b))) (hg : w1.grownBy w2 vw.ownBlock) : WrMid w0 S g d i b vs vn vw v w2 := by
  have h' := h.below hB
  obtain ⟨h1, h2, h3, h4, h5, h6, h7⟩ := h'
  have hs1 : ∀ k, S k → Nw S w0 k := fun k hk => .inl hk
  refine ⟨?_, ?_, ?_, ?_, ?_⟩
  · exact (hg.block g (blk_lt h3) (fun e => h6.type_ne h3 (by decide) e.symm)).trans h3
  · exact (h4.grown hg (h4.apart h6 (by decide))).mono hs1
  · have h5' := (h5.grown hg (h5.apart h6 (by decide))).mono hs1
    rw [show ({ d with now := d.now.set i b } : DS).now.length = d.now.length from List.length_set] at h5'
    exact h5'
  · rw [wflat_snoc]
    refine hown.mono fun k hk' => ?_
    rcases hk' with hk' | hk'
    · exact .inl hk'
    · exact .inr (Nat.le_trans hk.size (Nat.le_trans hB.size hk'))
  · exact (hk.below hB).of_grown hg (fun k e => .inl (h6.2 k e))
theorem range_of {w : World} {S : Nat → Prop} {gn nn c : Nat} {ss : List (List Int)} {b : List Int} {i : Nat} (h : Own w S 122 64 (.slice (some ⟨gn, 0, none⟩) nn c) nn (flat ss)) (hs : ∀ s ∈ ss, s.length = 64) (hb : ss[i]? = some b) (hbl : b.length = 64) (hn : ss.length = nn) : w.rangeAt gn (i * 64) (nums .u8 b) := by
  intro j v hv
  have hj : j < 64 := by
    have := (List.getElem?_eq_some_iff.1 hv).1
    rw [nums_length, hbl] at this
    exact this
  have hi : i < ss.length := (List.getElem?_eq_some_iff.1 hb).1
  obtain ⟨g', c', cur, hv', _, hg, hnc, _, hcs, ht⟩ := h.form (by omega)
  injection hv' with ha _ hc
  injection ha with ha
  injection ha with ha
  subst ha
  rw [blk_cell hg, ← Array.getElem?_toList, ← hv, ← flat_sect hs hb j hj, ← ht, List.getElem?_take, if_pos (by omega)]
theorem size122 : (Try.prog.info? 122).map (·.size) = some 64 := by kernel_rfl
theorem under122 : Try.prog.underlying 122 = some (.array 64 5) := by kernel_rfl
set_option maxHeartbeats 8000000 in
set_option maxRecDepth 100000 in
theorem write_calls (w : World) (S : Nat → Prop) (g : Nat) (d : DS) (vs vn vw : Value) (i : Int) (s : ByteArray) (h0 : DiskAt w S g d vs vn vw) (hf : d.falls ≤ 1000000) (hl : d.wr.length ≤ 1000000) :
    Calls Try.prog 31 #[.pointer (some ⟨g, 0, none⟩), .int .i64 i, .string s] w fun e w' => ∃ vs' vn' vw', e = .returned (.int .i64 (d.write i s).1) ∧ DiskAt w' (Nw S w) g (d.write i s).2 vs' vn' vw' ∧ Kp S w w' := by
  have H := Aside0.mk h0
  by_cases hc : d.check i = 0
  · obtain ⟨hdn, hi0, hi1⟩ := DS.check_zero hc
    obtain ⟨i, rfl⟩ := Int.eq_ofNat_of_zero_le hi0
    by_cases hs : s.size = 64
    · have hE := Aside0.mk (show d.write (i : Int) s = (if (d.put i (bytesOf s)).fails.1 = true then 91 else 0, (d.put i (bytesOf s)).fails.2) by unfold DS.write; rw [if_neg (by simp [hc]), if_neg (by simp [hs]), Int.toNat_natCast])
      have HC := Aside0.mk hc
      have hn1 : i < d.now.length := by omega
      have Hi := Aside0.mk hn1
      obtain ⟨gn, c, cur, hvn, hSgn, hgn, hnc, hcm, hcs, hct⟩ := h0.2.2.2.2.1.form (by omega)
      subst hvn
      have hb := h0.2.2.1
      have HL := Aside0.mk h0.1.lim
      have HF := Aside0.mk hf
      have HN := Aside0.mk hl
      have HS6 := Aside0.mk hs
      have hss := Aside0.mk (bytes_sect hs)
      have c1 : w.cell? ⟨g, 1, none⟩ = some (.slice (some ⟨gn, 0, none⟩) d.now.length c) := (blk_cell hb 1).trans rfl
      have bs : ((s.size : Int) == 64) = true := by rw [beq_iff_eq]; omega
      have hq0 : decide ((i : Int) < 0) = false := by simp
      have hq1 : decide ((d.now.length : Int) ≤ (i : Int)) = false := by simp; omega
      have hfit : i * 64 + s.size ≤ cur.size := by
        have := Nat.mul_le_mul_right 64 hnc
        omega
      have HFit := Aside0.mk hfit
      have HG := Aside0.mk hgn
      have kcp : ∀ nd : Nat, (Builtin.copy_ #[88, 9] 3 #[.slice (some ⟨gn, i * 64, none⟩) 64 64, .string s]).run Try.prog (w.drewN nd) = .ok (goInt s.size) ((w.drewN nd).setRow gn (patch cur.toList (i * 64) (nums .u8 (bytesOf s))).toArray) := fun nd => run_copy_str (w.drewN nd) 88 9 3 5 gn (i * 64) 64 64 cur 122 s Try.underlying88 (by kernel_rfl) (by rw [World.heap_drewN]; exact hgn) (by omega) hfit
      have HSg := Aside0.mk hSgn
      clear hSgn
      clear h0 hb hc hdn hi0 hi1 hl hf hs hnc hcm hcs hct hfit hgn
      go_enter Try.func31, Try.ntmps31
      go_wp2_with (go_at_call 85; (with_reducible refine (check_calls _ S g d vs _ vw (i : Int) H.out).mono ?_); rintro e w' ⟨rfl, ⟨nd, rfl⟩⟩; simp only [HC.out])
      have hD6 : DiskAt ((w.drewN nd).setRow gn (patch cur.toList (i * 64) (nums .u8 (bytesOf s))).toArray) S g { d with now := d.now.set i (bytesOf s) } vs (.slice (some ⟨gn, 0, none⟩) d.now.length c) vw :=
        (H.out.below (pw_below_drewN (Below.refl _ _) nd)).sector (by rw [World.heap_drewN]; exact HG.out) Hi.out hss.out
      have hK6 : Kp S w ((w.drewN nd).setRow gn (patch cur.toList (i * 64) (nums .u8 (bytesOf s))).toArray) := (Kp.of_below S (pw_below_drewN (Below.refl _ _) nd)).setRow (.inl HSg.out) _
      generalize hW : (w.drewN nd).setRow gn (patch cur.toList (i * 64) (nums .u8 (bytesOf s))).toArray = W0 at hD6 hK6 ⊢
      clear hW kcp
      have H1 : Aside0 (DiskAt W0 S g { d with now := d.now.set i (bytesOf s) } vs (.slice (some ⟨gn, 0, none⟩) d.now.length c) vw ∧ Kp S w W0) := Aside0.mk ⟨hD6, hK6⟩
      have HB := Aside0.mk hss.out.1
      have C1 : Aside0 (W0.cell? ⟨g, 1, none⟩ = some (.slice (some ⟨gn, 0, none⟩) d.now.length c)) := Aside0.mk ((blk_cell hD6.2.2.1 1).trans rfl)
      have C2 : Aside0 (W0.cell? ⟨g, 2, none⟩ = some vw) := Aside0.mk ((blk_cell hD6.2.2.1 2).trans rfl)
      have hlen : (d.now.set i (bytesOf s)).length = d.now.length := List.length_set
      have CR : Aside0 (W0.rangeAt gn (i * 64) (nums .u8 (bytesOf s))) := Aside0.mk (by
        have h5 := hD6.2.2.2.2.1
        rw [show ({ d with now := d.now.set i (bytesOf s) } : DS).now.length = d.now.length from hlen] at h5
        exact range_of h5 (fun x hx => (hD6.1.now x hx).1) (by rw [List.getElem?_set_self Hi.out]) HB.out hlen)
      have HS : Aside0 ((Try.prog.info? 122).map (·.size) = some (nums .u8 (bytesOf s)).length) := Aside0.mk (by rw [nums_length, HB.out]; exact size122)
      clear hD6 hK6 hlen c1 hn1
      refine rg4_ 15 18 [0, 1, 2, 3, 4, 5, 6, 7, 8, 9, 10, 11, 12, 13, 14, 15, 16, 17, 18] [0, 16, 17] [(0, 26), (1, 27), (2, 28), (3, 29), (4, 30), (5, 31), (6, 32), (7, 33), (8, 34), (9, 35), (10, 36), (11, 37), (12, 38), (13, 39), (14, 40), (15, 41), (16, 42), (17, 43)] (bitsOf (rtab .any (opsOf Try.f31 7)).2) (wrRel g gn i d.now.length c vw (bytesOf s)) (wrSt g) (WrMid w S g d i (bytesOf s) vs (.slice (some ⟨gn, 0, none⟩) d.now.length c) vw) (fun _ W => ∃ v, DiskAt W (Nw S w) g (d.put i (bytesOf s)) vs (.slice (some ⟨gn, 0, none⟩) d.now.length c) v ∧ Kp S w W) (by kernel_rfl) rfl (by kernel_rfl) rfl (by kernel_rfl) (wrRel_stable _ _ _ _ _ _ _) (wrRel_st _ _ _ _ _ _ _) ?steps ?h1 ?h2 ?rend
      case steps =>
        refine steps4_loose rfl (fun a1 w1 hn hd => ⟨_, rfl, fun K hK => ?_⟩) ?_
        · have e0 := eval_of ((hn 0 rfl).trans rfl)
          refine value_ (v := .pointer (some ⟨g, 0, none⟩)) (w1 := w1) rfl rfl ?_ (hK _ (fun _ => rfl))
          clear hd hn hK
          simp only [execOp, Option.map_some, Option.map_none, List.map_toArray, List.map_cons, List.map_nil, List.getElem_toArray, List.getElem_cons_zero, List.getElem_cons_succ, e0]
          clear e0
          go_simp
        refine steps4_cons rfl (fun a1 w1 hB hsz hdf hn hd => ⟨_, rfl, fun K hK => ?_⟩) ?_
        · have e0 := eval_of ((hn 0 rfl).trans rfl)
          refine value_ (v := .pointer (some ⟨g, 0, none⟩)) (w1 := w1) rfl rfl ?_ (hK _ _ (Below.refl _ _) rfl)
          clear hd hn hK
          simp only [execOp, Option.map_some, Option.map_none, List.map_toArray, List.map_cons, List.map_nil, List.getElem_toArray, List.getElem_cons_zero, List.getElem_cons_succ, e0]
          clear e0
          go_simp
        refine steps4_cons rfl (fun a1 w1 hB hsz hdf hn hd => ⟨_, rfl, fun K hK => ?_⟩) ?_
        · obtain ⟨v27, h27, rfl⟩ := hd 1 27 rfl (by kernel_rfl)
          have e27 := eval_of h27
          clear h27
          refine value_ (v := .pointer (some ⟨g, 0, none⟩)) (w1 := w1) rfl rfl ?_ (hK _ _ (Below.refl _ _) rfl)
          clear hd hn hK
          simp only [execOp, Option.map_some, Option.map_none, List.map_toArray, List.map_cons, List.map_nil, List.getElem_toArray, List.getElem_cons_zero, List.getElem_cons_succ, e27]
          clear e27
          go_simp
        refine steps4_cons rfl (fun a1 w1 hB hsz hdf hn hd => ⟨_, rfl, fun K hK => ?_⟩) ?_
        · obtain ⟨v28, h28, rfl⟩ := hd 2 28 rfl (by kernel_rfl)
          have e28 := eval_of h28
          clear h28
          refine value_ (v := .pointer (some ⟨g, 2, none⟩)) (w1 := w1) rfl rfl ?_ (hK _ _ (Below.refl _ _) rfl)
          clear hd hn hK
          simp only [execOp, Option.map_some, Option.map_none, List.map_toArray, List.map_cons, List.map_nil, List.getElem_toArray, List.getElem_cons_zero, List.getElem_cons_succ, e28]
          clear e28
          go_simp
        refine steps4_cons rfl (fun a1 w1 hB hsz hdf hn hd => ⟨_, rfl, fun K hK => ?_⟩) ?_
        · obtain ⟨v29, h29, rfl⟩ := hd 3 29 rfl (by kernel_rfl)
          have e29 := eval_of h29
          clear h29
          refine value_ (v := vw) (w1 := w1) rfl rfl ?_ (hK _ _ (Below.refl _ _) rfl)
          clear hd hn hK
          simp only [execOp, Option.map_some, Option.map_none, List.map_toArray, List.map_cons, List.map_nil, List.getElem_toArray, List.getElem_cons_zero, List.getElem_cons_succ, e29]
          clear e29
          have hq := pw_cell_below hB C2.out
          clear hB
          go_simp
        refine steps4_cons rfl (fun a1 w1 hB hsz hdf hn hd => ⟨_, rfl, fun K hK => ?_⟩) ?_
        · have e1 := eval_of ((hn 1 rfl).trans rfl)
          refine value_ (v := .int .i64 (i : Int)) (w1 := w1) rfl rfl ?_ (hK _ _ (Below.refl _ _) rfl)
          clear hd hn hK
          simp only [execOp, Option.map_some, Option.map_none, List.map_toArray, List.map_cons, List.map_nil, List.getElem_toArray, List.getElem_cons_zero, List.getElem_cons_succ, e1]
          clear e1
          go_simp
        refine steps4_cons rfl (fun a1 w1 hB hsz hdf hn hd => ⟨_, rfl, fun K hK => ?_⟩) ?_
        · have e0 := eval_of ((hn 0 rfl).trans rfl)
          refine value_ (v := .pointer (some ⟨g, 0, none⟩)) (w1 := w1) rfl rfl ?_ (hK _ _ (Below.refl _ _) rfl)
          clear hd hn hK
          simp only [execOp, Option.map_some, Option.map_none, List.map_toArray, List.map_cons, List.map_nil, List.getElem_toArray, List.getElem_cons_zero, List.getElem_cons_succ, e0]
          clear e0
          go_simp
        refine steps4_cons rfl (fun a1 w1 hB hsz hdf hn hd => ⟨_, rfl, fun K hK => ?_⟩) ?_
        · obtain ⟨v32, h32, rfl⟩ := hd 6 32 rfl (by kernel_rfl)
          have e32 := eval_of h32
          clear h32
          refine value_ (v := .pointer (some ⟨g, 0, none⟩)) (w1 := w1) rfl rfl ?_ (hK _ _ (Below.refl _ _) rfl)
          clear hd hn hK
          simp only [execOp, Option.map_some, Option.map_none, List.map_toArray, List.map_cons, List.map_nil, List.getElem_toArray, List.getElem_cons_zero, List.getElem_cons_succ, e32]
          clear e32
          go_simp
        refine steps4_cons rfl (fun a1 w1 hB hsz hdf hn hd => ⟨_, rfl, fun K hK => ?_⟩) ?_
        · obtain ⟨v33, h33, rfl⟩ := hd 7 33 rfl (by kernel_rfl)
          have e33 := eval_of h33
          clear h33
          refine value_ (v := .pointer (some ⟨g, 1, none⟩)) (w1 := w1) rfl rfl ?_ (hK _ _ (Below.refl _ _) rfl)
          clear hd hn hK
          simp only [execOp, Option.map_some, Option.map_none, List.map_toArray, List.map_cons, List.map_nil, List.getElem_toArray, List.getElem_cons_zero, List.getElem_cons_succ, e33]
          clear e33
          go_simp
        refine steps4_cons rfl (fun a1 w1 hB hsz hdf hn hd => ⟨_, rfl, fun K hK => ?_⟩) ?_
        · obtain ⟨v34, h34, rfl⟩ := hd 8 34 rfl (by kernel_rfl)
          have e34 := eval_of h34
          clear h34
          refine value_ (v := .slice (some ⟨gn, 0, none⟩) d.now.length c) (w1 := w1) rfl rfl ?_ (hK _ _ (Below.refl _ _) rfl)
          clear hd hn hK
          simp only [execOp, Option.map_some, Option.map_none, List.map_toArray, List.map_cons, List.map_nil, List.getElem_toArray, List.getElem_cons_zero, List.getElem_cons_succ, e34]
          clear e34
          have hq := pw_cell_below hB C1.out
          clear hB
          go_simp
        refine steps4_cons rfl (fun a1 w1 hB hsz hdf hn hd => ⟨_, rfl, fun K hK => ?_⟩) ?_
        · have e1 := eval_of ((hn 1 rfl).trans rfl)
          refine value_ (v := .int .i64 (i : Int)) (w1 := w1) rfl rfl ?_ (hK _ _ (Below.refl _ _) rfl)
          clear hd hn hK
          simp only [execOp, Option.map_some, Option.map_none, List.map_toArray, List.map_cons, List.map_nil, List.getElem_toArray, List.getElem_cons_zero, List.getElem_cons_succ, e1]
          clear e1
          go_simp
        refine steps4_cons rfl (fun a1 w1 hB hsz hdf hn hd => ⟨_, rfl, fun K hK => ?_⟩) ?_
        · obtain ⟨v35, h35, rfl⟩ := hd 9 35 rfl (by kernel_rfl)
          have e35 := eval_of h35
          clear h35
          obtain ⟨v36, h36, rfl⟩ := hd 10 36 rfl (by kernel_rfl)
          have e36 := eval_of h36
          clear h36
          refine value_ (v := .pointer (some ⟨gn, i * 64, none⟩)) (w1 := w1) rfl rfl ?_ (hK _ _ (Below.refl _ _) rfl)
          clear hd hn hK
          simp only [execOp, Option.map_some, Option.map_none, List.map_toArray, List.map_cons, List.map_nil, List.getElem_toArray, List.getElem_cons_zero, List.getElem_cons_succ, e35, e36]
          clear e35 e36
          have hlt : i < d.now.length := Hi.out
          have hq0 : decide ((i : Int) < 0) = false := by simp
          have hq1 : decide ((d.now.length : Int) ≤ (i : Int)) = false := by simp; omega
          clear hB
          go_simp
        refine steps4_cons rfl (fun a1 w1 hB hsz hdf hn hd => ⟨_, rfl, fun K hK => ?_⟩) ?_
        · obtain ⟨v37, h37, rfl⟩ := hd 11 37 rfl (by kernel_rfl)
          have e37 := eval_of h37
          clear h37
          refine value_ (v := .agg (nums .u8 (bytesOf s)).toArray) (w1 := w1) rfl rfl ?_ (hK _ _ (Below.refl _ _) rfl)
          clear hd hn hK
          simp only [execOp, Option.map_some, Option.map_none, List.map_toArray, List.map_cons, List.map_nil, List.getElem_toArray, List.getElem_cons_zero, List.getElem_cons_succ, e37]
          clear e37
          have hq := run_loadAt_mid (P := Try.prog) w1 gn (i * 64) 122 (nums .u8 (bytesOf s)) _ (fun j v hv => pw_cell_below hB (CR.out j v hv)) under122 rfl HS.out
          clear hB
          simp only [Sem.run_bind, hq, Result.andThen_ok]
          rfl
        refine steps4_cons rfl (fun a1 w1 hB hsz hdf hn hd => ⟨_, rfl, fun K hK => ?_⟩) ?_
        · obtain ⟨v31, h31, rfl⟩ := hd 5 31 rfl (by kernel_rfl)
          have e31 := eval_of h31
          clear h31
          obtain ⟨v38, h38, rfl⟩ := hd 12 38 rfl (by kernel_rfl)
          have e38 := eval_of h38
          clear h38
          refine value_ (v := .agg (Value.int .i64 (i : Int) :: nums .u8 (bytesOf s)).toArray) (w1 := w1) rfl rfl ?_ (hK _ _ (Below.refl _ _) rfl)
          clear hd hn hK
          simp only [execOp, Option.map_some, Option.map_none, List.map_toArray, List.map_cons, List.map_nil, List.getElem_toArray, List.getElem_cons_zero, List.getElem_cons_succ, e31, e38]
          clear e31 e38
          have hq := run_build (P := Try.prog) w1 124 #[(0, .int .i64 (i : Int)), (1, .agg (nums .u8 (bytesOf s)).toArray)] _ (built124 (i : Int) (bytesOf s) HB.out)
          clear hB
          simp only [Sem.run_bind, hq, Result.andThen_ok]
          rfl
        refine steps4_cons rfl (fun a1 w1 hB hsz hdf hn hd => ⟨_, rfl, fun K hK => ?_⟩) ?_
        · obtain ⟨v39, h39, rfl⟩ := hd 13 39 rfl (by kernel_rfl)
          have e39 := eval_of h39
          clear h39
          refine value_ (v := .slice (some ⟨w1.heap.size, 0, none⟩) 1 1) (w1 := w1.alloc (.cells (Value.int .i64 (i : Int) :: nums .u8 (bytesOf s)).toArray 124)) rfl rfl ?_ (hK _ _ (below_alloc (Below.refl _ _) _) ⟨_, rfl, blk_new _ _⟩)
          clear hd hn hK
          simp only [execOp, Option.map_some, Option.map_none, List.map_toArray, List.map_cons, List.map_nil, List.getElem_toArray, List.getElem_cons_zero, List.getElem_cons_succ, e39]
          clear e39
          have hq := run_slice124 w1 (Value.int .i64 (i : Int) :: nums .u8 (bytesOf s)).toArray (by rw [List.size_toArray, List.length_cons, nums_length, HB.out])
          clear hB
          simp only [Sem.run_bind, hq, Result.andThen_ok]
          rfl
        refine steps4_m1 ?_
        refine steps4_loose rfl (fun a1 w1 hn hd => ⟨_, rfl, fun K hK => ?_⟩) ?_
        · obtain ⟨v26, h26, rfl⟩ := hd 0 26 rfl (by kernel_rfl)
          have e26 := eval_of h26
          clear h26
          refine value_ (v := .pointer (some ⟨g, 0, none⟩)) (w1 := w1) rfl rfl ?_ (hK _ (fun _ => rfl))
          clear hd hn hK
          simp only [execOp, Option.map_some, Option.map_none, List.map_toArray, List.map_cons, List.map_nil, List.getElem_toArray, List.getElem_cons_zero, List.getElem_cons_succ, e26]
          clear e26
          go_simp
        refine steps4_loose rfl (fun a1 w1 hn hd => ⟨_, rfl, fun K hK => ?_⟩) ?_
        · obtain ⟨v42, h42, rfl⟩ := hd 16 42 rfl (by kernel_rfl)
          have e42 := eval_of h42
          clear h42
          refine value_ (v := .pointer (some ⟨g, 2, none⟩)) (w1 := w1) rfl rfl ?_ (hK _ (fun _ => rfl))
          clear hd hn hK
          simp only [execOp, Option.map_some, Option.map_none, List.map_toArray, List.map_cons, List.map_nil, List.getElem_toArray, List.getElem_cons_zero, List.getElem_cons_succ, e42]
          clear e42
          go_simp
        refine steps4_m2 ?_
        exact steps4_nil
      case h1 =>
        intro a1 w1 hB hn hd
        obtain ⟨v30, h30, q30⟩ := hd 4 30 rfl (by kernel_rfl)
        obtain ⟨v40, h40, gl, rfl, hgl⟩ := hd 14 40 rfl (by kernel_rfl)
        have e30 : v30 = vw := q30
        subst e30
        have e1 := eval_of h30
        have e2 := eval_of h40
        refine ⟨_, rfl, fun K hK => ?_⟩
        refine append124_ rfl rfl rfl e1 e2 (own_later H1.out.1.2.2.2.2.2.1 hB) hgl (by rw [List.length_cons, nums_length, HB.out]) (by intro u hu; rcases List.mem_cons.1 hu with rfl | hu; exact rfl; exact nums_one _ u hu) HN.out (fun v' w' hown hg => ?_)
        exact hK _ _ (wr_post1 H1.out.1 H1.out.2 hB hown hg)
      case h2 =>
        intro a1 w1 hn hd hp
        obtain ⟨v43, h43, q43⟩ := hd 17 43 rfl (by kernel_rfl)
        have e43 : v43 = .pointer (some ⟨g, 2, none⟩) := q43
        subst e43
        obtain ⟨v', hp1, ht⟩ := hp
        have e1 := eval_of h43
        have e2 := eval_of (ht 41 rfl)
        refine ⟨_, rfl, fun K hK => ?_⟩
        obtain ⟨A', c', rfl⟩ := hp1.2.2.2.1.slice
        exact store_ rfl rfl rfl e1 e2 ((blk_cell hp1.1 2).trans rfl) (blk_frozen hp1.1 2) Try.underlying113 size113 (hK undef _ ⟨_, hp1.store H.out.1 Hi.out hss.out H.out.2.1 H.out.2.2.2.2.2.2⟩)
      case rend =>
        intro vals w1 hp _
        simp only [fill, Act.put, List.setIfInBounds_toArray, List.set_cons_zero, List.set_cons_succ]
        obtain ⟨v9, hD9, hK9⟩ := hp
        have HD9 := Aside0.mk hD9
        have HK9 := Aside0.mk hK9
        clear hD9 hK9
        have hf9 : (d.put i (bytesOf s)).falls ≤ 1000000 := HF.out
        have HF9 := Aside0.mk hf9
        clear hf9
        go_wp2_with (go_at_call 86; (with_reducible refine (fails_calls _ _ g _ _ _ _ HD9.out HF9.out).mono ?_); rintro e w2 ⟨rfl, hd2, hk2⟩; have HD2 := Aside0.mk hd2; have HK2 := Aside0.mk hk2; clear hd2 hk2)
        · have b9 := ‹(d.put i (bytesOf s)).fails.1 = true›
          go_ret
          exact ⟨_, _, _, by rw [hE.out, if_pos b9]; rfl, by rw [hE.out]; exact HD2.out, HK9.out.trans HK2.out⟩
        · have b9 := ‹(d.put i (bytesOf s)).fails.1 = false›
          go_ret
          exact ⟨_, _, _, by rw [hE.out, if_neg (by rw [b9]; simp)]; rfl, by rw [hE.out]; exact HD2.out, HK9.out.trans HK2.out⟩
    · have hE := Aside0.mk (show d.write (i : Int) s = (1, d) by unfold DS.write; rw [if_neg (by simp [hc]), if_pos hs])
      have HC := Aside0.mk hc
      have HM := Aside0.mk (h0.mono (S' := Nw S w) fun k hk => .inl hk)
      have bs : ((s.size : Int) == 64) = false := by rw [beq_eq_false_iff_ne]; omega
      clear h0 hc hdn hi0 hi1 hl hf hs
      go_enter Try.func31, Try.ntmps31
      go_wp2_with (go_at_call 85; (with_reducible refine (check_calls _ S g d vs _ vw (i : Int) H.out).mono ?_); rintro e w' ⟨rfl, ⟨nd, rfl⟩⟩; simp only [HC.out])
      go_ret
      exact ⟨_, _, _, by rw [hE.out]; rfl, by rw [hE.out]; exact HM.out.below' (pw_below_drewN (Below.refl _ _) nd), Kp.of_below S (pw_below_drewN (Below.refl _ _) nd)⟩
  · have hE := Aside0.mk (show d.write i s = (d.check i, d) by unfold DS.write; rw [if_pos hc])
    have HM := Aside0.mk (h0.mono (S' := Nw S w) fun k hk => .inl hk)
    have bc : (d.check i == 0) = false := by rw [beq_eq_false_iff_ne]; exact hc
    clear h0 hc hl hf
    go_enter Try.func31, Try.ntmps31
    go_wp2_with (go_at_call 85; (with_reducible refine (check_calls _ S g d vs _ vw i H.out).mono ?_); rintro e w' ⟨rfl, ⟨nd, rfl⟩⟩)
    go_ret
    exact ⟨_, _, _, by rw [hE.out]; rfl, by rw [hE.out]; exact HM.out.below' (pw_below_drewN (Below.refl _ _) nd), Kp.of_below S (pw_below_drewN (Below.refl _ _) nd)⟩
end Go.Proofs.Ytkedodmlbepfnaa.Lg

-- from the working text Sy
set_option linter.unusedSimpArgs false
set_option linter.unusedVariables false
namespace Go.Proofs.Ytkedodmlbepfnaa.Lg
open Go.RowKit Go.Proofs.YtkedodmlbepfnaaW.PrintWords Go.Proofs.YtkedodmlbepfnaaW.PrintLast Go.Proofs.YtkedodmlbepfnaaW.PrintMore Go.Proofs.Ytkedodmlbepfnaa.Rg
set_option maxHeartbeats 4000000 in
set_option maxRecDepth 100000 in
theorem clone_calls (w : World) (S : Nat → Prop) (v : Value) (n : Nat) (xs : List Value) (h0 : Own w S 122 64 v n xs) (hn : 0 < n) (hn2 : n ≤ 4096) (h1 : ∀ u ∈ xs, u.oneCell' = true) :
    Calls Try.prog 88 #[v] w fun e w' => ∃ v', e = .returned v' ∧ Own w' (fun k => w.heap.size ≤ k) 122 64 v' n xs ∧ Below w.heap.size w w' := by
  obtain ⟨i0, hi, hz0, hz1, hz2⟩ := info_parts info122
  obtain ⟨g, c, cur, rfl, hSg, hg, hnc, hcm, hcs, hct⟩ := h0.form hn
  have hl : xs.length = n * 64 := h0.1.1
  have A : Aside0 (∀ j u, xs[j]? = some u → w.cell? ⟨g, 0 + j, none⟩ = some u) := Aside0.mk fun j u hj => by
    have hj2 : j < xs.length := (List.getElem?_eq_some_iff.1 hj).1
    rw [Nat.zero_add, blk_cell hg, ← hj, ← hct, List.getElem?_take, if_pos (by omega), Array.getElem?_toList]
  have HI := Aside0.mk hi
  have HZ := Aside0.mk hz0
  have H1 := Aside0.mk h1
  clear h0 hg hcs hct hcm hi hz0 h1
  have q112 : ∀ (w : World) (a : Option Addr) (n c n' c' : Nat), (binOp .eql 112 (.slice a n c) (.slice none n' c')).run Try.prog w = .ok (.bool a.isNone) w := fun w a n c n' c' => Lib.run_eql_slice_nil w _ _ a n c n' c' Try.underlying112
  have u112 : ∀ w, Sem.run Try.prog (underlying 112) w = .ok (TypeDesc.slice 122) w := run_underlying Try.underlying112
  go_enter Try.func88, Try.ntmps88
  go_wp2_with (at_builtin; go_loud (refine wpList_append_own _ rfl _ _ 112 rfl w.heap.size 122 i0 (.agg zero64) 64 64 Try.underlying112 HI.out HZ.out hz1 hz2 (by simp [zero64, Value.cells]) (by omega) _ _ _ rfl (World.ownsRow_made w #[] 0 (Nat.le_refl _) (Nat.zero_le _) (by simp)) ⟨g, 0, none⟩ n c xs rfl ?qc1 ?qc2 ?qc3 ?qc4 ?qc5 ?qc6 ?_))
  case qc1 => exact hl
  case qc2 =>
    intro j u hj
    rw [Addr.add_lit]
    exact Lib.cell?_alloc_some _ (A.out j u hj)
  case qc3 => exact H1.out
  case qc4 => rw [Nat.zero_add]; simp only [maxLen]; omega
  case qc5 => rw [Nat.zero_add]; omega
  case qc6 => simp
  intro v' w1 hown hgrow hnil
  go_wp2
  go_ret
  refine ⟨v', rfl, ⟨by simpa using hown.mono (Nat.zero_le _), fun k hk => own_base hown k hk⟩, ?_⟩
  exact ((Below.refl _ w).alloc (Nat.le_refl _) _).grown hgrow (by simp) (by intro k hk; simp [Value.ownBlock] at hk; omega)
/-- What Sync does. -/
def DS.sync (d : DS) : Int × DS := if d.down = true then (91, d) else if d.fails.1 = true then (91, d.fails.2) else (0, { d.fails.2 with safe := d.fails.2.now, wr := [] })
theorem DS.Ok.fails {d : DS} (h : d.Ok) : d.fails.2.Ok := by
  unfold DS.fails
  split
  · exact h
  · split
    · exact h.arm (by omega) (by have := h.armed1; omega)
    · have h' := (h.arm (n := 0) (by omega) (by omega)).off
      exact ⟨h'.len, h'.pos, h'.lim, h'.safe, h'.now, h'.wr, h'.armed0, h'.armed1, h'.falls0⟩
theorem flat_one (ss : List (List Int)) : ∀ u ∈ flat ss, u.oneCell' = true := nums_one _
theorem DiskAt.synced {w0 w2 w3 : World} {S : Nat → Prop} {g : Nat} {d : DS} {vs vn vw v' : Value} (h : DiskAt w2 S g d vs vn vw) (hB : Below w2.heap.size w2 w3) (ho : Own w3 (fun k => w2.heap.size ≤ k) 122 64 v' d.now.length (flat d.now)) (hw : w0.heap.size ≤ w2.heap.size) :
    DiskAt ((w3.setCell ⟨g, 0, none⟩ v').setCell ⟨g, 2, none⟩ (.slice none 0 0)) (Nw S w0) g { d with safe := d.now, wr := [] } v' vn (.slice none 0 0) := by
  obtain ⟨h1, h2, h3, h4, h5, h6, h7⟩ := h.below hB
  have hne : vn.ownBlock ≠ v'.ownBlock ∨ v'.ownBlock = none := by
    cases hv : v'.ownBlock with
    | none => exact .inr rfl
    | some k =>
      refine .inl fun hk => ?_
      have hk2 := ho.2 k hv
      obtain ⟨gn, cn, cur, rfl, _, hg, _⟩ := h.2.2.2.2.1.form (by have := h.1.pos; omega)
      have hlt := blk_lt hg
      simp only [Value.ownBlock, Option.some.injEq] at hk
      omega
  have h4' : (w3.setCell ⟨g, 0, none⟩ v').heap[g]? = some (.cells #[v', vn, vw, .int .i64 d.armed, .bool d.down, .int .i64 d.falls] 115 (0, 0)) := by rw [blk_set h3]; rfl
  refine ⟨⟨rfl, h1.pos, h1.lim, h1.now, h1.now, fun x hx => (by cases hx), h1.armed0, h1.armed1, h1.falls0⟩, .inl h2, by rw [blk_set h4']; rfl, ?_, ?_, Own.nil _ _ _ _, ?_⟩
  · exact ((ho.setCell (ho.type_ne h3 (by decide)) _).setCell (ho.type_ne h3 (by decide)) _).mono fun k hk => .inr (Nat.le_trans hw hk)
  · exact ((h5.setCell (h5.type_ne h3 (by decide)) _).setCell (h5.type_ne h3 (by decide)) _).mono fun k hk => .inl hk
  · rcases hne with hne | hne
    · exact .inr fun e => hne e.symm
    · exact .inl hne
set_option maxHeartbeats 4000000 in
set_option maxRecDepth 100000 in
theorem sync_calls (w : World) (S : Nat → Prop) (g : Nat) (d : DS) (vs vn vw : Value) (h0 : DiskAt w S g d vs vn vw) (hf : d.falls ≤ 1000000) :
    Calls Try.prog 34 #[.pointer (some ⟨g, 0, none⟩)] w fun e w' => ∃ vs' vn' vw', e = .returned (.int .i64 d.sync.1) ∧ DiskAt w' (Nw S w) g d.sync.2 vs' vn' vw' ∧ Kp S w w' := by
  have H := Aside0.mk h0
  have hb := h0.2.2.1
  have c4 : w.cell? ⟨g, 4, none⟩ = some (.bool d.down) := (blk_cell hb 4).trans rfl
  have HF := Aside0.mk hf
  cases hd : d.down with
  | true =>
    have hE := Aside0.mk (show d.sync = (91, d) by unfold DS.sync; rw [if_pos hd])
    have HM := Aside0.mk (h0.mono (S' := Nw S w) fun k hk => .inl hk)
    rw [hd] at c4
    clear hd h0 hb hf
    go_enter Try.func34, Try.ntmps34
    go_wp2
    go_ret
    exact ⟨_, _, _, by rw [hE.out]; rfl, by rw [hE.out]; exact HM.out, Kp.refl S w⟩
  | false =>
    rw [hd] at c4
    cases hx : d.fails.1 with
    | true =>
      have hE := Aside0.mk (show d.sync = (91, d.fails.2) by unfold DS.sync; rw [if_neg (by simp [hd]), if_pos hx])
      have HX := Aside0.mk hx
      clear hd h0 hb hf hx
      go_enter Try.func34, Try.ntmps34
      go_wp2_with (go_at_call 86; (with_reducible refine (fails_calls _ _ g _ _ _ _ H.out HF.out).mono ?_); rintro e w2 ⟨rfl, hd2, hk2⟩; simp only [HX.out]; have HD2 := Aside0.mk hd2; have HK2 := Aside0.mk hk2; clear hd2 hk2)
      go_ret
      exact ⟨_, _, _, by rw [hE.out]; rfl, by rw [hE.out]; exact HD2.out.mono fun k hk => .inl hk, HK2.out⟩
    | false =>
      have hE := Aside0.mk (show d.sync = (0, { d.fails.2 with safe := d.fails.2.now, wr := [] }) by unfold DS.sync; rw [if_neg (by simp [hd]), if_neg (by simp [hx])])
      have HX := Aside0.mk hx
      clear hd h0 hb hf hx
      go_enter Try.func34, Try.ntmps34
      go_wp2_with (first
        | (go_at_call 86; (with_reducible refine (fails_calls _ _ g _ _ _ _ H.out HF.out).mono ?_); rintro e w2 ⟨rfl, hd2, hk2⟩; simp only [HX.out]; have HD2 := Aside0.mk hd2; have HK2 := Aside0.mk hk2; have d1 : w2.cell? ⟨g, 1, none⟩ = some vn := (blk_cell hd2.2.2.1 1).trans rfl; have d0 : w2.cell? ⟨g, 0, none⟩ = some vs := (blk_cell hd2.2.2.1 0).trans rfl; have d2 : w2.cell? ⟨g, 2, none⟩ = some vw := (blk_cell hd2.2.2.1 2).trans rfl; have f0 := blk_frozen hd2.2.2.1 0; have f2 := blk_frozen hd2.2.2.1 2; clear hd2 hk2))
      have HOw := Aside0.mk HD2.out.2.2.2.2.1
      have HOp : 0 < d.fails.2.now.length := HD2.out.1.pos
      have HOl := HD2.out.1.lim
      (with_reducible refine (clone_calls _ S _ _ _ HOw.out HOp HOl (flat_one _)).mono ?_)
      rintro e w3 ⟨v', rfl, ho, hb3⟩
      obtain ⟨A', c', rfl⟩ := ho.slice
      have e0 := pw_cell_below hb3 d0
      have e2 := pw_cell_below hb3 d2
      have b3 := (hb3.block g (blk_lt HD2.out.2.2.1)).trans HD2.out.2.2.1
      have f0' := blk_frozen b3 0
      have f2' := blk_frozen b3 2
      clear b3
      have HS3 := Aside0.mk (HD2.out.synced hb3 ho HK2.out.size)
      have HB3 := Aside0.mk hb3
      clear hb3 ho
      go_wp2
      go_ret
      exact ⟨_, _, _, by rw [hE.out]; rfl, by rw [hE.out]; exact HS3.out, ((HK2.out.below HB3.out).setCell (.inl H.out.2.1) _).setCell (.inl H.out.2.1) _⟩
end Go.Proofs.Ytkedodmlbepfnaa.Lg

-- from the working text So
set_option linter.unusedSimpArgs false
set_option linter.unusedVariables false
namespace Go.Proofs.Ytkedodmlbepfnaa.Lg
open Go.RowKit Go.Proofs.YtkedodmlbepfnaaW.PrintWords Go.Proofs.YtkedodmlbepfnaaW.PrintLast Go.Proofs.YtkedodmlbepfnaaW.PrintMore Go.Proofs.Ytkedodmlbepfnaa.Rg
set_option maxHeartbeats 4000000 in
set_option maxRecDepth 100000 in
theorem sectorOf_calls (s : ByteArray) (b : Int) (w : World) (hs : s.size ≤ 64) :
    Calls Try.prog 109 #[.string s, .int .u8 b] w fun e w' => e = .returned (.string (strOfNums (bytesOf s ++ ((List.replicate 64 0).set 63 b).drop s.size))) ∧ Below w.heap.size w w' := by
  have HS := Aside0.mk hs
  clear hs
  go_enter Try.func109, Try.ntmps109
  go_wp2
  have hrow : ∀ c : Array Value, c = (nums .u8 ((List.replicate 64 0).set 63 b)).toArray → (Builtin.copy_ #[88, 9] 3 #[.slice (some ⟨w.heap.size, 0, none⟩) 64 64, .string s]).run Try.prog (w.alloc (.cells c 122)) =
      .ok (goInt s.size) ((w.alloc (.cells c 122)).setRow w.heap.size (nums .u8 (bytesOf s ++ ((List.replicate 64 0).set 63 b).drop s.size)).toArray) := by
    rintro c rfl
    have hl : (nums .u8 ((List.replicate 64 0).set 63 b)).length = 64 := by rw [nums_length]; simp
    rw [run_copy_str (w.alloc _) 88 9 3 5 w.heap.size 0 64 64 _ 122 s Try.underlying88 (by kernel_rfl) (blk_new w _) HS.out (by rw [List.size_toArray, hl, Nat.zero_add]; exact HS.out)]
    congr 4
    unfold patch
    rw [List.take_zero, List.nil_append, nums_append, Nat.zero_add, nums_length, bytesOf_length]
    unfold nums
    rw [List.map_drop]
  have hrow2 := hrow #[.int .u8 0, .int .u8 0, .int .u8 0, .int .u8 0, .int .u8 0, .int .u8 0, .int .u8 0, .int .u8 0, .int .u8 0, .int .u8 0, .int .u8 0, .int .u8 0, .int .u8 0, .int .u8 0, .int .u8 0, .int .u8 0, .int .u8 0, .int .u8 0, .int .u8 0, .int .u8 0, .int .u8 0, .int .u8 0, .int .u8 0, .int .u8 0, .int .u8 0, .int .u8 0, .int .u8 0, .int .u8 0, .int .u8 0, .int .u8 0, .int .u8 0, .int .u8 0, .int .u8 0, .int .u8 0, .int .u8 0, .int .u8 0, .int .u8 0, .int .u8 0, .int .u8 0, .int .u8 0, .int .u8 0, .int .u8 0, .int .u8 0, .int .u8 0, .int .u8 0, .int .u8 0, .int .u8 0, .int .u8 0, .int .u8 0, .int .u8 0, .int .u8 0, .int .u8 0, .int .u8 0, .int .u8 0, .int .u8 0, .int .u8 0, .int .u8 0, .int .u8 0, .int .u8 0, .int .u8 0, .int .u8 0, .int .u8 0, .int .u8 0, .int .u8 b] rfl
  have heq : (#[.int .u8 0, .int .u8 0, .int .u8 0, .int .u8 0, .int .u8 0, .int .u8 0, .int .u8 0, .int .u8 0, .int .u8 0, .int .u8 0, .int .u8 0, .int .u8 0, .int .u8 0, .int .u8 0, .int .u8 0, .int .u8 0, .int .u8 0, .int .u8 0, .int .u8 0, .int .u8 0, .int .u8 0, .int .u8 0, .int .u8 0, .int .u8 0, .int .u8 0, .int .u8 0, .int .u8 0, .int .u8 0, .int .u8 0, .int .u8 0, .int .u8 0, .int .u8 0, .int .u8 0, .int .u8 0, .int .u8 0, .int .u8 0, .int .u8 0, .int .u8 0, .int .u8 0, .int .u8 0, .int .u8 0, .int .u8 0, .int .u8 0, .int .u8 0, .int .u8 0, .int .u8 0, .int .u8 0, .int .u8 0, .int .u8 0, .int .u8 0, .int .u8 0, .int .u8 0, .int .u8 0, .int .u8 0, .int .u8 0, .int .u8 0, .int .u8 0, .int .u8 0, .int .u8 0, .int .u8 0, .int .u8 0, .int .u8 0, .int .u8 0, .int .u8 b] : Array Value) = (nums .u8 ((List.replicate 64 0).set 63 b)).toArray := rfl
  rw [hrow2, heq]
  clear hrow2 heq
  have hB : Below w.heap.size w ((w.alloc (.cells (nums .u8 ((List.replicate 64 0).set 63 b)).toArray 122)).setRow w.heap.size (nums .u8 (bytesOf s ++ ((List.replicate 64 0).set 63 b).drop s.size)).toArray) := ((Kp.of_below (fun _ => False) (below_alloc (Below.refl _ _) _)).setRow (.inr (Nat.le_refl _)) _).to_below (fun _ h => h.elim) (Nat.le_refl _)
  have hC : ((w.alloc (.cells (nums .u8 ((List.replicate 64 0).set 63 b)).toArray 122)).setRow w.heap.size (nums .u8 (bytesOf s ++ ((List.replicate 64 0).set 63 b).drop s.size)).toArray).heap[w.heap.size]? = some (.cells (nums .u8 (bytesOf s ++ ((List.replicate 64 0).set 63 b).drop s.size)).toArray 122 (0, 0)) := setRow_heap _ _ _ _ _ _ (blk_new w _)
  generalize hW : (w.alloc (.cells (nums .u8 ((List.replicate 64 0).set 63 b)).toArray 122)).setRow w.heap.size (nums .u8 (bytesOf s ++ ((List.replicate 64 0).set 63 b).drop s.size)).toArray = W2 at hB hC ⊢
  have hlen : (bytesOf s ++ ((List.replicate 64 0).set 63 b).drop s.size).length = 64 := by
    have := HS.out
    rw [List.length_append, bytesOf_length, List.length_drop, List.length_set, List.length_replicate]; omega
  generalize hLe : bytesOf s ++ ((List.replicate 64 0).set 63 b).drop s.size = L at hC hlen ⊢
  have kcv := run_convert_bytes_arg (P := Try.prog) W2 88 5 Try.underlying88 Try.underlying5 w.heap.size 0 64 64 L hlen (fun i hi => by
    rw [Nat.zero_add, blk_cell hC, List.getElem?_toArray]
    simp [nums, List.getD, List.getElem?_eq_getElem (show i < L.length by omega)]) 9 Try.underlying9
  have HB := Aside0.mk hB
  clear hrow hC hW hB
  go_wp2
  go_ret
  exact ⟨by rw [hLe]; rfl, HB.out⟩
end Go.Proofs.Ytkedodmlbepfnaa.Lg

-- from the working text Gd
set_option linter.unusedSimpArgs false
set_option linter.unusedVariables false
namespace Go.Proofs.Ytkedodmlbepfnaa.Lg
open Go.RowKit Go.Proofs.YtkedodmlbepfnaaW.PrintWords Go.Proofs.YtkedodmlbepfnaaW.PrintLast Go.Proofs.YtkedodmlbepfnaaW.PrintMore Go.Proofs.Ytkedodmlbepfnaa.Rg
/-- A disk in memory that is up, and will not fail. -/
def GD (w : World) (S : Nat → Prop) (g : Nat) (n : Nat) (f : Int) (k : Nat) : Prop := ∃ d vs vn vw, DiskAt w S g d vs vn vw ∧ d.now.length = n ∧ d.down = false ∧ d.armed = 0 ∧ d.falls = f ∧ d.wr.length ≤ k
section
variable {S S' : Nat → Prop} {w w0 w1 W W' : World} {g n k : Nat} {f : Int}
theorem GD.mono (h : GD w S g n f k) (hs : ∀ k, S k → S' k) : GD w S' g n f k := by
  obtain ⟨d, vs, vn, vw, h1, h2⟩ := h
  exact ⟨d, vs, vn, vw, h1.mono hs, h2⟩
theorem GD.more {k' : Nat} (h : GD w S g n f k) (hk : k ≤ k') : GD w S g n f k' := by
  obtain ⟨d, vs, vn, vw, h1, h2, h3, h4, h5, h6⟩ := h
  exact ⟨d, vs, vn, vw, h1, h2, h3, h4, h5, Nat.le_trans h6 hk⟩
theorem GD.below (h : GD w S g n f k) (hb : Below w.heap.size w w1) : GD w1 S g n f k := by
  obtain ⟨d, vs, vn, vw, h1, h2⟩ := h
  exact ⟨d, vs, vn, vw, h1.below hb, h2⟩
theorem GD.kp (h : GD w S g n f k) (hk : Kp S' w w1) (hd : ∀ k, S k → k < w.heap.size → ¬ S' k) : GD w1 S g n f k := by
  obtain ⟨d, vs, vn, vw, h1, h2⟩ := h
  exact ⟨d, vs, vn, vw, h1.kp hk hd, h2⟩
theorem Own.trim {e : TypeId} {size n : Nat} {v : Value} {xs : List Value} (h : Own w S e size v n xs) : Own w (fun k => S k ∧ k < w.heap.size) e size v n xs := by
  refine ⟨h.1, fun k hk => ⟨h.2 k hk, ?_⟩⟩
  obtain ⟨c, hc⟩ := own_typed h.1 k hk
  exact blk_lt hc
theorem GD.trim (h : GD w S g n f k) : GD w (fun k => S k ∧ k < w.heap.size) g n f k := by
  obtain ⟨d, vs, vn, vw, ⟨h1, h2, h3, h4, h5, h6, h7⟩, hr⟩ := h
  exact ⟨d, vs, vn, vw, ⟨h1, ⟨h2, blk_lt h3⟩, h3, h4.trim, h5.trim, h6.trim, h7⟩, hr⟩
/-- In a function's walk: the disk is well, and nothing but S has changed since w0. -/
def GK (w0 : World) (S : Nat → Prop) (g n : Nat) (f : Int) (k : Nat) (W : World) : Prop := GD W (Nw S w0) g n f k ∧ Kp S w0 W
theorem GK.start (h : GD w S g n f k) : GK w S g n f k w := ⟨h.mono fun _ hk => .inl hk, Kp.refl _ _⟩
theorem GK.below (h : GK w0 S g n f k W) (hb : Below W.heap.size W W') : GK w0 S g n f k W' := ⟨h.1.below hb, h.2.below hb⟩
theorem Nw.idem (hw : w0.heap.size ≤ W.heap.size) : ∀ k, Nw (Nw S w0) W k → Nw S w0 k := fun k hk => hk.elim id fun h => .inr (Nat.le_trans hw h)
/-- What was done in a callee. -/
theorem GK.step {k' : Nat} (h : GK w0 S g n f k W) (hg : GD W' (Nw (Nw S w0) W) g n f k') (hk : Kp (Nw S w0) W W') : GK w0 S g n f k' W' :=
  ⟨hg.mono (Nw.idem h.2.size), h.2.trans hk⟩
/-- At a function's end: its own new blocks came first. -/
theorem GK.fin (h : GK w1 (fun k => S k ∧ k < w.heap.size) g n f k W) (hb : Below w.heap.size w w1) : GD W (Nw S w) g n f k ∧ Kp S w W :=
  ⟨h.1.mono fun i hi => hi.elim (fun h => .inl h.1) (fun h => .inr (Nat.le_trans hb.size h)), (Kp.of_below S hb).trans (h.2.mono fun i hi => .inl hi.1)⟩
theorem GD.begin (h : GD w S g n f k) (hb : Below w.heap.size w w1) : GK w1 (fun k => S k ∧ k < w.heap.size) g n f k w1 := GK.start (h.trim.below hb)
end
theorem gwrite_calls {w0 W : World} {S : Nat → Prop} {g n k : Nat} {f : Int} (i : Nat) (s : ByteArray) (h : GK w0 S g n f k W) (hi : i < n) (hs : s.size = 64) (hf : f ≤ 1000000) (hk : k ≤ 1000) :
    Calls Try.prog 31 #[.pointer (some ⟨g, 0, none⟩), .int .i64 (i : Int), .string s] W fun e W' => e = .returned (.int .i64 0) ∧ GK w0 S g n f (k + 1) W' := by
  obtain ⟨d, vs, vn, vw, h1, h2, h3, h4, h5, h6⟩ := h.1
  refine (write_calls W (Nw S w0) g d vs vn vw (i : Int) s h1 (by omega) (by omega)).mono ?_
  rintro e W' ⟨vs', vn', vw', rfl, hd, hk'⟩
  have hc : d.check (i : Int) = 0 := by
    unfold DS.check
    rw [if_neg (by simp [h3]), if_neg (by omega)]
  have hw : d.write (i : Int) s = (0, d.put i (bytesOf s)) := by
    unfold DS.write
    rw [if_neg (by simp [hc]), if_neg (by simp [hs]), Int.toNat_natCast]
    have : (d.put i (bytesOf s)).fails = (false, d.put i (bytesOf s)) := by
      unfold DS.fails
      rw [if_pos (show (d.put i (bytesOf s)).armed = 0 from h4)]
    rw [this]; rfl
  rw [hw] at hd ⊢
  refine ⟨rfl, h.step ⟨_, vs', vn', vw', hd, ?_, h3, h4, h5, ?_⟩ hk'⟩
  · show (d.now.set i (bytesOf s)).length = n
    rw [List.length_set, h2]
  · show (d.wr ++ [((i : Int), bytesOf s)]).length ≤ k + 1
    rw [List.length_append, List.length_singleton]; omega
theorem gsync_calls {w0 W : World} {S : Nat → Prop} {g n k : Nat} {f : Int} (h : GK w0 S g n f k W) (hf : f ≤ 1000000) :
    Calls Try.prog 34 #[.pointer (some ⟨g, 0, none⟩)] W fun e W' => e = .returned (.int .i64 0) ∧ GK w0 S g n f 0 W' := by
  obtain ⟨d, vs, vn, vw, h1, h2, h3, h4, h5, h6⟩ := h.1
  refine (sync_calls W (Nw S w0) g d vs vn vw h1 (by omega)).mono ?_
  rintro e W' ⟨vs', vn', vw', rfl, hd, hk'⟩
  have hff : d.fails = (false, d) := by unfold DS.fails; rw [if_pos h4]
  have hw : d.sync = (0, { d with safe := d.now, wr := [] }) := by
    unfold DS.sync
    rw [if_neg (by simp [h3]), hff, if_neg (by simp)]
  rw [hw] at hd ⊢
  exact ⟨rfl, h.step ⟨_, vs', vn', vw', hd, h2, h3, h4, h5, Nat.zero_le _⟩ hk'⟩
theorem gsectors_calls {w0 W : World} {S : Nat → Prop} {g n k : Nat} {f : Int} (h : GK w0 S g n f k W) :
    Calls Try.prog 44 #[.pointer (some ⟨g, 0, none⟩)] W fun e W' => e = .returned (.int .i64 (n : Int)) ∧ GK w0 S g n f k W' ∧ Below W.heap.size W W' := by
  obtain ⟨d, vs, vn, vw, h1, h2, _⟩ := h.1
  refine (sectors_calls W (Nw S w0) g d vs vn vw h1).mono ?_
  rintro e W' ⟨rfl, ⟨nd, rfl⟩⟩
  have hb := pw_below_drewN (Below.refl W.heap.size W) nd
  exact ⟨by rw [h2], h.below hb, hb⟩
theorem gup_calls {w0 W : World} {S : Nat → Prop} {g n k : Nat} {f : Int} (h : GK w0 S g n f k W) :
    Calls Try.prog 42 #[.pointer (some ⟨g, 0, none⟩)] W fun e W' => e = .returned (.bool true) ∧ GK w0 S g n f k W' ∧ Below W.heap.size W W' := by
  obtain ⟨d, vs, vn, vw, h1, h2, h3, _⟩ := h.1
  refine (up_calls W (Nw S w0) g d vs vn vw h1).mono ?_
  rintro e W' ⟨rfl, ⟨nd, rfl⟩⟩
  have hb := pw_below_drewN (Below.refl W.heap.size W) nd
  exact ⟨by rw [h3]; rfl, h.below hb, hb⟩
set_option maxRecDepth 100000 in
theorem must_calls (w : World) : Calls Try.prog 110 #[.int .i64 0] w fun e w' => e = .returned (.tuple #[]) ∧ w' = w := by
  go_enter Try.func110, Try.ntmps110
  go_wp2
  go_end0
  exact ⟨rfl, rfl⟩
set_option maxRecDepth 100000 in
theorem make1_idle (p q : Addr) (w : World) (h : w.cell? p = some (.int .i64 0)) :
    CallsD Try.prog 107 #[.pointer (some p), .pointer (some q)] .returning w fun e u' w' => u' = .returning ∧ (e = .returned (.tuple #[]) ∧ w' = w) := by
  go_enter_d Try.func107, Try.ntmps107
  go_wp2
  go_end0
  exact ⟨rfl, rfl⟩
set_option maxRecDepth 100000 in
theorem caught_idle (p : Addr) (w : World) :
    CallsD Try.prog 108 #[.pointer (some p)] .returning w fun e u' w' => e = .returned (.tuple #[]) ∧ u' = .returning ∧ w' = w := by
  refine callsD_of_wpS Try.func108 rfl fun c₀ cs hu => ?_
  apply wpS_seq
  apply wpS_region
  simp [wpOpsS, go_sem, recoverD, hu, Try.ntmps108, Exit.thenS]
  refine wpS_of_wp ?_
  go_wp2
  cases c₀
  simp_all [bodyPostS, results, Try.results108]
end Go.Proofs.Ytkedodmlbepfnaa.Lg

-- from the working text Mk
set_option linter.unusedSimpArgs false
set_option linter.unusedVariables false
namespace Go.Proofs.Ytkedodmlbepfnaa.Lg
open Go.RowKit Go.Proofs.YtkedodmlbepfnaaW.PrintWords Go.Proofs.YtkedodmlbepfnaaW.PrintLast Go.Proofs.YtkedodmlbepfnaaW.PrintMore Go.Proofs.Ytkedodmlbepfnaa.Rg
theorem GK.keeps {w0 W : World} {S : Nat → Prop} {g n k b : Nat} {f : Int} {o : Obj} (h : GK w0 S g n f k W) (hb : w0.heap[b]? = some o) (hS : ¬ S b) : W.heap[b]? = some o :=
  (h.2.block b (by rcases Nat.lt_or_ge b w0.heap.size with h | h; exact h; rw [Array.getElem?_eq_none h] at hb; cases hb) hS).trans hb
theorem GD.fallsC {W : World} {S : Nat → Prop} {g n k : Nat} {f : Int} (h : GD W S g n f k) : W.cell? ⟨g, 5, none⟩ = some (.int .i64 f) := by
  obtain ⟨d, vs, vn, vw, h1, _, _, _, h5, _⟩ := h
  rw [blk_cell h1.2.2.1 5, ← h5]; rfl
/-- The content of a book for two offices, the second of which has no entries. -/
def bookCells (e0 : Value) (used : Int) (gd : Nat) (falls : Int) : Array Value := #[.int .i64 2, e0, .slice none 0 0, .slice none 0 0, .slice none 0 0, .slice none 0 0, .slice none 0 0, .slice none 0 0, .slice none 0 0, .int .i64 used, .pointer (some ⟨gd, 0, none⟩), .int .i64 falls]
theorem gwriteI_calls {w0 W : World} {S : Nat → Prop} {g n k : Nat} {f : Int} (i : Int) (s : ByteArray) (h : GK w0 S g n f k W) (h0 : 0 ≤ i) (hi : i < n) (hs : s.size = 64) (hf : f ≤ 1000000) (hk : k ≤ 1000) :
    Calls Try.prog 31 #[.pointer (some ⟨g, 0, none⟩), .int .i64 i, .string s] W fun e W' => e = .returned (.int .i64 0) ∧ GK w0 S g n f (k + 1) W' := by
  obtain ⟨i, rfl⟩ := Int.eq_ofNat_of_zero_le h0
  exact gwrite_calls i s h (by omega) hs hf hk
def secA (s : ByteArray) (b : Int) : ByteArray := strOfNums (bytesOf s ++ ((List.replicate 64 0).set 63 b).drop s.size)
theorem secA_size {s : ByteArray} (b : Int) (hs : s.size ≤ 64) : (secA s b).size = 64 := by
  unfold secA
  rw [strOfNums_size, List.length_append, bytesOf_length, List.length_drop, List.length_set, List.length_replicate]
  omega
theorem sec_calls (s : ByteArray) (b : Int) (w : World) (hs : s.size ≤ 64) :
    Calls Try.prog 109 #[.string s, .int .u8 b] w fun e w' => ∃ r : ByteArray, e = .returned (.string r) ∧ r.size = 64 ∧ Below w.heap.size w w' :=
  (sectorOf_calls s b w hs).mono fun e w' h => ⟨_, h.1, secA_size b hs, h.2⟩
theorem blk_new1 (w : World) (o o' : Obj) : ((w.alloc o).alloc o').heap[w.heap.size]? = some o :=
  ((below_alloc (Below.refl (w.alloc o).heap.size (w.alloc o)) o').block w.heap.size (by simp)).trans (blk_new w o)
theorem blk_new2 (w : World) (o o' : Obj) : ((w.alloc o).alloc o').heap[w.heap.size + 1]? = some o' := by
  have h := blk_new (w.alloc o) o'
  rw [show (w.alloc o).heap.size = w.heap.size + 1 by simp] at h
  exact h
theorem make_fin (w w' : World) (S : Nat → Prop) (g n k : Nat) (h : GK ((w.alloc (.cells #[.pointer none] 85)).alloc (.cells #[.int .i64 0] 28)) (fun k => S k ∧ k < w.heap.size) g n 0 k w')
    (hbk : ∀ o, (w'.alloc o).heap[w.heap.size]? = some (.cells #[.pointer none] 85 (0, 0))) (hek : ∀ o, (w'.alloc o).heap[w.heap.size + 1]? = some (.cells #[.int .i64 0] 28 (0, 0))) (hlt : w.heap.size + 1 < w'.heap.size) :
    ((((w'.alloc (.cells (bookCells (.slice none 0 0) 1 g 0) 95)).setCell ⟨w.heap.size, 0, none⟩ (.pointer (some ⟨w'.heap.size, 0, none⟩))).setCell ⟨w.heap.size + 1, 0, none⟩ (.int .i64 0)).cell? ⟨w.heap.size, 0, none⟩ = some (.pointer (some ⟨w'.heap.size, 0, none⟩))) ∧
    ((((w'.alloc (.cells (bookCells (.slice none 0 0) 1 g 0) 95)).setCell ⟨w.heap.size, 0, none⟩ (.pointer (some ⟨w'.heap.size, 0, none⟩))).setCell ⟨w.heap.size + 1, 0, none⟩ (.int .i64 0)).cell? ⟨w.heap.size + 1, 0, none⟩ = some (.int .i64 0)) ∧
    ∃ Sd, GD (((w'.alloc (.cells (bookCells (.slice none 0 0) 1 g 0) 95)).setCell ⟨w.heap.size, 0, none⟩ (.pointer (some ⟨w'.heap.size, 0, none⟩))).setCell ⟨w.heap.size + 1, 0, none⟩ (.int .i64 0)) Sd g n 0 k ∧ ¬ Sd w'.heap.size ∧ (∀ i, Sd i → Nw S w i) ∧ w.heap.size ≤ w'.heap.size ∧
      (((w'.alloc (.cells (bookCells (.slice none 0 0) 1 g 0) 95)).setCell ⟨w.heap.size, 0, none⟩ (.pointer (some ⟨w'.heap.size, 0, none⟩))).setCell ⟨w.heap.size + 1, 0, none⟩ (.int .i64 0)).heap[w'.heap.size]? = some (.cells (bookCells (.slice none 0 0) 1 g 0) 95 (0, 0)) ∧
      Kp S w (((w'.alloc (.cells (bookCells (.slice none 0 0) 1 g 0) 95)).setCell ⟨w.heap.size, 0, none⟩ (.pointer (some ⟨w'.heap.size, 0, none⟩))).setCell ⟨w.heap.size + 1, 0, none⟩ (.int .i64 0)) := by
  have hw1 : ((w.alloc (.cells #[.pointer none] 85)).alloc (.cells #[.int .i64 0] 28)).heap.size = w.heap.size + 1 + 1 := by simp
  have hB : Below w.heap.size w ((w.alloc (.cells #[.pointer none] 85)).alloc (.cells #[.int .i64 0] 28)) := below_alloc (below_alloc (Below.refl _ _) _) _
  have hA : Below w'.heap.size w' (w'.alloc (.cells (bookCells (.slice none 0 0) 1 g 0) 95)) := below_alloc (Below.refl _ _) _
  have h2 := (hbk (.cells (bookCells (.slice none 0 0) 1 g 0) 95))
  have h3 := (hek (.cells (bookCells (.slice none 0 0) 1 g 0) 95))
  have hnew := blk_new w' (.cells (bookCells (.slice none 0 0) 1 g 0) 95)
  generalize w'.alloc (.cells (bookCells (.slice none 0 0) 1 g 0) 95) = W1 at hA h2 h3 hnew ⊢
  have a1 : (W1.setCell ⟨w.heap.size, 0, none⟩ (.pointer (some ⟨w'.heap.size, 0, none⟩))).heap[w.heap.size + 1]? = some (.cells #[.int .i64 0] 28 (0, 0)) := (Below.heap_setCell _ _ _ _ (by simp)).trans h3
  have a2 : (W1.setCell ⟨w.heap.size, 0, none⟩ (.pointer (some ⟨w'.heap.size, 0, none⟩))).heap[w.heap.size]? = some (.cells #[.pointer (some ⟨w'.heap.size, 0, none⟩)] 85 (0, 0)) := by rw [blk_set h2]; rfl
  refine ⟨?_, ?_, fun i => Nw (fun k => S k ∧ k < w.heap.size) ((w.alloc (.cells #[.pointer none] 85)).alloc (.cells #[.int .i64 0] 28)) i ∧ i < w'.heap.size, ?_, ?_, ?_, by omega, ?_, ?_⟩
  · exact (blk_cell ((Below.heap_setCell _ _ _ _ (by simp)).trans a2) 0).trans rfl
  · exact (blk_cell (blk_set a1 0 _) 0).trans rfl
  · have hk2 : Kp (fun k => k = w.heap.size ∨ k = w.heap.size + 1) w' ((W1.setCell ⟨w.heap.size, 0, none⟩ (.pointer (some ⟨w'.heap.size, 0, none⟩))).setCell ⟨w.heap.size + 1, 0, none⟩ (.int .i64 0)) :=
      ((Kp.of_below _ hA).setCell (.inl (.inl rfl)) _).setCell (.inl (.inr rfl)) _
    refine h.1.trim.kp hk2 fun i hi hlt' hx => ?_
    rcases hi.1 with h1 | h1
    · rcases hx with hx | hx <;> omega
    · rw [hw1] at h1
      rcases hx with hx | hx <;> omega
  · exact fun hx => by omega
  · rintro i ⟨hi, _⟩
    rcases hi with h1 | h1
    · exact .inl h1.1
    · rw [hw1] at h1
      exact .inr (by omega)
  · exact (Below.heap_setCell _ _ _ _ (by simp; omega)).trans ((Below.heap_setCell _ _ _ _ (by simp; omega)).trans hnew)
  · exact (((h.fin hB).2.below hA).setCell (.inr (Nat.le_refl _)) _).setCell (.inr (by simp)) _
set_option maxHeartbeats 8000000 in
set_option maxRecDepth 100000 in
theorem make_calls (w : World) (S : Nat → Prop) (g n k : Nat) (h : GD w S g n 0 k) (hn : 2 ≤ n) (hn2 : n ≤ 4096) (hk : k ≤ 100) :
    Calls Try.prog 59 #[.pointer (some ⟨g, 0, none⟩), .int .i64 2] w fun e w' => ∃ gb Sd, e = .returned (.tuple #[.pointer (some ⟨gb, 0, none⟩), .int .i64 0]) ∧ GD w' Sd g n 0 0 ∧ ¬ Sd gb ∧ (∀ i, Sd i → Nw S w i) ∧ w.heap.size ≤ gb ∧ w'.heap[gb]? = some (.cells (bookCells (.slice none 0 0) 1 g 0) 95 (0, 0)) ∧ Kp S w w' := by
  have H := Aside0.mk h
  clear h
  have HK := Aside0.mk (GD.begin (w1 := (w.alloc (.cells #[.pointer none] 85)).alloc (.cells #[.int .i64 0] 28)) H.out (below_alloc (below_alloc (Below.refl _ _) _) _))
  have VB := Aside0.mk (blk_new1 w (.cells #[.pointer none] 85) (.cells #[.int .i64 0] 28))
  have VE := Aside0.mk (blk_new2 w (.cells #[.pointer none] 85) (.cells #[.int .i64 0] 28))
  have hmf : ∀ (fn : Fn) (first cap : Array Value) (w : World), (Instr.makeFunc fn first cap).run Try.prog w = .ok (.func fn first cap) w := fun _ _ _ _ => rfl
  have kcv : ∀ W : World, (convert 88 9 (.slice (some ⟨W.heap.size, 0, none⟩) 1 1)).run Try.prog (W.alloc (.cells #[.int .u8 2] 5)) = .ok (.string (strOfNums [2])) (W.alloc (.cells #[.int .u8 2] 5)) := fun W =>
    run_convert_bytes_arg (P := Try.prog) _ 88 5 Try.underlying88 Try.underlying5 W.heap.size 0 1 1 [2] rfl (fun i hi => by
      have : i = 0 := by omega
      subst this
      exact (blk_cell (blk_new W _) 0).trans rfl) 9 Try.underlying9
  have b1 : decide ((n : Int) < 2) = false := by simp; omega
  go_enter_defers Try.func59, Try.ntmps59
  go_wp2_with (first
    | (go_at_call 42; (with_reducible refine (gup_calls HK.out).mono ?_); rintro e w' ⟨rfl, hk, -⟩; have HK' := Aside0.mk hk; clear HK hk; have HK := HK'; clear HK')
    | (go_at_call 44; (with_reducible refine (gsectors_calls HK.out).mono ?_); rintro e w' ⟨rfl, hk, -⟩; have HK' := Aside0.mk hk; clear HK hk; have HK := HK'; clear HK')
    | (go_at_call 109; (with_reducible refine (sec_calls _ _ _ ?hsz).mono ?_); (case hsz => first | exact Nat.zero_le _ | (rw [strOfNums_size]; simp) | decide); rintro e w' ⟨r, rfl, hr, hb⟩; have HR := Aside0.mk hr; have HK' := (by first | exact Aside0.mk (HK.out.below hb) | exact Aside0.mk ((HK.out.below (below_alloc (Below.refl _ _) _)).below hb) : Aside0 (GK _ _ g n 0 _ w')); clear HK hr hb; have HK := HK'; clear HK')
    | (go_at_call 110; (with_reducible refine (must_calls _).mono ?_); rintro e w' ⟨rfl, rfl⟩)
    | (go_at_call 34; (with_reducible refine (gsync_calls HK.out (by decide)).mono ?_); rintro e w' ⟨rfl, hk⟩; have HK' := Aside0.mk hk; clear HK hk; have HK := HK'; clear HK'; have hv1 := HK.out.keeps VB.out (fun h => absurd h.2 (by omega)); have hv2 := HK.out.keeps VE.out (fun h => absurd h.2 (by omega)); have cf : w'.cell? ⟨g, 5, none⟩ = some (.int .i64 0) := HK.out.1.fallsC; have cb : ∀ o, (w'.alloc o).cell? ⟨w.heap.size, 0, none⟩ = some (.pointer none) := fun o => (blk_cell (((below_alloc (Below.refl _ w') o).block _ (blk_lt hv1)).trans hv1) 0).trans rfl; have fb : ∀ o, (w'.alloc o).frozen? ⟨w.heap.size, 0, none⟩ = false := fun o => blk_frozen (((below_alloc (Below.refl _ w') o).block _ (blk_lt hv1)).trans hv1) 0; have ce : ∀ o, (w'.alloc o).cell? ⟨w.heap.size + 1, 0, none⟩ = some (.int .i64 0) := fun o => (blk_cell (((below_alloc (Below.refl _ w') o).block _ (blk_lt hv2)).trans hv2) 0).trans rfl; have fe : ∀ o, (w'.alloc o).frozen? ⟨w.heap.size + 1, 0, none⟩ = false := fun o => blk_frozen (((below_alloc (Below.refl _ w') o).block _ (blk_lt hv2)).trans hv2) 0; have HV1 := Aside0.mk hv1; have HV2 := Aside0.mk hv2; clear hv1 hv2)
    | (go_at_call 31; (with_reducible refine (gwriteI_calls _ _ HK.out ?hi0 ?hi1 HR.out (by decide) ?hk0).mono ?_); (case hi0 => first | omega | decide); (case hi1 => omega); (case hk0 => omega); rintro e w' ⟨rfl, hk⟩; have HK' := Aside0.mk hk; clear HK hk; have HK := HK'; clear HK'))
  have hbk : ∀ o, (w'.alloc o).heap[w.heap.size]? = some (.cells #[.pointer none] 85 (0, 0)) := fun o => ((below_alloc (Below.refl _ w') o).block _ (blk_lt HV1.out)).trans HV1.out
  have hek : ∀ o, (w'.alloc o).heap[w.heap.size + 1]? = some (.cells #[.int .i64 0] 28 (0, 0)) := fun o => ((below_alloc (Below.refl _ w') o).block _ (blk_lt HV2.out)).trans HV2.out
  have hlt := blk_lt HV2.out
  have hfin := make_fin w w' S g n 0 HK.out hbk hek hlt
  generalize hWF : ((w'.alloc (.cells (bookCells (.slice none 0 0) 1 g 0) 95)).setCell ⟨w.heap.size, 0, none⟩ (.pointer (some ⟨w'.heap.size, 0, none⟩))).setCell ⟨w.heap.size + 1, 0, none⟩ (.int .i64 0) = WF at hfin
  rw [show ((w'.alloc (.cells #[.int .i64 2, .slice none 0 0, .slice none 0 0, .slice none 0 0, .slice none 0 0, .slice none 0 0, .slice none 0 0, .slice none 0 0, .slice none 0 0, .int .i64 1, .pointer (some ⟨g, 0, none⟩), .int .i64 0] 95)).setCell ⟨w.heap.size, 0, none⟩ (.pointer (some ⟨w'.heap.size, 0, none⟩))).setCell ⟨w.heap.size + 1, 0, none⟩ (.int .i64 0) = WF from hWF]
  obtain ⟨hc1, hc2, hrest⟩ := hfin
  have HRest := Aside0.mk hrest
  clear hrest hWF hbk hek hlt cb ce fb fe cf kcv hmf
  refine leaves_cons (f := 108) (args := #[.pointer (some ⟨w.heap.size + 1, 0, none⟩)]) (by simp) (by simp [go_sem]) ?_
  refine (caught_idle _ _).mono ?_
  rintro e u' w'' ⟨rfl, rfl, rfl⟩
  refine leaves_cons (f := 107) (args := #[.pointer (some ⟨w.heap.size + 1, 0, none⟩), .pointer (some ⟨w.heap.size, 0, none⟩)]) (by simp [settle]) (by simp [go_sem]) ?_
  refine (make1_idle _ _ _ hc2).mono ?_
  rintro e u' w'' ⟨rfl, rfl, rfl⟩
  obtain ⟨Sd, hr⟩ := HRest.out
  have HR2 := Aside0.mk hr
  clear hr HRest
  refine ⟨_, ?_, ⟨_, Sd, rfl, HR2.out⟩⟩
  simp [results, Try.results59, go_sem, hc1, hc2]
end Go.Proofs.Ytkedodmlbepfnaa.Lg

-- from the working text Rd
set_option linter.unusedSimpArgs false
set_option linter.unusedVariables false
namespace Go.Proofs.Ytkedodmlbepfnaa.Lg
open Go.RowKit Go.Proofs.YtkedodmlbepfnaaW.PrintWords Go.Proofs.YtkedodmlbepfnaaW.PrintLast Go.Proofs.YtkedodmlbepfnaaW.PrintMore Go.Proofs.Ytkedodmlbepfnaa.Rg
theorem GK.more {w0 W : World} {S : Nat → Prop} {g n k k' : Nat} {f : Int} (h : GK w0 S g n f k W) (hk : k ≤ k') : GK w0 S g n f k' W := ⟨h.1.more hk, h.2⟩
theorem payload_calls (a b : Int) (s : ByteArray) (w : World) (hs : s.size ≤ 2400) :
    Calls Try.prog 156 #[.agg #[.int .i64 a, .int .i64 b, .string s]] w fun e w' => ∃ r : ByteArray, e = .returned (.string r) ∧ r.size = s.size + 2 ∧ Below w.heap.size w w' := by
  have hz : (strOfNums [a % 256, b % 256]).size = 2 := by rw [strOfNums_size]; rfl
  refine (ledger_payload.calls a b s (strOfNums [a % 256, b % 256] ++ s) w ?_).mono ?_
  · unfold ledger_payload.f
    rw [Option.bind_some, if_pos (by omega)]
  · rintro e w' ⟨rfl, hb⟩
    exact ⟨_, rfl, by rw [ByteArray.size_append, hz]; omega, hb⟩
theorem count_calls (n : Nat) (w : World) (hn : n ≤ 3000) : Calls Try.prog 155 #[.int .i64 (n : Int)] w fun e w' => e = .returned (.int .i64 ((1 + (n + 4) / 64 : Nat) : Int)) ∧ Below w.heap.size w w' := by
  refine (ledger_count.calls (n : Int) _ w rfl).mono ?_
  rintro e w' ⟨rfl, ⟨nd, rfl⟩⟩
  refine ⟨?_, pw_below_drewN (Below.refl _ _) nd⟩
  have h1 : wrap64 ((n : Int) + 4) = (n : Int) + 4 := by unfold wrap64; omega
  have h2 : Int.tdiv ((n : Int) + 4) 64 = ((n + 4) / 64 : Nat) := by
    rw [show (n : Int) + 4 = ((n + 4 : Nat) : Int) by omega]
    rfl
  rw [h1, h2]
  have h3 : wrap64 (((n + 4) / 64 : Nat) : Int) = (((n + 4) / 64 : Nat) : Int) := by unfold wrap64; omega
  rw [h3]
  have h4 : wrap64 (1 + (((n + 4) / 64 : Nat) : Int)) = ((1 + (n + 4) / 64 : Nat) : Int) := by unfold wrap64; omega
  rw [h4]
theorem count_calls' (n c : Nat) (w : World) (hn : n ≤ 3000) (hc : c = 1 + (n + 4) / 64) : Calls Try.prog 155 #[.int .i64 (n : Int)] w fun e w' => e = .returned (.int .i64 (c : Int)) ∧ Below w.heap.size w w' := by
  subst hc
  exact count_calls n w hn
theorem cut_run2 (p : ByteArray) (i j : Nat) (W : World) (hij : i ≤ j) (hj : j ≤ p.size) : (Instr.slice 9 (.string p) (some (.int .i64 (i : Int))) (some (.int .i64 (j : Int))) none).run Try.prog W = .ok (.string (p.extract i j)) W := by
  have hq := run_slice_string (P := Try.prog) W 9 p .i64 .i64 (i : Int) (j : Int) Try.underlying9 (by omega) (by omega) (by omega)
  rw [Int.toNat_natCast, Int.toNat_natCast] at hq
  exact hq
theorem cut_size0 (p : ByteArray) (i : Nat) : (p.extract i (min p.size (i + 64))).size ≤ 64 := by
  rw [ByteArray.size_extract]
  have h1 := Nat.min_le_right p.size (i + 64)
  have h2 := Nat.min_le_left (min p.size (i + 64)) p.size
  omega
theorem cut_run3 (p : ByteArray) (i : Nat) (h1 : 1 ≤ i) (hle : 59 + (i - 1) * 64 ≤ p.size) : ∃ r : ByteArray, r.size ≤ 64 ∧ ∀ W : World, (Instr.slice 9 (.string p) (some (.int .i64 (59 + ((i : Int) - 1) * 64))) (some (.int .i64 (min (p.size : Int) (59 + ((i : Int) - 1) * 64 + 64)))) none).run Try.prog W = .ok (.string r) W := by
  obtain ⟨fr, hfr⟩ : ∃ fr : Nat, fr = 59 + (i - 1) * 64 := ⟨_, rfl⟩
  have e1 : (59 : Int) + ((i : Int) - 1) * 64 = (fr : Int) := by omega
  have e2 : min (p.size : Int) ((fr : Int) + 64) = ((min p.size (fr + 64) : Nat) : Int) := by
    by_cases h : fr + 64 ≤ p.size
    · rw [Nat.min_eq_right h, Int.min_eq_right (by omega)]; omega
    · rw [Nat.min_eq_left (by omega), Int.min_eq_left (by omega)]
  have hf : fr ≤ p.size := by omega
  refine ⟨p.extract fr (min p.size (fr + 64)), cut_size0 p fr, fun W => ?_⟩
  rw [e1, e2]
  exact cut_run2 p fr _ W (Nat.le_min.2 ⟨hf, Nat.le_add_right _ _⟩) (Nat.min_le_left _ _)
def recRel (p : ByteArray) : Nat → Value → World → Prop
  | 0, v, _ => v = .int .i64 (p.size : Int)
  | 1, v, _ => v = .int .u8 ((p.size : Int) % 256)
  | 2, v, _ => v = .int .i64 (p.size : Int)
  | 3, v, _ => v = .int .i64 ((p.size / 256 : Nat) : Int)
  | 4, v, _ => v = .int .u8 (((p.size / 256 : Nat) : Int) % 256)
  | 5, v, w => ∃ gl, v = .slice (some ⟨gl, 0, none⟩) 4 4 ∧ w.heap[gl]? = some (.cells #[.int .u8 ((p.size : Int) % 256), .int .u8 (((p.size / 256 : Nat) : Int) % 256), .int .u8 0, .int .u8 0] 5 (0, 0))
  | 6, v, _ => ∃ r : ByteArray, v = .string r ∧ r.size = 4
  | 7, v, _ => v = .string p
  | 8, v, _ => v = .int .i64 (p.size : Int)
  | 9, v, _ => v = .int .i64 ((min p.size 59 : Nat) : Int)
  | 10, v, _ => ∃ r : ByteArray, v = .string r ∧ r.size ≤ 59
  | 11, v, _ => ∃ r : ByteArray, v = .string r ∧ r.size ≤ 64
  | 12, v, _ => ∃ r : ByteArray, v = .string r ∧ r.size ≤ 64
  | _, _, _ => True
theorem recRel_stable (p : ByteArray) (j : Nat) (v : Value) (w w' : World) (h : recRel p j v w) (hb : Below w.heap.size w w') : recRel p j v w' := by
  revert h
  unfold recRel
  split <;> intro h <;> first | exact h | (obtain ⟨gl, h1, h2⟩ := h; exact ⟨gl, h1, (hb.block gl (blk_lt h2)).trans h2⟩)
set_option maxHeartbeats 8000000 in
set_option maxRecDepth 100000 in
theorem record_calls (w : World) (S : Nat → Prop) (g n k at_ : Nat) (f a b : Int) (s : ByteArray) (h : GD w S g n f k) (hf : f ≤ 1000000) (hn : n ≤ 4096) (hk : k ≤ 100) (hs : s.size ≤ 2400) (hat : at_ + 1 + (s.size + 6) / 64 ≤ n) :
    Calls Try.prog 143 #[.pointer (some ⟨g, 0, none⟩), .int .i64 (at_ : Int), .agg #[.int .i64 a, .int .i64 b, .string s]] w fun e w' => e = .returned (.tuple #[]) ∧ GD w' (Nw S w) g n f 0 ∧ Kp S w w' := by
  have H := Aside0.mk h
  have HF := Aside0.mk hf
  clear h hf
  have HK := Aside0.mk (GD.begin (w1 := w.alloc (.cells #[.int .i64 a, .int .i64 b, .string s] 23)) H.out (below_alloc (Below.refl _ _) _))
  go_enter Try.func143, Try.ntmps143
  go_wp2_with (first
    | (go_at_call 156; (with_reducible refine (payload_calls _ _ _ _ hs).mono ?_); rintro e w' ⟨p, rfl, hp, hb⟩; have HP := Aside0.mk hp; clear hp; have HK' := Aside0.mk (HK.out.below hb); clear HK hb; have HK := HK'; clear HK'))
  have hps : p.size ≤ 2402 := by rw [HP.out]; omega
  have HPs := Aside0.mk hps
  clear hps
  refine rg_ [0, 1, 2, 3, 4, 5, 6, 7, 8, 9, 10, 11, 12] [(0, 16), (1, 17), (2, 18), (3, 19), (4, 20), (5, 21), (6, 22), (7, 23), (8, 24), (9, 25), (10, 26), (11, 27), (12, 8)] (bitsOf (rtab .any (opsOf Try.f143 3)).2) (recRel p) (by kernel_rfl) rfl (by kernel_rfl) rfl (by kernel_rfl) ?stab ?steps ?rend
  case steps =>
    refine steps_cons (fun a1 w1 hB hsz hdf hn hd => ⟨_, rfl, fun K hK => ?_⟩) ?_
    · have e7 := eval_of ((hn 7 rfl).trans rfl)
      refine value_ (v := .int .i64 (p.size : Int)) (w1 := w1) rfl rfl ?_ (hK _ _ (Below.refl _ _) rfl)
      clear hd hn hK
      simp only [execOp, Option.map_some, Option.map_none, List.map_toArray, List.map_cons, List.map_nil, List.getElem_toArray, List.getElem_cons_zero, List.getElem_cons_succ, e7]
      clear e7
      go_simp
    refine steps_cons (fun a1 w1 hB hsz hdf hn hd => ⟨_, rfl, fun K hK => ?_⟩) ?_
    · obtain ⟨v16, h16, rfl⟩ := hd 0 16 rfl (by kernel_rfl)
      have e16 := eval_of h16
      clear h16
      refine value_ (v := .int .u8 ((p.size : Int) % 256)) (w1 := w1) rfl rfl ?_ (hK _ _ (Below.refl _ _) rfl)
      clear hd hn hK
      simp only [execOp, Option.map_some, Option.map_none, List.map_toArray, List.map_cons, List.map_nil, List.getElem_toArray, List.getElem_cons_zero, List.getElem_cons_succ, e16]
      clear e16
      have hq := IntKind.wrap_u8 (p.size : Int)
      go_simp
    refine steps_cons (fun a1 w1 hB hsz hdf hn hd => ⟨_, rfl, fun K hK => ?_⟩) ?_
    · have e7 := eval_of ((hn 7 rfl).trans rfl)
      refine value_ (v := .int .i64 (p.size : Int)) (w1 := w1) rfl rfl ?_ (hK _ _ (Below.refl _ _) rfl)
      clear hd hn hK
      simp only [execOp, Option.map_some, Option.map_none, List.map_toArray, List.map_cons, List.map_nil, List.getElem_toArray, List.getElem_cons_zero, List.getElem_cons_succ, e7]
      clear e7
      go_simp
    refine steps_cons (fun a1 w1 hB hsz hdf hn hd => ⟨_, rfl, fun K hK => ?_⟩) ?_
    · obtain ⟨v18, h18, rfl⟩ := hd 2 18 rfl (by kernel_rfl)
      have e18 := eval_of h18
      clear h18
      refine value_ (v := .int .i64 ((p.size / 256 : Nat) : Int)) (w1 := w1) rfl rfl ?_ (hK _ _ (Below.refl _ _) rfl)
      clear hd hn hK
      simp only [execOp, Option.map_some, Option.map_none, List.map_toArray, List.map_cons, List.map_nil, List.getElem_toArray, List.getElem_cons_zero, List.getElem_cons_succ, e18]
      clear e18
      go_simp
    refine steps_cons (fun a1 w1 hB hsz hdf hn hd => ⟨_, rfl, fun K hK => ?_⟩) ?_
    · obtain ⟨v19, h19, rfl⟩ := hd 3 19 rfl (by kernel_rfl)
      have e19 := eval_of h19
      clear h19
      refine value_ (v := .int .u8 (((p.size / 256 : Nat) : Int) % 256)) (w1 := w1) rfl rfl ?_ (hK _ _ (Below.refl _ _) rfl)
      clear hd hn hK
      simp only [execOp, Option.map_some, Option.map_none, List.map_toArray, List.map_cons, List.map_nil, List.getElem_toArray, List.getElem_cons_zero, List.getElem_cons_succ, e19]
      clear e19
      have hq := IntKind.wrap_u8 ((p.size : Int) / 256)
      go_simp
    refine steps_cons (fun a1 w1 hB hsz hdf hn hd => ⟨_, rfl, fun K hK => ?_⟩) ?_
    · obtain ⟨v17, h17, rfl⟩ := hd 1 17 rfl (by kernel_rfl)
      have e17 := eval_of h17
      clear h17
      obtain ⟨v20, h20, rfl⟩ := hd 4 20 rfl (by kernel_rfl)
      have e20 := eval_of h20
      clear h20
      refine value_ (v := .slice (some ⟨w1.heap.size, 0, none⟩) 4 4) (w1 := w1.alloc (.cells #[.int .u8 ((p.size : Int) % 256), .int .u8 (((p.size / 256 : Nat) : Int) % 256), .int .u8 0, .int .u8 0] 5)) rfl rfl ?_ (hK _ _ (below_alloc (Below.refl _ _) _) ⟨_, rfl, blk_new _ _⟩)
      clear hd hn hK
      simp only [execOp, Option.map_some, Option.map_none, List.map_toArray, List.map_cons, List.map_nil, List.getElem_toArray, List.getElem_cons_zero, List.getElem_cons_succ, e17, e20]
      clear e17 e20
      go_simp
    refine steps_cons (fun a1 w1 hB hsz hdf hn hd => ⟨_, rfl, fun K hK => ?_⟩) ?_
    · obtain ⟨v21, h21, ⟨gl, rfl, hgl⟩⟩ := hd 5 21 rfl (by kernel_rfl)
      have e21 := eval_of h21
      clear h21
      refine value_ (v := .string (strOfNums [(p.size : Int) % 256, ((p.size / 256 : Nat) : Int) % 256, 0, 0])) (w1 := w1) rfl rfl ?_ (hK _ _ (Below.refl _ _) ⟨_, rfl, by rw [strOfNums_size]; rfl⟩)
      clear hd hn hK
      simp only [execOp, Option.map_some, Option.map_none, List.map_toArray, List.map_cons, List.map_nil, List.getElem_toArray, List.getElem_cons_zero, List.getElem_cons_succ, e21]
      clear e21
      have hq := run_convert_bytes_arg (P := Try.prog) w1 88 5 Try.underlying88 Try.underlying5 gl 0 4 4 [(p.size : Int) % 256, ((p.size / 256 : Nat) : Int) % 256, 0, 0] rfl (fun i hi => by rw [Nat.zero_add, blk_cell hgl]; match i, hi with | 0, _ => rfl | 1, _ => rfl | 2, _ => rfl | 3, _ => rfl) 9 Try.underlying9
      simp only [Sem.run_bind, hq, Result.andThen_ok]
      rfl
    refine steps_cons (fun a1 w1 hB hsz hdf hn hd => ⟨_, rfl, fun K hK => ?_⟩) ?_
    · have e6 := eval_of ((hn 6 rfl).trans rfl)
      refine value_ (v := .string p) (w1 := w1) rfl rfl ?_ (hK _ _ (Below.refl _ _) rfl)
      clear hd hn hK
      simp only [execOp, Option.map_some, Option.map_none, List.map_toArray, List.map_cons, List.map_nil, List.getElem_toArray, List.getElem_cons_zero, List.getElem_cons_succ, e6]
      clear e6
      go_simp
    refine steps_cons (fun a1 w1 hB hsz hdf hn hd => ⟨_, rfl, fun K hK => ?_⟩) ?_
    · have e7 := eval_of ((hn 7 rfl).trans rfl)
      refine value_ (v := .int .i64 (p.size : Int)) (w1 := w1) rfl rfl ?_ (hK _ _ (Below.refl _ _) rfl)
      clear hd hn hK
      simp only [execOp, Option.map_some, Option.map_none, List.map_toArray, List.map_cons, List.map_nil, List.getElem_toArray, List.getElem_cons_zero, List.getElem_cons_succ, e7]
      clear e7
      go_simp
    refine steps_cons (fun a1 w1 hB hsz hdf hn hd => ⟨_, rfl, fun K hK => ?_⟩) ?_
    · obtain ⟨v24, h24, rfl⟩ := hd 8 24 rfl (by kernel_rfl)
      have e24 := eval_of h24
      clear h24
      refine value_ (v := .int .i64 ((min p.size 59 : Nat) : Int)) (w1 := w1) rfl rfl ?_ (hK _ _ (Below.refl _ _) rfl)
      clear hd hn hK
      simp only [execOp, Option.map_some, Option.map_none, List.map_toArray, List.map_cons, List.map_nil, List.getElem_toArray, List.getElem_cons_zero, List.getElem_cons_succ, e24]
      have hq : (Builtin.min_ #[3, 3] 3 #[.int .i64 (p.size : Int), .int .i64 59]).run Try.prog w1 = .ok (.int .i64 ((min p.size 59 : Nat) : Int)) w1 := by rw [run_min_int2]; congr 2; split <;> omega
      have ec : a1.eval (.const (.int .i64 59)) = .int .i64 59 := rfl
      simp only [resolve, invoke, builtin, Sem.run_bind, Sem.run_pure, Result.andThen_ok, List.map_toArray, List.map_cons, List.map_nil, e24, ec, hq]
    refine steps_cons (fun a1 w1 hB hsz hdf hn hd => ⟨_, rfl, fun K hK => ?_⟩) ?_
    · obtain ⟨v23, h23, rfl⟩ := hd 7 23 rfl (by kernel_rfl)
      have e23 := eval_of h23
      clear h23
      obtain ⟨v25, h25, rfl⟩ := hd 9 25 rfl (by kernel_rfl)
      have e25 := eval_of h25
      clear h25
      refine value_ (v := .string (p.extract 0 (min p.size 59))) (w1 := w1) rfl rfl ?_ (hK _ _ (Below.refl _ _) ⟨_, rfl, by rw [ByteArray.size_extract]; omega⟩)
      clear hd hn hK
      simp only [execOp, Option.map_some, Option.map_none, List.map_toArray, List.map_cons, List.map_nil, List.getElem_toArray, List.getElem_cons_zero, List.getElem_cons_succ, e23, e25]
      clear e23 e25
      have hq := run_slice_string_h (P := Try.prog) w1 9 p Try.underlying9 .i64 ((min p.size 59 : Nat) : Int) (by omega) (by omega)
      rw [Int.toNat_natCast] at hq
      simp only [Instr.sliceAt, run_underlying Try.underlying9, Sem.run_bind, hq, Result.andThen_ok]
      rfl
    refine steps_cons (fun a1 w1 hB hsz hdf hn hd => ⟨_, rfl, fun K hK => ?_⟩) ?_
    · obtain ⟨v22, h22, ⟨r22, rfl, hr22⟩⟩ := hd 6 22 rfl (by kernel_rfl)
      have e22 := eval_of h22
      clear h22
      obtain ⟨v26, h26, ⟨r26, rfl, hr26⟩⟩ := hd 10 26 rfl (by kernel_rfl)
      have e26 := eval_of h26
      clear h26
      refine value_ (v := .string (r22 ++ r26)) (w1 := w1) rfl rfl ?_ (hK _ _ (Below.refl _ _) ⟨_, rfl, by rw [ByteArray.size_append]; omega⟩)
      clear hd hn hK
      simp only [execOp, Option.map_some, Option.map_none, List.map_toArray, List.map_cons, List.map_nil, List.getElem_toArray, List.getElem_cons_zero, List.getElem_cons_succ, e22, e26]
      clear e22 e26
      go_simp
      omega
    refine steps_cons (fun a1 w1 hB hsz hdf hn hd => ⟨_, rfl, fun K hK => ?_⟩) ?_
    · obtain ⟨v27, h27, ⟨r27, rfl, hr27⟩⟩ := hd 11 27 rfl (by kernel_rfl)
      have e27 := eval_of h27
      clear h27
      refine value_ (v := .string r27) (w1 := w1) rfl rfl ?_ (hK _ _ (Below.refl _ _) ⟨_, rfl, hr27⟩)
      clear hd hn hK
      simp only [execOp, Option.map_some, Option.map_none, List.map_toArray, List.map_cons, List.map_nil, List.getElem_toArray, List.getElem_cons_zero, List.getElem_cons_succ, e27]
      clear e27
      go_simp
    exact steps_nil
  case stab => exact fun j v w w' => recRel_stable _ j v w w'
  case rend =>
    intro vals w1 hB hrr
    obtain ⟨q, hq, hqs⟩ : ∃ r : ByteArray, vals 12 = .string r ∧ r.size ≤ 64 := hrr (12, 8) (by simp)
    have HQs := Aside0.mk hqs
    have HK2 := Aside0.mk (HK.out.below hB)
    clear hrr hqs hB HK
    simp only [fill, Act.put, List.setIfInBounds_toArray, List.set_cons_zero, List.set_cons_succ, hq]
    obtain ⟨cnt, hcnt⟩ : ∃ c, c = 1 + (p.size + 4) / 64 := ⟨_, rfl⟩
    have HC := Aside0.mk hcnt
    have hc1 : 1 ≤ cnt := by omega
    have hc2 : cnt ≤ 40 := by have := HPs.out; omega
    have hat2 : at_ + cnt ≤ n := by have := HP.out; omega
    clear hq hcnt hat HPs
    go_wp2
    go_loopg [9, 10] cnt (fun kq v9 v10 W => ∃ i : Nat, v9 = .int .i64 (i : Int) ∧ Aside0 (i + kq = cnt + 1) ∧ Aside0 (1 ≤ i) ∧ Aside0 (GK (w.alloc (.cells #[.int .i64 a, .int .i64 b, .string s] 23)) (fun k => S k ∧ k < w.heap.size) g n f (k + i) W))
    case atStart => exact ⟨1, rfl, ⟨by omega⟩, ⟨Nat.le_refl _⟩, ⟨HK2.out.more (by omega)⟩⟩
    case round =>
      clear HK2
      obtain ⟨i, rfl, HI1, HI2, HK⟩ := hrel
      by_cases c1 : i < cnt
      · have c1b : decide ((i : Int) < (cnt : Int)) = true := by simp; omega
        have hi1 := HI2.out
        obtain ⟨rr, hrs, hsl⟩ := cut_run3 p i hi1 (by have h1 := HC.out; omega)
        have hps : p.size ≤ 3000 := by rw [HP.out]; omega
        have hgk := HI1.out
        cases gk with
        | zero => omega
        | succ k1 =>
          have hx0 : (0 : Int) ≤ (at_ : Int) + (i : Int) := by omega
          have hx1 : (at_ : Int) + (i : Int) < (n : Int) := by omega
          have hx2 : k + i ≤ 1000 := by omega
          have hx3 : i + 1 + k1 = cnt + 1 := by omega
          have hx4 : k1 < k1 + 1 := by omega
          have hx5 : 1 ≤ i + 1 := by omega
          clear hgk
          have HZ64 := Aside0.mk hrs
          clear hrs
          go_wp2_with (first
            | (go_at_call 155; (with_reducible refine (count_calls' p.size cnt _ hps HC.out).mono ?_); rintro e w' ⟨rfl, hb⟩; have HK' := Aside0.mk (HK.out.below hb); clear HK hb; have HK := HK'; clear HK')
            | (go_at_call 109; (with_reducible refine (sec_calls _ _ _ HZ64.out).mono ?_); rintro e w' ⟨r, rfl, hr, hb⟩; have HR := Aside0.mk hr; have HK' := Aside0.mk (HK.out.below hb); clear HK hr hb; have HK := HK'; clear HK')
            | (go_at_call 110; (with_reducible refine (must_calls _).mono ?_); rintro e w' ⟨rfl, rfl⟩)
            | (go_at_call 31; (with_reducible refine (gwriteI_calls _ _ HK.out ?hi0 ?hi1 HR.out HF.out ?hk0).mono ?_); (case hi0 => exact hx0); (case hi1 => exact hx1); (case hk0 => exact hx2); rintro e w' ⟨rfl, hk⟩; have HK' := Aside0.mk hk; clear HK hk; have HK := HK'; clear HK'))
          go_roundg k1
          case measure => exact hx4
          case rel => exact ⟨i + 1, by simp, ⟨hx3⟩, ⟨hx5⟩, HK⟩
      · have c1b : decide ((i : Int) < (cnt : Int)) = false := by simp; omega
        have hki : k + i ≤ 900 := by have := HI1.out; omega
        have hps : p.size ≤ 3000 := by rw [HP.out]; omega
        have hin : (at_ : Int) < (n : Int) := by omega
        by_cases c2 : at_ + cnt < n
        · have c2b : decide ((at_ : Int) + (cnt : Int) < (n : Int)) = true := by simp; omega
          go_wp2_with (first
          | (go_at_call 155; (with_reducible refine (count_calls' p.size cnt _ hps HC.out).mono ?_); rintro e w' ⟨rfl, hb⟩; have HK' := Aside0.mk (HK.out.below hb); clear HK hb; have HK := HK'; clear HK')
          | (go_at_call 44; (with_reducible refine (gsectors_calls HK.out).mono ?_); rintro e w' ⟨rfl, hk, -⟩; have HK' := Aside0.mk hk; clear HK hk; have HK := HK'; clear HK')
          | (go_at_call 109; (with_reducible refine (sec_calls _ _ _ ?hsz).mono ?_); (case hsz => first | exact HQs.out | exact Nat.zero_le _ | decide); rintro e w' ⟨r, rfl, hr, hb⟩; have HR := Aside0.mk hr; have HK' := Aside0.mk (HK.out.below hb); clear HK hr hb; have HK := HK'; clear HK')
          | (go_at_call 110; (with_reducible refine (must_calls _).mono ?_); rintro e w' ⟨rfl, rfl⟩)
          | (go_at_call 34; (with_reducible refine (gsync_calls HK.out HF.out).mono ?_); rintro e w' ⟨rfl, hk⟩; have HK' := Aside0.mk hk; clear HK hk; have HK := HK'; clear HK')
          | (go_at_call 31; (with_reducible refine (gwriteI_calls _ _ HK.out ?hi0 ?hi1 HR.out HF.out ?hk0).mono ?_); (case hi0 => omega); (case hi1 => omega); (case hk0 => omega); rintro e w' ⟨rfl, hk⟩; have HK' := Aside0.mk hk; clear HK hk; have HK := HK'; clear HK'))
          go_end0
          exact ⟨rfl, HK.out.fin (below_alloc (Below.refl _ _) _)⟩
        · have c2b : decide ((at_ : Int) + (cnt : Int) < (n : Int)) = false := by simp; omega
          go_wp2_with (first
          | (go_at_call 155; (with_reducible refine (count_calls' p.size cnt _ hps HC.out).mono ?_); rintro e w' ⟨rfl, hb⟩; have HK' := Aside0.mk (HK.out.below hb); clear HK hb; have HK := HK'; clear HK')
          | (go_at_call 44; (with_reducible refine (gsectors_calls HK.out).mono ?_); rintro e w' ⟨rfl, hk, -⟩; have HK' := Aside0.mk hk; clear HK hk; have HK := HK'; clear HK')
          | (go_at_call 109; (with_reducible refine (sec_calls _ _ _ ?hsz).mono ?_); (case hsz => first | exact HQs.out | exact Nat.zero_le _ | decide); rintro e w' ⟨r, rfl, hr, hb⟩; have HR := Aside0.mk hr; have HK' := Aside0.mk (HK.out.below hb); clear HK hr hb; have HK := HK'; clear HK')
          | (go_at_call 110; (with_reducible refine (must_calls _).mono ?_); rintro e w' ⟨rfl, rfl⟩)
          | (go_at_call 34; (with_reducible refine (gsync_calls HK.out HF.out).mono ?_); rintro e w' ⟨rfl, hk⟩; have HK' := Aside0.mk hk; clear HK hk; have HK := HK'; clear HK')
          | (go_at_call 31; (with_reducible refine (gwriteI_calls _ _ HK.out ?hi0 ?hi1 HR.out HF.out ?hk0).mono ?_); (case hi0 => omega); (case hi1 => omega); (case hk0 => omega); rintro e w' ⟨rfl, hk⟩; have HK' := Aside0.mk hk; clear HK hk; have HK := HK'; clear HK'))
          go_end0
          exact ⟨rfl, HK.out.fin (below_alloc (Below.refl _ _) _)⟩
end Go.Proofs.Ytkedodmlbepfnaa.Lg

-- from the working text Bk
set_option linter.unusedSimpArgs false
set_option linter.unusedVariables false
namespace Go.Proofs.Ytkedodmlbepfnaa.Lg
open Go.RowKit Go.Proofs.YtkedodmlbepfnaaW.PrintWords Go.Proofs.YtkedodmlbepfnaaW.PrintLast Go.Proofs.YtkedodmlbepfnaaW.PrintMore Go.Proofs.Ytkedodmlbepfnaa.Rg
/-- A book for two offices, in memory. -/
def BookAt (W : World) (gb gd : Nat) (e0 : Value) (used falls : Int) : Prop := W.heap[gb]? = some (.cells (bookCells e0 used gd falls) 95 (0, 0))
theorem BookAt.below {W W' : World} {gb gd : Nat} {e0 : Value} {used falls : Int} (h : BookAt W gb gd e0 used falls) (hb : Below W.heap.size W W') : BookAt W' gb gd e0 used falls := (hb.block gb (blk_lt h)).trans h
theorem gsectors0 {W : World} {S : Nat → Prop} {g n k : Nat} {f : Int} (h : GD W S g n f k) :
    Calls Try.prog 44 #[.pointer (some ⟨g, 0, none⟩)] W fun e W' => e = .returned (.int .i64 (n : Int)) ∧ Below W.heap.size W W' :=
  (gsectors_calls (GK.start h)).mono fun e W' h => ⟨h.1, h.2.2⟩
def roomRel (gb gd : Nat) (n : Nat) (used : Int) : Nat → Value → World → Prop
  | 0, v, _ => v = .pointer (some ⟨gb, 0, none⟩)
  | 1, v, _ => v = .pointer (some ⟨gb, 0, none⟩)
  | 2, v, _ => v = .pointer (some ⟨gb, 10, none⟩)
  | 3, v, _ => v = .pointer (some ⟨gd, 0, none⟩)
  | 4, v, _ => v = .int .i64 (n : Int)
  | 5, v, _ => v = .pointer (some ⟨gb, 0, none⟩)
  | 6, v, _ => v = .pointer (some ⟨gb, 0, none⟩)
  | 7, v, _ => v = .pointer (some ⟨gb, 0, none⟩)
  | 8, v, _ => v = .pointer (some ⟨gb, 9, none⟩)
  | 9, v, _ => v = .int .i64 used
  | 10, v, _ => v = .int .i64 ((n : Int) - used)
  | 11, v, _ => v = .int .i64 ((n : Int) - used)
  | _, _, _ => True
set_option maxHeartbeats 4000000 in
set_option maxRecDepth 100000 in
theorem room_calls (W : World) (S : Nat → Prop) (gb gd n k : Nat) (e0 : Value) (used falls f : Int) (hb : BookAt W gb gd e0 used falls) (hd : GD W S gd n f k) (h0 : 0 ≤ used) (h1 : used ≤ n) (hn : n ≤ 4096) :
    Calls Try.prog 60 #[.pointer (some ⟨gb, 0, none⟩)] W fun e W' => e = .returned (.int .i64 ((n : Int) - used)) ∧ Below W.heap.size W W' := by
  have HB := Aside0.mk hb
  have HD := Aside0.mk hd
  clear hb hd
  go_enter Try.func60, Try.ntmps60
  go_wp2
  refine rg_ [0, 1, 2, 3, 4, 5, 6, 7, 8, 9, 10, 11] [(0, 3), (1, 4), (2, 5), (3, 6), (4, 7), (5, 8), (6, 9), (7, 10), (8, 11), (9, 12), (10, 13), (11, 2)] (bitsOf (rtab .any (opsOf Try.f60 1)).2) (roomRel gb gd n used) (by kernel_rfl) rfl (by kernel_rfl) rfl (by kernel_rfl) ?stab ?steps ?rend
  case steps =>
    refine steps_cons (fun a1 w1 hB hsz hdf hn hd => ⟨_, rfl, fun K hK => ?_⟩) ?_
    · have e0 := eval_of ((hn 0 rfl).trans rfl)
      refine value_ (v := .pointer (some ⟨gb, 0, none⟩)) (w1 := w1) rfl rfl ?_ (hK _ _ (Below.refl _ _) rfl)
      clear hd hn hK
      simp only [execOp, Option.map_some, Option.map_none, List.map_toArray, List.map_cons, List.map_nil, List.getElem_toArray, List.getElem_cons_zero, List.getElem_cons_succ, e0]
      clear e0
      go_simp
    refine steps_cons (fun a1 w1 hB hsz hdf hn hd => ⟨_, rfl, fun K hK => ?_⟩) ?_
    · obtain ⟨v3, h3, rfl⟩ := hd 0 3 rfl (by kernel_rfl)
      have e3 := eval_of h3
      clear h3
      refine value_ (v := .pointer (some ⟨gb, 0, none⟩)) (w1 := w1) rfl rfl ?_ (hK _ _ (Below.refl _ _) rfl)
      clear hd hn hK
      simp only [execOp, Option.map_some, Option.map_none, List.map_toArray, List.map_cons, List.map_nil, List.getElem_toArray, List.getElem_cons_zero, List.getElem_cons_succ, e3]
      clear e3
      go_simp
    refine steps_cons (fun a1 w1 hB hsz hdf hn hd => ⟨_, rfl, fun K hK => ?_⟩) ?_
    · obtain ⟨v4, h4, rfl⟩ := hd 1 4 rfl (by kernel_rfl)
      have e4 := eval_of h4
      clear h4
      refine value_ (v := .pointer (some ⟨gb, 10, none⟩)) (w1 := w1) rfl rfl ?_ (hK _ _ (Below.refl _ _) rfl)
      clear hd hn hK
      simp only [execOp, Option.map_some, Option.map_none, List.map_toArray, List.map_cons, List.map_nil, List.getElem_toArray, List.getElem_cons_zero, List.getElem_cons_succ, e4]
      clear e4
      go_simp
    refine steps_cons (fun a1 w1 hB hsz hdf hn hd => ⟨_, rfl, fun K hK => ?_⟩) ?_
    · obtain ⟨v5, h5, rfl⟩ := hd 2 5 rfl (by kernel_rfl)
      have e5 := eval_of h5
      clear h5
      refine value_ (v := .pointer (some ⟨gd, 0, none⟩)) (w1 := w1) rfl rfl ?_ (hK _ _ (Below.refl _ _) rfl)
      clear hd hn hK
      simp only [execOp, Option.map_some, Option.map_none, List.map_toArray, List.map_cons, List.map_nil, List.getElem_toArray, List.getElem_cons_zero, List.getElem_cons_succ, e5]
      clear e5
      have hq : w1.cell? ⟨gb, 10, none⟩ = some (.pointer (some ⟨gd, 0, none⟩)) := (blk_cell (HB.out.below hB) 10).trans rfl
      clear hB
      go_simp
    refine steps_cons (fun a1 w1 hB hsz hdf hn hd => ⟨_, rfl, fun K hK => ?_⟩) ?_
    · obtain ⟨v6, h6, rfl⟩ := hd 3 6 rfl (by kernel_rfl)
      have e6 := eval_of h6
      clear h6
      refine goes_ Try.func44 (by kernel_rfl) rfl #[.pointer (some ⟨gd, 0, none⟩)] (by rfl) rfl rfl (by simp only [List.map_toArray, List.map_cons, List.map_nil, e6]) ?_
      refine (gsectors0 (HD.out.below hB)).mono ?_
      rintro e w2 ⟨rfl, hbw⟩
      exact ⟨_, rfl, hK _ _ hbw rfl⟩
    refine steps_cons (fun a1 w1 hB hsz hdf hn hd => ⟨_, rfl, fun K hK => ?_⟩) ?_
    · have e0 := eval_of ((hn 0 rfl).trans rfl)
      refine value_ (v := .pointer (some ⟨gb, 0, none⟩)) (w1 := w1) rfl rfl ?_ (hK _ _ (Below.refl _ _) rfl)
      clear hd hn hK
      simp only [execOp, Option.map_some, Option.map_none, List.map_toArray, List.map_cons, List.map_nil, List.getElem_toArray, List.getElem_cons_zero, List.getElem_cons_succ, e0]
      clear e0
      go_simp
    refine steps_cons (fun a1 w1 hB hsz hdf hn hd => ⟨_, rfl, fun K hK => ?_⟩) ?_
    · obtain ⟨v8, h8, rfl⟩ := hd 5 8 rfl (by kernel_rfl)
      have e8 := eval_of h8
      clear h8
      refine value_ (v := .pointer (some ⟨gb, 0, none⟩)) (w1 := w1) rfl rfl ?_ (hK _ _ (Below.refl _ _) rfl)
      clear hd hn hK
      simp only [execOp, Option.map_some, Option.map_none, List.map_toArray, List.map_cons, List.map_nil, List.getElem_toArray, List.getElem_cons_zero, List.getElem_cons_succ, e8]
      clear e8
      go_simp
    refine steps_cons (fun a1 w1 hB hsz hdf hn hd => ⟨_, rfl, fun K hK => ?_⟩) ?_
    · obtain ⟨v9, h9, rfl⟩ := hd 6 9 rfl (by kernel_rfl)
      have e9 := eval_of h9
      clear h9
      refine value_ (v := .pointer (some ⟨gb, 0, none⟩)) (w1 := w1) rfl rfl ?_ (hK _ _ (Below.refl _ _) rfl)
      clear hd hn hK
      simp only [execOp, Option.map_some, Option.map_none, List.map_toArray, List.map_cons, List.map_nil, List.getElem_toArray, List.getElem_cons_zero, List.getElem_cons_succ, e9]
      clear e9
      go_simp
    refine steps_cons (fun a1 w1 hB hsz hdf hn hd => ⟨_, rfl, fun K hK => ?_⟩) ?_
    · obtain ⟨v10, h10, rfl⟩ := hd 7 10 rfl (by kernel_rfl)
      have e10 := eval_of h10
      clear h10
      refine value_ (v := .pointer (some ⟨gb, 9, none⟩)) (w1 := w1) rfl rfl ?_ (hK _ _ (Below.refl _ _) rfl)
      clear hd hn hK
      simp only [execOp, Option.map_some, Option.map_none, List.map_toArray, List.map_cons, List.map_nil, List.getElem_toArray, List.getElem_cons_zero, List.getElem_cons_succ, e10]
      clear e10
      go_simp
    refine steps_cons (fun a1 w1 hB hsz hdf hn hd => ⟨_, rfl, fun K hK => ?_⟩) ?_
    · obtain ⟨v11, h11, rfl⟩ := hd 8 11 rfl (by kernel_rfl)
      have e11 := eval_of h11
      clear h11
      refine value_ (v := .int .i64 used) (w1 := w1) rfl rfl ?_ (hK _ _ (Below.refl _ _) rfl)
      clear hd hn hK
      simp only [execOp, Option.map_some, Option.map_none, List.map_toArray, List.map_cons, List.map_nil, List.getElem_toArray, List.getElem_cons_zero, List.getElem_cons_succ, e11]
      clear e11
      have hq : w1.cell? ⟨gb, 9, none⟩ = some (.int .i64 used) := (blk_cell (HB.out.below hB) 9).trans rfl
      clear hB
      go_simp
    refine steps_cons (fun a1 w1 hB hsz hdf hn hd => ⟨_, rfl, fun K hK => ?_⟩) ?_
    · obtain ⟨v7, h7, rfl⟩ := hd 4 7 rfl (by kernel_rfl)
      have e7 := eval_of h7
      clear h7
      obtain ⟨v12, h12, rfl⟩ := hd 9 12 rfl (by kernel_rfl)
      have e12 := eval_of h12
      clear h12
      refine value_ (v := .int .i64 ((n : Int) - used)) (w1 := w1) rfl rfl ?_ (hK _ _ (Below.refl _ _) rfl)
      clear hd hn hK
      simp only [execOp, Option.map_some, Option.map_none, List.map_toArray, List.map_cons, List.map_nil, List.getElem_toArray, List.getElem_cons_zero, List.getElem_cons_succ, e7, e12]
      clear e7 e12
      have hq : IntKind.i64.wrap ((n : Int) - used) = (n : Int) - used := by rw [i64_w]; unfold wrap64; omega
      clear hB
      go_simp
    refine steps_cons (fun a1 w1 hB hsz hdf hn hd => ⟨_, rfl, fun K hK => ?_⟩) ?_
    · obtain ⟨v13, h13, rfl⟩ := hd 10 13 rfl (by kernel_rfl)
      have e13 := eval_of h13
      clear h13
      refine value_ (v := .int .i64 ((n : Int) - used)) (w1 := w1) rfl rfl ?_ (hK _ _ (Below.refl _ _) rfl)
      clear hd hn hK
      simp only [execOp, Option.map_some, Option.map_none, List.map_toArray, List.map_cons, List.map_nil, List.getElem_toArray, List.getElem_cons_zero, List.getElem_cons_succ, e13]
      clear e13
      go_simp
    exact steps_nil
  case stab => exact fun j v w w' h _ => by revert h; unfold roomRel; split <;> exact id
  case rend =>
    intro vals w1 hB hrr
    have hl : vals 11 = .int .i64 ((n : Int) - used) := hrr (11, 2) (by simp)
    have HBB := Aside0.mk hB
    clear hrr hB
    simp only [fill, Act.put, List.setIfInBounds_toArray, List.set_cons_zero, List.set_cons_succ, hl]
    go_wp2
    go_ret
    exact ⟨rfl, HBB.out⟩
set_option maxHeartbeats 4000000 in
set_option maxRecDepth 100000 in
theorem has_calls (W : World) (gb gd : Nat) (e0 : Value) (used falls o : Int) (hb : BookAt W gb gd e0 used falls) (h0 : 0 ≤ o) (h1 : o < 2) :
    Calls Try.prog 112 #[.pointer (some ⟨gb, 0, none⟩), .int .i64 o] W fun e W' => e = .returned (.bool true) ∧ Below W.heap.size W W' := by
  have c0 : W.cell? ⟨gb, 0, none⟩ = some (.int .i64 2) := (blk_cell hb 0).trans rfl
  have b0 : decide (0 ≤ o) = true := by simp; omega
  have b1 : decide (o < 2) = true := by simp; omega
  clear hb
  go_enter Try.func112, Try.ntmps112
  go_wp2
  go_ret
  exact ⟨rfl, by repeat (first | exact Below.refl _ _ | apply below_drew | apply pw_below_drewN | apply below_drew1)⟩
set_option maxHeartbeats 4000000 in
set_option maxRecDepth 100000 in
theorem bup_calls (W : World) (S : Nat → Prop) (gb gd n k : Nat) (e0 : Value) (used f : Int) (hb : BookAt W gb gd e0 used f) (hd : GD W S gd n f k) :
    Calls Try.prog 111 #[.pointer (some ⟨gb, 0, none⟩)] W fun e W' => e = .returned (.tuple #[]) ∧ Below W.heap.size W W' := by
  have c10 : W.cell? ⟨gb, 10, none⟩ = some (.pointer (some ⟨gd, 0, none⟩)) := (blk_cell hb 10).trans rfl
  have c11 : W.cell? ⟨gb, 11, none⟩ = some (.int .i64 f) := (blk_cell hb 11).trans rfl
  have c5 : W.cell? ⟨gd, 5, none⟩ = some (.int .i64 f) := hd.fallsC
  clear hb hd
  go_enter Try.func111, Try.ntmps111
  go_wp2
  go_region
  all_goals go_wp2
  all_goals go_end0
  all_goals exact ⟨rfl, by repeat (first | exact Below.refl _ _ | apply below_drew | apply pw_below_drewN | apply below_drew1)⟩
end Go.Proofs.Ytkedodmlbepfnaa.Lg

-- from the working text Ro
namespace Go.Proofs.Ytkedodmlbepfnaa.Rg
open Go.RowKit Go.Proofs.YtkedodmlbepfnaaW.PrintWords Go.Proofs.YtkedodmlbepfnaaW.PrintLast Go.Proofs.YtkedodmlbepfnaaW.PrintMore
section
variable {P : Program} {ops : Array Oper} {Q : Exit → Act → World → Prop} {T : Bool × List (List Nat × List Nat)} {n : Nat} {a0 : Act} {w0 : World}
/-- m waits for all. -/
def lastOne (B : List Nat) (O : List Nat) (m : Nat) : Bool := O.contains m && O.all (fun i => i == m || (B.getD m 0).testBit i)
theorem rg5_ {id : Nat} (m : Nat) (O : List Nat) (D : List (Nat × Tmp)) (B : List Nat) (rel : Nat → Value → World → Prop) (post : Value → World → Prop)
    (hm : P.follows .mixedOrders = true) (hT : rtab .any ops = T) (hw : waitsOk T.2 B = true) (hn : ops.size = n)
    (hk : (baseOk T.2 O && dOk ops O D a0.tmps.size && (lof T.2.length O (fun _ => false) == (Array.replicate n false).toList && O.length == n) && lastOne B O m) = true)
    (hst : ∀ i v w w', rel i v w → Below w.heap.size w w' → rel i v w')
    (hs : ∀ i ∈ O, i = m ∨ Step P ops Q B D rel a0 w0 i)
    (h1 : ∀ a w, Below w0.heap.size w0 w → (∀ t, (D.all fun e => !(e.2 == t)) = true → a.tmps[t]? = a0.tmps[t]?) → (∀ j t, D.contains (j, t) = true → (!(j == m)) = true → ∃ v, a.tmps[t]? = some v ∧ rel j v w) →
      ∃ oi, ops[m]? = some oi ∧ ∀ K : Act → World → Prop, (∀ v w1, post v w1 → K (a.put oi.dst v) w1) → if Region.wanted oi (yielded ops a.tmps) = true then Oper.wp P oi a w K Q else K (a.put oi.dst undef) w)
    (hend : ∀ (vals : Nat → Value) (w : World), post (vals m) w → Q .normal (fill a0 vals D) w) :
    (Code.region id ops true).wp P Q a0 w0 := by
  simp only [Bool.and_eq_true] at hk
  obtain ⟨⟨⟨hk1, hk2⟩, hk3⟩, hk4⟩ := hk
  refine start_ (n := n) (S := fun _ => True) (ds := []) (Array.replicate n false) hm hn rfl trivial fun _ => ?_
  have hb0 : Below w0.heap.size w0 w0.drew := below_drew (Below.refl _ _)
  revert hb0
  generalize w0.drew = w
  intro hb0
  simp only [dOk, Bool.and_eq_true] at hk2
  obtain ⟨⟨⟨hD1, hD2⟩, hD3⟩, hD4⟩ := hk2
  have hD2 := of_decide_eq_true hD2
  have hD3 := of_decide_eq_true hD3
  simp only [lastOne, Bool.and_eq_true] at hk4
  obtain ⟨hmO, hwait⟩ := hk4
  have hwt : ∀ i, O.contains i = true → i ≠ m → (B.getD m 0).testBit i = true := by
    intro i hi h1
    have h := List.all_eq_true.1 hwait i (List.contains_iff_mem.1 hi)
    simp only [Bool.or_eq_true, beq_iff_eq] at h
    exact h.resolve_left h1
  have hmemO : ∀ j t, D.contains (j, t) = true → O.contains j = true := fun j t hjt => by
    have h1 := List.all_eq_true.1 hD1 (j, t) (List.contains_iff_mem.1 hjt)
    simp only [Bool.and_eq_true] at h1
    exact h1.2
  refine inv_ O (fun b a w => ∃ vals : Nat → Value, a = putSel a0 b (ent vals D) ∧ (b m = false → Below w0.heap.size w0 w ∧ ∀ i, O.contains i = true → b i = true → i ≠ m → rel i (vals i) w) ∧ (b m = true → post (vals m) w)) hT hw hk1 (by rw [Bool.and_eq_true]; exact hk3) ?_ ?_ ?_
  · refine ⟨fun _ => undef, ?_, fun _ => ⟨hb0, fun i _ h => by cases h⟩, fun h => by cases h⟩
    have : ∀ (D : List (Nat × Tmp)) (a : Act), a = putSel a (fun _ => false) (ent (fun _ => undef) D) := by
      intro D
      induction D with
      | nil => intro a; rfl
      | cons e r ih => intro a; exact ih a
    exact this D a0
  · intro i hi b a w hI hbi hneed hafter
    obtain ⟨vals, ha, hA, hB⟩ := hI
    have hsz := putSel_size b (ent vals D) a0
    rw [← ha] at hsz
    have hiO : O.contains i = true := List.contains_iff_mem.2 hi
    have hoff : ∀ t, (D.all fun e => !(e.2 == t)) = true → a.tmps[t]? = a0.tmps[t]? := fun t ht => by
      rw [ha]
      refine putSel_off ?_
      unfold ent
      rw [List.all_map]
      exact ht
    by_cases hi1 : i = m
    · subst hi1
      obtain ⟨hbw, hrel⟩ := hA hbi
      obtain ⟨oi, hoi, hstep⟩ := h1 a w hbw hoff (fun j t hjt hne => by
        simp only [Bool.not_eq_true', beq_eq_false_iff_ne] at hne
        have hbj := hneed j (by rw [Bool.and_eq_true]; exact ⟨hmemO j t hjt, hwt j (hmemO j t hjt) hne⟩)
        refine ⟨vals j, ?_, hrel j (hmemO j t hjt) hbj hne⟩
        rw [ha]
        exact slot_of hD1 hD2 (List.contains_iff_mem.1 hjt) hbj)
      refine ⟨oi, hoi, fun K hK => hstep K fun v w1 hv => hK _ _ ⟨fun j => if j = i then v else vals j, ?_, fun h => ?_, fun _ => ?_⟩⟩
      · rw [ha]; exact put_of hD2 hD3 hoi hi hbi hD4
      · rw [up_self] at h; cases h
      · simp only [if_true]; exact hv
    · have hb1 : b m = false := hafter m (by rw [Bool.and_eq_true]; exact ⟨hmO, hwt i hiO hi1⟩)
      obtain ⟨hbw, hrel⟩ := hA hb1
      obtain ⟨oi, hoi, hstep⟩ := ((hs i hi).resolve_left hi1) a w hbw hsz.1 hsz.2 hoff (fun j t hjt hbit => by
        have hbj := hneed j (by rw [Bool.and_eq_true]; exact ⟨hmemO j t hjt, hbit⟩)
        have hj1 : j ≠ m := fun h => by subst h; rw [hb1] at hbj; cases hbj
        refine ⟨vals j, ?_, hrel j (hmemO j t hjt) hbj hj1⟩
        rw [ha]
        exact slot_of hD1 hD2 (List.contains_iff_mem.1 hjt) hbj)
      refine ⟨oi, hoi, fun K hK => hstep K fun v w1 hbw1 hrv => hK _ _ ⟨fun j => if j = i then v else vals j, ?_, fun _ => ⟨below_step hbw hbw1, fun j hj hbj hj1 => ?_⟩, fun h => ?_⟩⟩
      · rw [ha]; exact put_of hD2 hD3 hoi hi hbi hD4
      · by_cases hji : j = i
        · subst hji; simp only [if_true]; exact hrv
        · simp only [if_neg hji]
          rw [up_ne hji] at hbj
          exact hst j _ _ _ (hrel j hj hbj hj1) hbw1
      · rw [up_ne (Ne.symm hi1), hb1] at h; cases h
  · intro b a w hall hI
    obtain ⟨vals, ha, _, hB⟩ := hI
    have hmm : ∀ e ∈ D, O.contains e.1 = true := fun e he => by
      have h1 := List.all_eq_true.1 hD1 e he
      simp only [Bool.and_eq_true] at h1
      exact h1.2
    rw [ha, fill_eq vals D a0 fun e he => hall e.1 (hmm e he)]
    exact hend vals w (hB (hall m hmO))
theorem steps5_nil {B : List Nat} {D : List (Nat × Tmp)} {rel : Nat → Value → World → Prop} {m : Nat} : ∀ i ∈ ([] : List Nat), i = m ∨ Step P ops Q B D rel a0 w0 i := fun _ h => by cases h
theorem steps5_cons {B : List Nat} {D : List (Nat × Tmp)} {rel : Nat → Value → World → Prop} {m i : Nat} {rs : List Nat} (h : Step P ops Q B D rel a0 w0 i) (hs : ∀ j ∈ rs, j = m ∨ Step P ops Q B D rel a0 w0 j) : ∀ j ∈ i :: rs, j = m ∨ Step P ops Q B D rel a0 w0 j := fun j hj => by
  rcases List.mem_cons.1 hj with rfl | hj
  · exact .inr h
  · exact hs j hj
theorem steps5_m {B : List Nat} {D : List (Nat × Tmp)} {rel : Nat → Value → World → Prop} {m : Nat} {rs : List Nat} (hs : ∀ j ∈ rs, j = m ∨ Step P ops Q B D rel a0 w0 j) : ∀ j ∈ m :: rs, j = m ∨ Step P ops Q B D rel a0 w0 j := fun j hj => by
  rcases List.mem_cons.1 hj with rfl | hj
  · exact .inl rfl
  · exact hs j hj
end
end Go.Proofs.Ytkedodmlbepfnaa.Rg
