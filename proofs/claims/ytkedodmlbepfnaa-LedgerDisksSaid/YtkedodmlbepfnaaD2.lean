/- Contracts of the ledger's functions (part 2): what each of them answers and leaves, merged by program out of the session's working texts. No condition beyond those that stand in each. -/
import Derived.Test.YtkedodmlbepfnaaD1
-- from the working text Rm
namespace Go.Proofs.Ytkedodmlbepfnaa.Rg
open Go.RowKit Go.Proofs.YtkedodmlbepfnaaW.PrintWords Go.Proofs.YtkedodmlbepfnaaW.PrintLast Go.Proofs.YtkedodmlbepfnaaW.PrintMore
section
variable {P : Program} {ops : Array Oper} {Q : Exit → Act → World → Prop} {T : Bool × List (List Nat × List Nat)} {n : Nat} {a0 : Act} {w0 : World}
/-- m1 waits for all but m2 and the loose ones L, m2 for all. -/
def lastTwoL (B : List Nat) (O L : List Nat) (m1 m2 : Nat) : Bool :=
  O.contains m1 && O.contains m2 && !(m1 == m2) && O.all (fun i => i == m1 || i == m2 || (((B.getD m1 0).testBit i || L.contains i) && (B.getD m2 0).testBit i)) && (B.getD m2 0).testBit m1
/-- The step of an operation that neither reads nor writes memory. -/
def Loose (P : Program) (ops : Array Oper) (Q : Exit → Act → World → Prop) (B : List Nat) (D : List (Nat × Tmp)) (rel : Nat → Value → World → Prop) (st : Nat → Value → Prop) (a0 : Act) (m1 m2 i : Nat) : Prop :=
  ∀ a w, (∀ t, (D.all fun e => !(e.2 == t)) = true → a.tmps[t]? = a0.tmps[t]?) →
    (∀ j t, D.contains (j, t) = true → ((B.getD i 0).testBit j && !(j == m1) && !(j == m2)) = true → ∃ v, a.tmps[t]? = some v ∧ st j v) →
    ∃ oi, ops[i]? = some oi ∧ ∀ K : Act → World → Prop, (∀ v, (∀ w', rel i v w') → K (a.put oi.dst v) w) → if Region.wanted oi (yielded ops a.tmps) = true then Oper.wp P oi a w K Q else K (a.put oi.dst undef) w
theorem rg4_ {id : Nat} (m1 m2 : Nat) (O L : List Nat) (D : List (Nat × Tmp)) (B : List Nat) (rel : Nat → Value → World → Prop) (st : Nat → Value → Prop) (post1 post2 : Value → World → Prop)
    (hm : P.follows .mixedOrders = true) (hT : rtab .any ops = T) (hw : waitsOk T.2 B = true) (hn : ops.size = n)
    (hk : (baseOk T.2 O && dOk ops O D a0.tmps.size && (lof T.2.length O (fun _ => false) == (Array.replicate n false).toList && O.length == n) && lastTwoL B O L m1 m2) = true)
    (hst : ∀ i v w w', rel i v w → Below w.heap.size w w' → rel i v w') (hrs : ∀ i v w, rel i v w → st i v)
    (hs : ∀ i ∈ O, i = m1 ∨ i = m2 ∨ if L.contains i = true then Loose P ops Q B D rel st a0 m1 m2 i else Step P ops Q B D rel a0 w0 i)
    (h1 : ∀ a w, Below w0.heap.size w0 w → (∀ t, (D.all fun e => !(e.2 == t)) = true → a.tmps[t]? = a0.tmps[t]?) → (∀ j t, D.contains (j, t) = true → ((B.getD m1 0).testBit j && !(j == m1) && !(j == m2)) = true → ∃ v, a.tmps[t]? = some v ∧ rel j v w) →
      ∃ oi, ops[m1]? = some oi ∧ ∀ K : Act → World → Prop, (∀ v w1, post1 v w1 → K (a.put oi.dst v) w1) → if Region.wanted oi (yielded ops a.tmps) = true then Oper.wp P oi a w K Q else K (a.put oi.dst undef) w)
    (h2 : ∀ a w, (∀ t, (D.all fun e => !(e.2 == t)) = true → a.tmps[t]? = a0.tmps[t]?) → (∀ j t, D.contains (j, t) = true → (!(j == m1) && !(j == m2)) = true → ∃ v, a.tmps[t]? = some v ∧ st j v) → (∃ v, post1 v w ∧ ∀ t, D.contains (m1, t) = true → a.tmps[t]? = some v) →
      ∃ oi, ops[m2]? = some oi ∧ ∀ K : Act → World → Prop, (∀ v w1, post2 v w1 → K (a.put oi.dst v) w1) → if Region.wanted oi (yielded ops a.tmps) = true then Oper.wp P oi a w K Q else K (a.put oi.dst undef) w)
    (hend : ∀ (vals : Nat → Value) (w : World), post2 (vals m2) w → (∀ e ∈ D, e.1 ≠ m1 → e.1 ≠ m2 → st e.1 (vals e.1)) → Q .normal (fill a0 vals D) w) :
    (Code.region id ops true).wp P Q a0 w0 := by
  simp only [Bool.and_eq_true] at hk
  obtain ⟨⟨⟨hk1, hk2⟩, hk3⟩, hk4⟩ := hk
  refine start_ (n := n) (S := fun _ => True) (ds := []) (Array.replicate n false) hm hn rfl trivial fun _ => ?_
  have hb0 : Below w0.heap.size w0 w0.drew := below_drew (Below.refl _ _)
  revert hb0
  generalize w0.drew = w
  intro hb0
  simp only [dOk, Bool.and_eq_true] at hk2
  obtain ⟨⟨⟨hD1, hD2⟩, hD3⟩, hD4⟩ := hk2
  have hD2 := of_decide_eq_true hD2
  have hD3 := of_decide_eq_true hD3
  simp only [lastTwoL, Bool.and_eq_true, Bool.not_eq_true', beq_eq_false_iff_ne] at hk4
  obtain ⟨⟨⟨⟨hm1O, hm2O⟩, hmne⟩, hwait⟩, hm21⟩ := hk4
  have hwt : ∀ i, O.contains i = true → i ≠ m1 → i ≠ m2 → (L.contains i = false → (B.getD m1 0).testBit i = true) ∧ (B.getD m2 0).testBit i = true := by
    intro i hi h1 h2
    have h := List.all_eq_true.1 hwait i (List.contains_iff_mem.1 hi)
    simp only [Bool.or_eq_true, beq_iff_eq, Bool.and_eq_true] at h
    rcases h with (h | h) | h
    · exact absurd h h1
    · exact absurd h h2
    · refine ⟨fun hL => ?_, h.2⟩
      rcases h.1 with h | h
      · exact h
      · rw [hL] at h; cases h
  have hmemO : ∀ j t, D.contains (j, t) = true → O.contains j = true := fun j t hjt => by
    have h1 := List.all_eq_true.1 hD1 (j, t) (List.contains_iff_mem.1 hjt)
    simp only [Bool.and_eq_true] at h1
    exact h1.2
  refine inv_ O (fun b a w => ∃ vals : Nat → Value, a = putSel a0 b (ent vals D) ∧ (b m1 = false → Below w0.heap.size w0 w ∧ ∀ i, O.contains i = true → b i = true → i ≠ m1 → i ≠ m2 → rel i (vals i) w) ∧
    (b m1 = true → (∀ i, O.contains i = true → b i = true → i ≠ m1 → i ≠ m2 → st i (vals i)) ∧ (b m2 = false → post1 (vals m1) w) ∧ (b m2 = true → post2 (vals m2) w))) hT hw hk1 (by rw [Bool.and_eq_true]; exact hk3) ?_ ?_ ?_
  · refine ⟨fun _ => undef, ?_, fun _ => ⟨hb0, fun i _ h => by cases h⟩, fun h => by cases h⟩
    have : ∀ (D : List (Nat × Tmp)) (a : Act), a = putSel a (fun _ => false) (ent (fun _ => undef) D) := by
      intro D
      induction D with
      | nil => intro a; rfl
      | cons e r ih => intro a; exact ih a
    exact this D a0
  · intro i hi b a w hI hbi hneed hafter
    obtain ⟨vals, ha, hA, hB⟩ := hI
    have hsz := putSel_size b (ent vals D) a0
    rw [← ha] at hsz
    have hiO : O.contains i = true := List.contains_iff_mem.2 hi
    have hoff : ∀ t, (D.all fun e => !(e.2 == t)) = true → a.tmps[t]? = a0.tmps[t]? := fun t ht => by
      rw [ha]
      refine putSel_off ?_
      unfold ent
      rw [List.all_map]
      exact ht
    by_cases hi2 : i = m2
    · subst hi2
      have hbm1 : b m1 = true := hneed m1 (by rw [Bool.and_eq_true]; exact ⟨hm1O, hm21⟩)
      obtain ⟨hstt, hp1, _⟩ := hB hbm1
      obtain ⟨oi, hoi, hstep⟩ := h2 a w hoff (fun j t hjt hne => by
        simp only [Bool.and_eq_true, Bool.not_eq_true', beq_eq_false_iff_ne] at hne
        have hbj := hneed j (by rw [Bool.and_eq_true]; exact ⟨hmemO j t hjt, (hwt j (hmemO j t hjt) hne.1 hne.2).2⟩)
        refine ⟨vals j, ?_, hstt j (hmemO j t hjt) hbj hne.1 hne.2⟩
        rw [ha]
        exact slot_of hD1 hD2 (List.contains_iff_mem.1 hjt) hbj)
        ⟨vals m1, hp1 hbi, fun t ht => by rw [ha]; exact slot_of hD1 hD2 (List.contains_iff_mem.1 ht) hbm1⟩
      refine ⟨oi, hoi, fun K hK => hstep K fun v w1 hv => hK _ _ ⟨fun j => if j = i then v else vals j, ?_, fun h => ?_, fun _ => ⟨fun j hj hbj hj1 hj2 => ?_, fun h => ?_, fun _ => ?_⟩⟩⟩
      · rw [ha]; exact put_of hD2 hD3 hoi hi hbi hD4
      · rw [up_ne hmne, hbm1] at h; cases h
      · simp only [if_neg hj2]; exact hstt j hj (by rw [up_ne hj2] at hbj; exact hbj) hj1 hj2
      · rw [up_self] at h; cases h
      · simp only [if_true]; exact hv
    · have hb2 : b m2 = false := hafter m2 (by
        rw [Bool.and_eq_true]
        refine ⟨hm2O, ?_⟩
        by_cases hi1 : i = m1
        · subst hi1; exact hm21
        · exact (hwt i hiO hi1 hi2).2)
      by_cases hi1 : i = m1
      · subst hi1
        obtain ⟨hbw, hrel⟩ := hA hbi
        obtain ⟨oi, hoi, hstep⟩ := h1 a w hbw hoff (fun j t hjt hne => by
          simp only [Bool.and_eq_true, Bool.not_eq_true', beq_eq_false_iff_ne] at hne
          have hbj := hneed j (by rw [Bool.and_eq_true]; exact ⟨hmemO j t hjt, hne.1.1⟩)
          refine ⟨vals j, ?_, hrel j (hmemO j t hjt) hbj hne.1.2 hne.2⟩
          rw [ha]
          exact slot_of hD1 hD2 (List.contains_iff_mem.1 hjt) hbj)
        refine ⟨oi, hoi, fun K hK => hstep K fun v w1 hv => hK _ _ ⟨fun j => if j = i then v else vals j, ?_, fun h => ?_, fun _ => ⟨fun j hj hbj hj1 hj2 => ?_, fun _ => ?_, fun h => ?_⟩⟩⟩
        · rw [ha]; exact put_of hD2 hD3 hoi hi hbi hD4
        · rw [up_self] at h; cases h
        · simp only [if_neg hj1]; exact hrs j _ w (hrel j hj (by rw [up_ne hj1] at hbj; exact hbj) hj1 hj2)
        · simp only [if_true]; exact hv
        · rw [up_ne (Ne.symm hmne), hb2] at h; cases h
      · by_cases hL : L.contains i = true
        · have hsi : Loose P ops Q B D rel st a0 m1 m2 i := by
            rcases hs i hi with h | h | h
            · exact absurd h hi1
            · exact absurd h hi2
            · rw [if_pos hL] at h; exact h
          have hstt : ∀ j, O.contains j = true → b j = true → j ≠ m1 → j ≠ m2 → st j (vals j) := by
            intro j hj hbj hj1 hj2
            cases hb1 : b m1 with
            | false => exact hrs j _ w ((hA hb1).2 j hj hbj hj1 hj2)
            | true => exact (hB hb1).1 j hj hbj hj1 hj2
          obtain ⟨oi, hoi, hstep⟩ := hsi a w hoff (fun j t hjt hbit => by
            simp only [Bool.and_eq_true, Bool.not_eq_true', beq_eq_false_iff_ne] at hbit
            have hbj := hneed j (by rw [Bool.and_eq_true]; exact ⟨hmemO j t hjt, hbit.1.1⟩)
            refine ⟨vals j, ?_, hstt j (hmemO j t hjt) hbj hbit.1.2 hbit.2⟩
            rw [ha]
            exact slot_of hD1 hD2 (List.contains_iff_mem.1 hjt) hbj)
          refine ⟨oi, hoi, fun K hK => hstep K fun v hrv => hK _ _ ⟨fun j => if j = i then v else vals j, ?_, fun h => ?_, fun h => ?_⟩⟩
          · rw [ha]; exact put_of hD2 hD3 hoi hi hbi hD4
          · rw [up_ne (Ne.symm hi1)] at h
            obtain ⟨hbw, hrel⟩ := hA h
            refine ⟨hbw, fun j hj hbj hj1 hj2 => ?_⟩
            by_cases hji : j = i
            · subst hji; simp only [if_true]; exact hrv w
            · simp only [if_neg hji]
              rw [up_ne hji] at hbj
              exact hrel j hj hbj hj1 hj2
          · rw [up_ne (Ne.symm hi1)] at h
            obtain ⟨_, hp1, hp2⟩ := hB h
            refine ⟨fun j hj hbj hj1 hj2 => ?_, fun h2 => ?_, fun h2 => ?_⟩
            · by_cases hji : j = i
              · subst hji; simp only [if_true]; exact hrs j v w (hrv w)
              · simp only [if_neg hji]
                rw [up_ne hji] at hbj
                exact hstt j hj hbj hj1 hj2
            · simp only [if_neg (Ne.symm hi1)]; exact hp1 hb2
            · rw [up_ne (Ne.symm hi2), hb2] at h2; cases h2
        · have hLf : L.contains i = false := by simpa using hL
          have hb1 : b m1 = false := hafter m1 (by rw [Bool.and_eq_true]; exact ⟨hm1O, (hwt i hiO hi1 hi2).1 hLf⟩)
          obtain ⟨hbw, hrel⟩ := hA hb1
          have hsi : Step P ops Q B D rel a0 w0 i := by
            rcases hs i hi with h | h | h
            · exact absurd h hi1
            · exact absurd h hi2
            · rw [if_neg hL] at h; exact h
          obtain ⟨oi, hoi, hstep⟩ := hsi a w hbw hsz.1 hsz.2 hoff (fun j t hjt hbit => by
            have hbj := hneed j (by rw [Bool.and_eq_true]; exact ⟨hmemO j t hjt, hbit⟩)
            have hj1 : j ≠ m1 := fun h => by subst h; rw [hb1] at hbj; cases hbj
            have hj2 : j ≠ m2 := fun h => by subst h; rw [hb2] at hbj; cases hbj
            refine ⟨vals j, ?_, hrel j (hmemO j t hjt) hbj hj1 hj2⟩
            rw [ha]
            exact slot_of hD1 hD2 (List.contains_iff_mem.1 hjt) hbj)
          refine ⟨oi, hoi, fun K hK => hstep K fun v w1 hbw1 hrv => hK _ _ ⟨fun j => if j = i then v else vals j, ?_, fun _ => ⟨below_step hbw hbw1, fun j hj hbj hj1 hj2 => ?_⟩, fun h => ?_⟩⟩
          · rw [ha]; exact put_of hD2 hD3 hoi hi hbi hD4
          · by_cases hji : j = i
            · subst hji; simp only [if_true]; exact hrv
            · simp only [if_neg hji]
              rw [up_ne hji] at hbj
              exact hst j _ _ _ (hrel j hj hbj hj1 hj2) hbw1
          · rw [up_ne (Ne.symm hi1), hb1] at h; cases h
  · intro b a w hall hI
    obtain ⟨vals, ha, _, hB⟩ := hI
    have hm : ∀ e ∈ D, O.contains e.1 = true := fun e he => by
      have h1 := List.all_eq_true.1 hD1 e he
      simp only [Bool.and_eq_true] at h1
      exact h1.2
    obtain ⟨hstt, _, hp2⟩ := hB (hall m1 hm1O)
    rw [ha, fill_eq vals D a0 fun e he => hall e.1 (hm e he)]
    exact hend vals w (hp2 (hall m2 hm2O)) fun e he h1 h2 => hstt e.1 (hm e he) (hall e.1 (hm e he)) h1 h2
section
variable {B : List Nat} {D : List (Nat × Tmp)} {rel : Nat → Value → World → Prop} {st : Nat → Value → Prop} {m1 m2 : Nat} {L : List Nat}
/-- One of the steps of rg4_. -/
def Step4 (P : Program) (ops : Array Oper) (Q : Exit → Act → World → Prop) (B : List Nat) (D : List (Nat × Tmp)) (rel : Nat → Value → World → Prop) (st : Nat → Value → Prop) (a0 : Act) (w0 : World) (L : List Nat) (m1 m2 i : Nat) : Prop :=
  i = m1 ∨ i = m2 ∨ if L.contains i = true then Loose P ops Q B D rel st a0 m1 m2 i else Step P ops Q B D rel a0 w0 i
theorem steps4_nil : ∀ i ∈ ([] : List Nat), Step4 P ops Q B D rel st a0 w0 L m1 m2 i := fun _ h => by cases h
theorem steps4_cons {i : Nat} {rs : List Nat} (hL : L.contains i = false) (h : Step P ops Q B D rel a0 w0 i) (hs : ∀ j ∈ rs, Step4 P ops Q B D rel st a0 w0 L m1 m2 j) : ∀ j ∈ i :: rs, Step4 P ops Q B D rel st a0 w0 L m1 m2 j := fun j hj => by
  rcases List.mem_cons.1 hj with rfl | hj
  · exact .inr (.inr (by rw [if_neg (by rw [hL]; simp)]; exact h))
  · exact hs j hj
theorem steps4_loose {i : Nat} {rs : List Nat} (hL : L.contains i = true) (h : Loose P ops Q B D rel st a0 m1 m2 i) (hs : ∀ j ∈ rs, Step4 P ops Q B D rel st a0 w0 L m1 m2 j) : ∀ j ∈ i :: rs, Step4 P ops Q B D rel st a0 w0 L m1 m2 j := fun j hj => by
  rcases List.mem_cons.1 hj with rfl | hj
  · exact .inr (.inr (by rw [if_pos hL]; exact h))
  · exact hs j hj
theorem steps4_m1 {rs : List Nat} (hs : ∀ j ∈ rs, Step4 P ops Q B D rel st a0 w0 L m1 m2 j) : ∀ j ∈ m1 :: rs, Step4 P ops Q B D rel st a0 w0 L m1 m2 j := fun j hj => by
  rcases List.mem_cons.1 hj with rfl | hj
  · exact .inl rfl
  · exact hs j hj
theorem steps4_m2 {rs : List Nat} (hs : ∀ j ∈ rs, Step4 P ops Q B D rel st a0 w0 L m1 m2 j) : ∀ j ∈ m2 :: rs, Step4 P ops Q B D rel st a0 w0 L m1 m2 j := fun j hj => by
  rcases List.mem_cons.1 hj with rfl | hj
  · exact .inr (.inl rfl)
  · exact hs j hj
end
end
end Go.Proofs.Ytkedodmlbepfnaa.Rg

-- from the working text Wt
set_option linter.unusedSimpArgs false
set_option linter.unusedVariables false
namespace Go.Proofs.Ytkedodmlbepfnaa.Lg
open Go.RowKit Go.Proofs.YtkedodmlbepfnaaW.PrintWords Go.Proofs.YtkedodmlbepfnaaW.PrintLast Go.Proofs.YtkedodmlbepfnaaW.PrintMore Go.Proofs.Ytkedodmlbepfnaa.Rg
/-- Appending one write. -/
theorem append124 {w : World} {S : Nat → Prop} {v : Value} {n : Nat} {xs cs : List Value} {gl : Nat} (ty : TypeId) (h : Own w S 124 65 v n xs) (hl : w.heap[gl]? = some (.cells cs.toArray 124 (0, 0))) (hc : cs.length = 65) (h1 : ∀ u ∈ cs, u.oneCell' = true) (hn : n ≤ 1000000) :
    ∃ v' w', (Builtin.append_ #[113, 113] ty #[v, .slice (some ⟨gl, 0, none⟩) 1 1]).run Try.prog w = .ok v' w' ∧ Own w' (Nw S w) 124 65 v' (n + 1) (xs ++ cs) ∧ w.grownBy w' v.ownBlock := by
  have hz := info124z
  cases hi : Try.prog.info? 124 with
  | none => rw [hi] at hz; cases hz
  | some it =>
    rw [hi] at hz
    cases hzz : it.zero with
    | none => simp [hzz] at hz
    | some z =>
      simp [hzz] at hz
      obtain ⟨hz1, hz2, hz3⟩ := hz
      obtain ⟨v', w', hrun, hown, hg, _, hb⟩ := run_append_own_at (P := Try.prog) w 0 113 ty 124 it z 65 72 Try.underlying113 hi hzz hz2 hz3 (by rw [hz1]; show (#[Value.int .i64 0] ++ zero64).size = 65; simp [zero64]) (by omega) v n xs h.1 ⟨gl, 0, none⟩ 1 1 cs (by omega)
        (by
          intro j u hu
          rw [Addr.add_mid, Nat.zero_add, blk_cell hl j, List.getElem?_toArray]
          exact hu) h1 (by simp only [maxLen]; omega) (by omega) (Nat.zero_le _)
      refine ⟨v', w', hrun, ⟨hown, fun k hk => ?_⟩, hg⟩
      rcases hb with hb | hb
      · exact .inl (h.2 k (hb ▸ hk))
      · rw [hb] at hk
        injection hk with hk
        exact .inr (by omega)
theorem append124_step {oi : Oper} {a : Act} {w : World} {S : Nat → Prop} {s x : Operand} {v : Value} {n gl : Nat} {xs cs : List Value} (hop : oi.op = .call { callee := .builtin .append, args := #[s, x], argTypes := #[113, 113] })
    (hs : a.eval s = v) (hx : a.eval x = .slice (some ⟨gl, 0, none⟩) 1 1) (h : Own w S 124 65 v n xs) (hl : w.heap[gl]? = some (.cells cs.toArray 124 (0, 0))) (hc : cs.length = 65) (h1 : ∀ u ∈ cs, u.oneCell' = true) (hn : n ≤ 1000000) :
    ∃ v' w', (execOp a.eval oi).run Try.prog w = .ok (.value v') w' ∧ Own w' (Nw S w) 124 65 v' (n + 1) (xs ++ cs) ∧ w.grownBy w' v.ownBlock := by
  obtain ⟨v', w', hrun, hr⟩ := append124 oi.type h hl hc h1 hn
  refine ⟨v', w', ?_, hr⟩
  unfold execOp
  simp only [hop, resolve, invoke, builtin, Sem.run_bind, Sem.run_pure, Result.andThen_ok, List.map_toArray, List.map_cons, List.map_nil, hs, hx, hrun]
theorem append124_ {ops : Array Oper} {Q : Exit → Act → World → Prop} {oi : Oper} {N : Option Tmp} {a : Act} {w : World} {K : Act → World → Prop} {S : Nat → Prop} {s x : Operand} {v : Value} {n gl : Nat} {xs cs : List Value} (hw : Region.wanted oi (yielded ops a.tmps) = true) (hN : oi.dst = N)
    (hop : oi.op = .call { callee := .builtin .append, args := #[s, x], argTypes := #[113, 113] })
    (hs : a.eval s = v) (hx : a.eval x = .slice (some ⟨gl, 0, none⟩) 1 1) (h : Own w S 124 65 v n xs) (hl : w.heap[gl]? = some (.cells cs.toArray 124 (0, 0))) (hc : cs.length = 65) (h1 : ∀ u ∈ cs, u.oneCell' = true) (hn : n ≤ 1000000)
    (hk : ∀ v' w', Own w' (Nw S w) 124 65 v' (n + 1) (xs ++ cs) → w.grownBy w' v.ownBlock → K (a.put N v') w') : if Region.wanted oi (yielded ops a.tmps) = true then Oper.wp Try.prog oi a w K Q else K (a.put N undef) w := by
  obtain ⟨v', w', hrun, ho, hg⟩ := append124_step hop hs hx h hl hc h1 hn
  exact value_ hw hN hrun (hk v' w' ho hg)
theorem size113 : (Try.prog.info? 113).map (·.size) = some 1 := by kernel_rfl
set_option maxRecDepth 100000 in
theorem store_step {oi : Oper} {a : Act} {w : World} {g i n c : Nat} {A : Option Addr} {x p : Operand} {u : Value} {ty e : TypeId} (hop : oi.op = .store ty p x) (hp : a.eval p = .pointer (some ⟨g, i, none⟩)) (hx : a.eval x = .slice A n c) (hc : w.cell? ⟨g, i, none⟩ = some u) (hf : w.frozen? ⟨g, i, none⟩ = false)
    (hu : Try.prog.underlying ty = some (.slice e)) (hz : (Try.prog.info? ty).map (·.size) = some 1) : (execOp a.eval oi).run Try.prog w = .ok .skip (w.setCell ⟨g, i, none⟩ (.slice A n c)) := by
  cases hq : Try.prog.info? ty with
  | none => simp [hq] at hz
  | some it =>
    have hi : it.size = 1 := by simpa [hq] using hz
    have hso : ∀ w : World, (sizeOf ty).run Try.prog w = .ok 1 w := by
      intro w
      simp [sizeOf, typeInfo, hq, hi]
    unfold execOp
    simp only [hop, hp, hx]
    go_simp
theorem store_ {ops : Array Oper} {Q : Exit → Act → World → Prop} {oi : Oper} {a : Act} {w : World} {K : Act → World → Prop} {g i n c : Nat} {A : Option Addr} {x p : Operand} {u : Value} {ty e : TypeId} (hw : Region.wanted oi (yielded ops a.tmps) = true) (hN : oi.dst = none) (hop : oi.op = .store ty p x) (hp : a.eval p = .pointer (some ⟨g, i, none⟩)) (hx : a.eval x = .slice A n c) (hc : w.cell? ⟨g, i, none⟩ = some u) (hf : w.frozen? ⟨g, i, none⟩ = false)
    (hu : Try.prog.underlying ty = some (.slice e)) (hz : (Try.prog.info? ty).map (·.size) = some 1) (hk : K a (w.setCell ⟨g, i, none⟩ (.slice A n c))) : if Region.wanted oi (yielded ops a.tmps) = true then Oper.wp Try.prog oi a w K Q else K (a.put none undef) w :=
  skip_ hw hN (store_step hop hp hx hc hf hu hz) hk
theorem Own.grown {w w1 : World} {S : Nat → Prop} {e : TypeId} {size n : Nat} {v : Value} {xs : List Value} {row : Option Nat} (h : Own w S e size v n xs) (hg : w.grownBy w1 row) (hr : row = none ∨ v.ownBlock ≠ row) : Own w1 S e size v n xs := by
  refine ⟨⟨h.1.1, ?_⟩, h.2⟩
  rcases h.1.2 with h2 | ⟨g, cap, cur, hv, hb, hh, r⟩
  · exact .inl h2
  · refine .inr ⟨g, cap, cur, hv, hb, (hg.block g (blk_lt hh) (fun e' => ?_)).trans hh, r⟩
    rcases hr with hr | hr
    · rw [hr] at e'; cases e'
    · exact hr (by rw [hv, ← e']; rfl)
/-- Two rows of different types lie in different blocks. -/
theorem Own.apart {w : World} {S S' : Nat → Prop} {e e' : TypeId} {size size' n n' : Nat} {v v' : Value} {xs xs' : List Value} (h : Own w S e size v n xs) (h' : Own w S' e' size' v' n' xs') (hne : e ≠ e') : v'.ownBlock = none ∨ v.ownBlock ≠ v'.ownBlock := by
  cases hv : v'.ownBlock with
  | none => exact .inl rfl
  | some k =>
    refine .inr fun hk => ?_
    obtain ⟨c1, hc1⟩ := own_typed h'.1 k hv
    exact h.type_ne hc1 hne hk
theorem nums_one {k : IntKind} (l : List Int) : ∀ u ∈ nums k l, u.oneCell' = true := by
  intro u hu
  simp only [nums, List.mem_map] at hu
  obtain ⟨x, _, rfl⟩ := hu
  rfl
/-- What Write does. -/
def DS.write (d : DS) (i : Int) (s : ByteArray) : Int × DS := if d.check i ≠ 0 then (d.check i, d) else if s.size ≠ 64 then (1, d) else (if (d.put i.toNat (bytesOf s)).fails.1 = true then 91 else 0, (d.put i.toNat (bytesOf s)).fails.2)
theorem DS.check_zero {d : DS} {i : Int} (h : d.check i = 0) : d.down = false ∧ 0 ≤ i ∧ i < d.now.length := by
  unfold DS.check at h
  split at h
  · cases h
  · split at h
    · cases h
    · rename_i h1 h2
      exact ⟨by simpa using h1, by omega, by omega⟩
theorem flat_sect {ss : List (List Int)} (h : ∀ s ∈ ss, s.length = 64) {i : Nat} {b : List Int} (hb : ss[i]? = some b) (j : Nat) (hj : j < 64) : (flat ss)[i * 64 + j]? = (nums .u8 b)[j]? := by
  induction ss generalizing i with
  | nil => simp at hb
  | cons s ss ih =>
    have hs := h s List.mem_cons_self
    unfold flat at ih ⊢
    rw [List.flatten_cons, nums_append]
    cases i with
    | zero =>
      simp only [List.getElem?_cons_zero, Option.some.injEq] at hb
      subst hb
      rw [Nat.zero_mul, Nat.zero_add, List.getElem?_append_left (by rw [nums_length, hs]; exact hj)]
    | succ i =>
      rw [List.getElem?_cons_succ] at hb
      rw [List.getElem?_append_right (by rw [nums_length, hs]; omega), nums_length, hs, show (i + 1) * 64 + j - 64 = i * 64 + j by omega]
      exact ih (fun t ht => h t (List.mem_cons_of_mem _ ht)) hb
def wrRel (g gn i nn c : Nat) (vw : Value) (b : List Int) : Nat → Value → World → Prop
  | 0, v, _ => v = .pointer (some ⟨g, 0, none⟩)
  | 1, v, _ => v = .pointer (some ⟨g, 0, none⟩)
  | 2, v, _ => v = .pointer (some ⟨g, 0, none⟩)
  | 3, v, _ => v = .pointer (some ⟨g, 2, none⟩)
  | 4, v, _ => v = vw
  | 5, v, _ => v = .int .i64 (i : Int)
  | 6, v, _ => v = .pointer (some ⟨g, 0, none⟩)
  | 7, v, _ => v = .pointer (some ⟨g, 0, none⟩)
  | 8, v, _ => v = .pointer (some ⟨g, 1, none⟩)
  | 9, v, _ => v = .slice (some ⟨gn, 0, none⟩) nn c
  | 10, v, _ => v = .int .i64 (i : Int)
  | 11, v, _ => v = .pointer (some ⟨gn, i * 64, none⟩)
  | 12, v, _ => v = .agg (nums .u8 b).toArray
  | 13, v, _ => v = .agg (Value.int .i64 (i : Int) :: nums .u8 b).toArray
  | 14, v, w => ∃ gl, v = .slice (some ⟨gl, 0, none⟩) 1 1 ∧ w.heap[gl]? = some (.cells (Value.int .i64 (i : Int) :: nums .u8 b).toArray 124 (0, 0))
  | 16, v, _ => v = .pointer (some ⟨g, 0, none⟩)
  | 17, v, _ => v = .pointer (some ⟨g, 2, none⟩)
  | _, _, _ => True
def wrSt (g : Nat) : Nat → Value → Prop
  | 0, v => v = .pointer (some ⟨g, 0, none⟩)
  | 16, v => v = .pointer (some ⟨g, 0, none⟩)
  | 17, v => v = .pointer (some ⟨g, 2, none⟩)
  | _, _ => True
theorem wrRel_stable (g gn i nn c : Nat) (vw : Value) (b : List Int) (j : Nat) (v : Value) (w w' : World) (h : wrRel g gn i nn c vw b j v w) (hb : Below w.heap.size w w') : wrRel g gn i nn c vw b j v w' := by
  revert h
  unfold wrRel
  split <;> intro h <;> first | exact h | (obtain ⟨gl, h1, h2⟩ := h; exact ⟨gl, h1, (hb.block gl (blk_lt h2)).trans h2⟩)
theorem wrRel_st (g gn i nn c : Nat) (vw : Value) (b : List Int) (j : Nat) (v : Value) (w : World) (h : wrRel g gn i nn c vw b j v w) : wrSt g j v := by
  unfold wrSt
  split <;> first | exact h | trivial
theorem DiskAt.below' {w w1 : World} {S : Nat → Prop} {g : Nat} {d : DS} {vs vn vw : Value} (h : DiskAt w S g d vs vn vw) (hb : Below w.heap.size w w1) : DiskAt w1 S g d vs vn vw := h.below hb
theorem wr_post1 {w0 W0 w1 w2 : World} {S : Nat → Prop} {g i : Nat} {d : DS} {b : List Int} {vs vn vw v : Value} (h : DiskAt W0 S g { d with now := d.now.set i b } vs vn vw) (hk : Kp S w0 W0) (hB : Below W0.heap.size W0 w1)
    (hown : Own w2 (Nw S w1) 124 65 v (d.wr.length + 1) (wflat d.wr ++ (.int .i64 (i : Int) :: nums .u8 b))) (hg : w1.grownBy w2 vw.ownBlock) : WrMid w0 S g d i b vs vn vw v w2 := by
  have h' := h.below hB
  obtain ⟨h1, h2, h3, h4, h5, h6, h7⟩ := h'
  have hs1 : ∀ k, S k → Nw S w0 k := fun k hk => .inl hk
  refine ⟨?_, ?_, ?_, ?_, ?_⟩
  · exact (hg.block g (blk_lt h3) (fun e => h6.type_ne h3 (by decide) e.symm)).trans h3
  · exact (h4.grown hg (h4.apart h6 (by decide))).mono hs1
  · have h5' := (h5.grown hg (h5.apart h6 (by decide))).mono hs1
    rw [show ({ d with now := d.now.set i b } : DS).now.length = d.now.length from List.length_set] at h5'
    exact h5'
  · rw [wflat_snoc]
    refine hown.mono fun k hk' => ?_
    rcases hk' with hk' | hk'
    · exact .inl hk'
    · exact .inr (Nat.le_trans hk.size (Nat.le_trans hB.size hk'))
  · exact (hk.below hB).of_grown hg (fun k e => .inl (h6.2 k e))
theorem range_of {w : World} {S : Nat → Prop} {gn nn c : Nat} {ss : List (List Int)} {b : List Int} {i : Nat} (h : Own w S 122 64 (.slice (some ⟨gn, 0, none⟩) nn c) nn (flat ss)) (hs : ∀ s ∈ ss, s.length = 64) (hb : ss[i]? = some b) (hbl : b.length = 64) (hn : ss.length = nn) : w.rangeAt gn (i * 64) (nums .u8 b) := by
  intro j v hv
  have hj : j < 64 := by
    have := (List.getElem?_eq_some_iff.1 hv).1
    rw [nums_length, hbl] at this
    exact this
  have hi : i < ss.length := (List.getElem?_eq_some_iff.1 hb).1
  obtain ⟨g', c', cur, hv', _, hg, hnc, _, hcs, ht⟩ := h.form (by omega)
  injection hv' with ha _ hc
  injection ha with ha
  injection ha with ha
  subst ha
  rw [blk_cell hg, ← Array.getElem?_toList, ← hv, ← flat_sect hs hb j hj, ← ht, List.getElem?_take, if_pos (by omega)]
theorem size122 : (Try.prog.info? 122).map (·.size) = some 64 := by kernel_rfl
theorem under122 : Try.prog.underlying 122 = some (.array 64 5) := by kernel_rfl
set_option maxHeartbeats 8000000 in
set_option maxRecDepth 100000 in
theorem write_calls (w : World) (S : Nat → Prop) (g : Nat) (d : DS) (vs vn vw : Value) (i : Int) (s : ByteArray) (h0 : DiskAt w S g d vs vn vw) (hf : d.falls ≤ 1000000) (hl : d.wr.length ≤ 1000000) :
    Calls Try.prog 31 #[.pointer (some ⟨g, 0, none⟩), .int .i64 i, .string s] w fun e w' => ∃ vs' vn' vw', e = .returned (.int .i64 (d.write i s).1) ∧ DiskAt w' (Nw S w) g (d.write i s).2 vs' vn' vw' ∧ Kp S w w' := by
  have H := Aside0.mk h0
  by_cases hc : d.check i = 0
  · obtain ⟨hdn, hi0, hi1⟩ := DS.check_zero hc
    obtain ⟨i, rfl⟩ := Int.eq_ofNat_of_zero_le hi0
    by_cases hs : s.size = 64
    · have hE := Aside0.mk (show d.write (i : Int) s = (if (d.put i (bytesOf s)).fails.1 = true then 91 else 0, (d.put i (bytesOf s)).fails.2) by unfold DS.write; rw [if_neg (by simp [hc]), if_neg (by simp [hs]), Int.toNat_natCast])
      have HC := Aside0.mk hc
      have hn1 : i < d.now.length := by omega
      have Hi := Aside0.mk hn1
      obtain ⟨gn, c, cur, hvn, hSgn, hgn, hnc, hcm, hcs, hct⟩ := h0.2.2.2.2.1.form (by omega)
      subst hvn
      have hb := h0.2.2.1
      have HL := Aside0.mk h0.1.lim
      have HF := Aside0.mk hf
      have HN := Aside0.mk hl
      have HS6 := Aside0.mk hs
      have hss := Aside0.mk (bytes_sect hs)
      have c1 : w.cell? ⟨g, 1, none⟩ = some (.slice (some ⟨gn, 0, none⟩) d.now.length c) := (blk_cell hb 1).trans rfl
      have bs : ((s.size : Int) == 64) = true := by rw [beq_iff_eq]; omega
      have hq0 : decide ((i : Int) < 0) = false := by simp
      have hq1 : decide ((d.now.length : Int) ≤ (i : Int)) = false := by simp; omega
      have hfit : i * 64 + s.size ≤ cur.size := by
        have := Nat.mul_le_mul_right 64 hnc
        omega
      have HFit := Aside0.mk hfit
      have HG := Aside0.mk hgn
      have kcp : ∀ nd : Nat, (Builtin.copy_ #[88, 9] 3 #[.slice (some ⟨gn, i * 64, none⟩) 64 64, .string s]).run Try.prog (w.drewN nd) = .ok (goInt s.size) ((w.drewN nd).setRow gn (patch cur.toList (i * 64) (nums .u8 (bytesOf s))).toArray) := fun nd => run_copy_str (w.drewN nd) 88 9 3 5 gn (i * 64) 64 64 cur 122 s Try.underlying88 (by kernel_rfl) (by rw [World.heap_drewN]; exact hgn) (by omega) hfit
      have HSg := Aside0.mk hSgn
      clear hSgn
      clear h0 hb hc hdn hi0 hi1 hl hf hs hnc hcm hcs hct hfit hgn
      go_enter Try.func31, Try.ntmps31
      go_wp2_with (go_at_call 85; (with_reducible refine (check_calls _ S g d vs _ vw (i : Int) H.out).mono ?_); rintro e w' ⟨rfl, ⟨nd, rfl⟩⟩; simp only [HC.out])
      have hD6 : DiskAt ((w.drewN nd).setRow gn (patch cur.toList (i * 64) (nums .u8 (bytesOf s))).toArray) S g { d with now := d.now.set i (bytesOf s) } vs (.slice (some ⟨gn, 0, none⟩) d.now.length c) vw :=
        (H.out.below (pw_below_drewN (Below.refl _ _) nd)).sector (by rw [World.heap_drewN]; exact HG.out) Hi.out hss.out
      have hK6 : Kp S w ((w.drewN nd).setRow gn (patch cur.toList (i * 64) (nums .u8 (bytesOf s))).toArray) := (Kp.of_below S (pw_below_drewN (Below.refl _ _) nd)).setRow (.inl HSg.out) _
      generalize hW : (w.drewN nd).setRow gn (patch cur.toList (i * 64) (nums .u8 (bytesOf s))).toArray = W0 at hD6 hK6 ⊢
      clear hW kcp
      have H1 : Aside0 (DiskAt W0 S g { d with now := d.now.set i (bytesOf s) } vs (.slice (some ⟨gn, 0, none⟩) d.now.length c) vw ∧ Kp S w W0) := Aside0.mk ⟨hD6, hK6⟩
      have HB := Aside0.mk hss.out.1
      have C1 : Aside0 (W0.cell? ⟨g, 1, none⟩ = some (.slice (some ⟨gn, 0, none⟩) d.now.length c)) := Aside0.mk ((blk_cell hD6.2.2.1 1).trans rfl)
      have C2 : Aside0 (W0.cell? ⟨g, 2, none⟩ = some vw) := Aside0.mk ((blk_cell hD6.2.2.1 2).trans rfl)
      have hlen : (d.now.set i (bytesOf s)).length = d.now.length := List.length_set
      have CR : Aside0 (W0.rangeAt gn (i * 64) (nums .u8 (bytesOf s))) := Aside0.mk (by
        have h5 := hD6.2.2.2.2.1
        rw [show ({ d with now := d.now.set i (bytesOf s) } : DS).now.length = d.now.length from hlen] at h5
        exact range_of h5 (fun x hx => (hD6.1.now x hx).1) (by rw [List.getElem?_set_self Hi.out]) HB.out hlen)
      have HS : Aside0 ((Try.prog.info? 122).map (·.size) = some (nums .u8 (bytesOf s)).length) := Aside0.mk (by rw [nums_length, HB.out]; exact size122)
      clear hD6 hK6 hlen c1 hn1
      refine rg4_ 15 18 [0, 1, 2, 3, 4, 5, 6, 7, 8, 9, 10, 11, 12, 13, 14, 15, 16, 17, 18] [0, 16, 17] [(0, 26), (1, 27), (2, 28), (3, 29), (4, 30), (5, 31), (6, 32), (7, 33), (8, 34), (9, 35), (10, 36), (11, 37), (12, 38), (13, 39), (14, 40), (15, 41), (16, 42), (17, 43)] (bitsOf (rtab .any (opsOf Try.f31 7)).2) (wrRel g gn i d.now.length c vw (bytesOf s)) (wrSt g) (WrMid w S g d i (bytesOf s) vs (.slice (some ⟨gn, 0, none⟩) d.now.length c) vw) (fun _ W => ∃ v, DiskAt W (Nw S w) g (d.put i (bytesOf s)) vs (.slice (some ⟨gn, 0, none⟩) d.now.length c) v ∧ Kp S w W) (by kernel_rfl) rfl (by kernel_rfl) rfl (by kernel_rfl) (wrRel_stable _ _ _ _ _ _ _) (wrRel_st _ _ _ _ _ _ _) ?steps ?h1 ?h2 ?rend
      case steps =>
        refine steps4_loose rfl (fun a1 w1 hn hd => ⟨_, rfl, fun K hK => ?_⟩) ?_
        · have e0 := eval_of ((hn 0 rfl).trans rfl)
          refine value_ (v := .pointer (some ⟨g, 0, none⟩)) (w1 := w1) rfl rfl ?_ (hK _ (fun _ => rfl))
          clear hd hn hK
          simp only [execOp, Option.map_some, Option.map_none, List.map_toArray, List.map_cons, List.map_nil, List.getElem_toArray, List.getElem_cons_zero, List.getElem_cons_succ, e0]
          clear e0
          go_simp
        refine steps4_cons rfl (fun a1 w1 hB hsz hdf hn hd => ⟨_, rfl, fun K hK => ?_⟩) ?_
        · have e0 := eval_of ((hn 0 rfl).trans rfl)
          refine value_ (v := .pointer (some ⟨g, 0, none⟩)) (w1 := w1) rfl rfl ?_ (hK _ _ (Below.refl _ _) rfl)
          clear hd hn hK
          simp only [execOp, Option.map_some, Option.map_none, List.map_toArray, List.map_cons, List.map_nil, List.getElem_toArray, List.getElem_cons_zero, List.getElem_cons_succ, e0]
          clear e0
          go_simp
        refine steps4_cons rfl (fun a1 w1 hB hsz hdf hn hd => ⟨_, rfl, fun K hK => ?_⟩) ?_
        · obtain ⟨v27, h27, rfl⟩ := hd 1 27 rfl (by kernel_rfl)
          have e27 := eval_of h27
          clear h27
          refine value_ (v := .pointer (some ⟨g, 0, none⟩)) (w1 := w1) rfl rfl ?_ (hK _ _ (Below.refl _ _) rfl)
          clear hd hn hK
          simp only [execOp, Option.map_some, Option.map_none, List.map_toArray, List.map_cons, List.map_nil, List.getElem_toArray, List.getElem_cons_zero, List.getElem_cons_succ, e27]
          clear e27
          go_simp
        refine steps4_cons rfl (fun a1 w1 hB hsz hdf hn hd => ⟨_, rfl, fun K hK => ?_⟩) ?_
        · obtain ⟨v28, h28, rfl⟩ := hd 2 28 rfl (by kernel_rfl)
          have e28 := eval_of h28
          clear h28
          refine value_ (v := .pointer (some ⟨g, 2, none⟩)) (w1 := w1) rfl rfl ?_ (hK _ _ (Below.refl _ _) rfl)
          clear hd hn hK
          simp only [execOp, Option.map_some, Option.map_none, List.map_toArray, List.map_cons, List.map_nil, List.getElem_toArray, List.getElem_cons_zero, List.getElem_cons_succ, e28]
          clear e28
          go_simp
        refine steps4_cons rfl (fun a1 w1 hB hsz hdf hn hd => ⟨_, rfl, fun K hK => ?_⟩) ?_
        · obtain ⟨v29, h29, rfl⟩ := hd 3 29 rfl (by kernel_rfl)
          have e29 := eval_of h29
          clear h29
          refine value_ (v := vw) (w1 := w1) rfl rfl ?_ (hK _ _ (Below.refl _ _) rfl)
          clear hd hn hK
          simp only [execOp, Option.map_some, Option.map_none, List.map_toArray, List.map_cons, List.map_nil, List.getElem_toArray, List.getElem_cons_zero, List.getElem_cons_succ, e29]
          clear e29
          have hq := pw_cell_below hB C2.out
          clear hB
          go_simp
        refine steps4_cons rfl (fun a1 w1 hB hsz hdf hn hd => ⟨_, rfl, fun K hK => ?_⟩) ?_
        · have e1 := eval_of ((hn 1 rfl).trans rfl)
          refine value_ (v := .int .i64 (i : Int)) (w1 := w1) rfl rfl ?_ (hK _ _ (Below.refl _ _) rfl)
          clear hd hn hK
          simp only [execOp, Option.map_some, Option.map_none, List.map_toArray, List.map_cons, List.map_nil, List.getElem_toArray, List.getElem_cons_zero, List.getElem_cons_succ, e1]
          clear e1
          go_simp
        refine steps4_cons rfl (fun a1 w1 hB hsz hdf hn hd => ⟨_, rfl, fun K hK => ?_⟩) ?_
        · have e0 := eval_of ((hn 0 rfl).trans rfl)
          refine value_ (v := .pointer (some ⟨g, 0, none⟩)) (w1 := w1) rfl rfl ?_ (hK _ _ (Below.refl _ _) rfl)
          clear hd hn hK
          simp only [execOp, Option.map_some, Option.map_none, List.map_toArray, List.map_cons, List.map_nil, List.getElem_toArray, List.getElem_cons_zero, List.getElem_cons_succ, e0]
          clear e0
          go_simp
        refine steps4_cons rfl (fun a1 w1 hB hsz hdf hn hd => ⟨_, rfl, fun K hK => ?_⟩) ?_
        · obtain ⟨v32, h32, rfl⟩ := hd 6 32 rfl (by kernel_rfl)
          have e32 := eval_of h32
          clear h32
          refine value_ (v := .pointer (some ⟨g, 0, none⟩)) (w1 := w1) rfl rfl ?_ (hK _ _ (Below.refl _ _) rfl)
          clear hd hn hK
          simp only [execOp, Option.map_some, Option.map_none, List.map_toArray, List.map_cons, List.map_nil, List.getElem_toArray, List.getElem_cons_zero, List.getElem_cons_succ, e32]
          clear e32
          go_simp
        refine steps4_cons rfl (fun a1 w1 hB hsz hdf hn hd => ⟨_, rfl, fun K hK => ?_⟩) ?_
        · obtain ⟨v33, h33, rfl⟩ := hd 7 33 rfl (by kernel_rfl)
          have e33 := eval_of h33
          clear h33
          refine value_ (v := .pointer (some ⟨g, 1, none⟩)) (w1 := w1) rfl rfl ?_ (hK _ _ (Below.refl _ _) rfl)
          clear hd hn hK
          simp only [execOp, Option.map_some, Option.map_none, List.map_toArray, List.map_cons, List.map_nil, List.getElem_toArray, List.getElem_cons_zero, List.getElem_cons_succ, e33]
          clear e33
          go_simp
        refine steps4_cons rfl (fun a1 w1 hB hsz hdf hn hd => ⟨_, rfl, fun K hK => ?_⟩) ?_
        · obtain ⟨v34, h34, rfl⟩ := hd 8 34 rfl (by kernel_rfl)
          have e34 := eval_of h34
          clear h34
          refine value_ (v := .slice (some ⟨gn, 0, none⟩) d.now.length c) (w1 := w1) rfl rfl ?_ (hK _ _ (Below.refl _ _) rfl)
          clear hd hn hK
          simp only [execOp, Option.map_some, Option.map_none, List.map_toArray, List.map_cons, List.map_nil, List.getElem_toArray, List.getElem_cons_zero, List.getElem_cons_succ, e34]
          clear e34
          have hq := pw_cell_below hB C1.out
          clear hB
          go_simp
        refine steps4_cons rfl (fun a1 w1 hB hsz hdf hn hd => ⟨_, rfl, fun K hK => ?_⟩) ?_
        · have e1 := eval_of ((hn 1 rfl).trans rfl)
          refine value_ (v := .int .i64 (i : Int)) (w1 := w1) rfl rfl ?_ (hK _ _ (Below.refl _ _) rfl)
          clear hd hn hK
          simp only [execOp, Option.map_some, Option.map_none, List.map_toArray, List.map_cons, List.map_nil, List.getElem_toArray, List.getElem_cons_zero, List.getElem_cons_succ, e1]
          clear e1
          go_simp
        refine steps4_cons rfl (fun a1 w1 hB hsz hdf hn hd => ⟨_, rfl, fun K hK => ?_⟩) ?_
        · obtain ⟨v35, h35, rfl⟩ := hd 9 35 rfl (by kernel_rfl)
          have e35 := eval_of h35
          clear h35
          obtain ⟨v36, h36, rfl⟩ := hd 10 36 rfl (by kernel_rfl)
          have e36 := eval_of h36
          clear h36
          refine value_ (v := .pointer (some ⟨gn, i * 64, none⟩)) (w1 := w1) rfl rfl ?_ (hK _ _ (Below.refl _ _) rfl)
          clear hd hn hK
          simp only [execOp, Option.map_some, Option.map_none, List.map_toArray, List.map_cons, List.map_nil, List.getElem_toArray, List.getElem_cons_zero, List.getElem_cons_succ, e35, e36]
          clear e35 e36
          have hlt : i < d.now.length := Hi.out
          have hq0 : decide ((i : Int) < 0) = false := by simp
          have hq1 : decide ((d.now.length : Int) ≤ (i : Int)) = false := by simp; omega
          clear hB
          go_simp
        refine steps4_cons rfl (fun a1 w1 hB hsz hdf hn hd => ⟨_, rfl, fun K hK => ?_⟩) ?_
        · obtain ⟨v37, h37, rfl⟩ := hd 11 37 rfl (by kernel_rfl)
          have e37 := eval_of h37
          clear h37
          refine value_ (v := .agg (nums .u8 (bytesOf s)).toArray) (w1 := w1) rfl rfl ?_ (hK _ _ (Below.refl _ _) rfl)
          clear hd hn hK
          simp only [execOp, Option.map_some, Option.map_none, List.map_toArray, List.map_cons, List.map_nil, List.getElem_toArray, List.getElem_cons_zero, List.getElem_cons_succ, e37]
          clear e37
          have hq := run_loadAt_mid (P := Try.prog) w1 gn (i * 64) 122 (nums .u8 (bytesOf s)) _ (fun j v hv => pw_cell_below hB (CR.out j v hv)) under122 rfl HS.out
          clear hB
          simp only [Sem.run_bind, hq, Result.andThen_ok]
          rfl
        refine steps4_cons rfl (fun a1 w1 hB hsz hdf hn hd => ⟨_, rfl, fun K hK => ?_⟩) ?_
        · obtain ⟨v31, h31, rfl⟩ := hd 5 31 rfl (by kernel_rfl)
          have e31 := eval_of h31
          clear h31
          obtain ⟨v38, h38, rfl⟩ := hd 12 38 rfl (by kernel_rfl)
          have e38 := eval_of h38
          clear h38
          refine value_ (v := .agg (Value.int .i64 (i : Int) :: nums .u8 (bytesOf s)).toArray) (w1 := w1) rfl rfl ?_ (hK _ _ (Below.refl _ _) rfl)
          clear hd hn hK
          simp only [execOp, Option.map_some, Option.map_none, List.map_toArray, List.map_cons, List.map_nil, List.getElem_toArray, List.getElem_cons_zero, List.getElem_cons_succ, e31, e38]
          clear e31 e38
          have hq := run_build (P := Try.prog) w1 124 #[(0, .int .i64 (i : Int)), (1, .agg (nums .u8 (bytesOf s)).toArray)] _ (built124 (i : Int) (bytesOf s) HB.out)
          clear hB
          simp only [Sem.run_bind, hq, Result.andThen_ok]
          rfl
        refine steps4_cons rfl (fun a1 w1 hB hsz hdf hn hd => ⟨_, rfl, fun K hK => ?_⟩) ?_
        · obtain ⟨v39, h39, rfl⟩ := hd 13 39 rfl (by kernel_rfl)
          have e39 := eval_of h39
          clear h39
          refine value_ (v := .slice (some ⟨w1.heap.size, 0, none⟩) 1 1) (w1 := w1.alloc (.cells (Value.int .i64 (i : Int) :: nums .u8 (bytesOf s)).toArray 124)) rfl rfl ?_ (hK _ _ (below_alloc (Below.refl _ _) _) ⟨_, rfl, blk_new _ _⟩)
          clear hd hn hK
          simp only [execOp, Option.map_some, Option.map_none, List.map_toArray, List.map_cons, List.map_nil, List.getElem_toArray, List.getElem_cons_zero, List.getElem_cons_succ, e39]
          clear e39
          have hq := run_slice124 w1 (Value.int .i64 (i : Int) :: nums .u8 (bytesOf s)).toArray (by rw [List.size_toArray, List.length_cons, nums_length, HB.out])
          clear hB
          simp only [Sem.run_bind, hq, Result.andThen_ok]
          rfl
        refine steps4_m1 ?_
        refine steps4_loose rfl (fun a1 w1 hn hd => ⟨_, rfl, fun K hK => ?_⟩) ?_
        · obtain ⟨v26, h26, rfl⟩ := hd 0 26 rfl (by kernel_rfl)
          have e26 := eval_of h26
          clear h26
          refine value_ (v := .pointer (some ⟨g, 0, none⟩)) (w1 := w1) rfl rfl ?_ (hK _ (fun _ => rfl))
          clear hd hn hK
          simp only [execOp, Option.map_some, Option.map_none, List.map_toArray, List.map_cons, List.map_nil, List.getElem_toArray, List.getElem_cons_zero, List.getElem_cons_succ, e26]
          clear e26
          go_simp
        refine steps4_loose rfl (fun a1 w1 hn hd => ⟨_, rfl, fun K hK => ?_⟩) ?_
        · obtain ⟨v42, h42, rfl⟩ := hd 16 42 rfl (by kernel_rfl)
          have e42 := eval_of h42
          clear h42
          refine value_ (v := .pointer (some ⟨g, 2, none⟩)) (w1 := w1) rfl rfl ?_ (hK _ (fun _ => rfl))
          clear hd hn hK
          simp only [execOp, Option.map_some, Option.map_none, List.map_toArray, List.map_cons, List.map_nil, List.getElem_toArray, List.getElem_cons_zero, List.getElem_cons_succ, e42]
          clear e42
          go_simp
        refine steps4_m2 ?_
        exact steps4_nil
      case h1 =>
        intro a1 w1 hB hn hd
        obtain ⟨v30, h30, q30⟩ := hd 4 30 rfl (by kernel_rfl)
        obtain ⟨v40, h40, gl, rfl, hgl⟩ := hd 14 40 rfl (by kernel_rfl)
        have e30 : v30 = vw := q30
        subst e30
        have e1 := eval_of h30
        have e2 := eval_of h40
        refine ⟨_, rfl, fun K hK => ?_⟩
        refine append124_ rfl rfl rfl e1 e2 (own_later H1.out.1.2.2.2.2.2.1 hB) hgl (by rw [List.length_cons, nums_length, HB.out]) (by intro u hu; rcases List.mem_cons.1 hu with rfl | hu; exact rfl; exact nums_one _ u hu) HN.out (fun v' w' hown hg => ?_)
        exact hK _ _ (wr_post1 H1.out.1 H1.out.2 hB hown hg)
      case h2 =>
        intro a1 w1 hn hd hp
        obtain ⟨v43, h43, q43⟩ := hd 17 43 rfl (by kernel_rfl)
        have e43 : v43 = .pointer (some ⟨g, 2, none⟩) := q43
        subst e43
        obtain ⟨v', hp1, ht⟩ := hp
        have e1 := eval_of h43
        have e2 := eval_of (ht 41 rfl)
        refine ⟨_, rfl, fun K hK => ?_⟩
        obtain ⟨A', c', rfl⟩ := hp1.2.2.2.1.slice
        exact store_ rfl rfl rfl e1 e2 ((blk_cell hp1.1 2).trans rfl) (blk_frozen hp1.1 2) Try.underlying113 size113 (hK undef _ ⟨_, hp1.store H.out.1 Hi.out hss.out H.out.2.1 H.out.2.2.2.2.2.2⟩)
      case rend =>
        intro vals w1 hp _
        simp only [fill, Act.put, List.setIfInBounds_toArray, List.set_cons_zero, List.set_cons_succ]
        obtain ⟨v9, hD9, hK9⟩ := hp
        have HD9 := Aside0.mk hD9
        have HK9 := Aside0.mk hK9
        clear hD9 hK9
        have hf9 : (d.put i (bytesOf s)).falls ≤ 1000000 := HF.out
        have HF9 := Aside0.mk hf9
        clear hf9
        go_wp2_with (go_at_call 86; (with_reducible refine (fails_calls _ _ g _ _ _ _ HD9.out HF9.out).mono ?_); rintro e w2 ⟨rfl, hd2, hk2⟩; have HD2 := Aside0.mk hd2; have HK2 := Aside0.mk hk2; clear hd2 hk2)
        · have b9 := ‹(d.put i (bytesOf s)).fails.1 = true›
          go_ret
          exact ⟨_, _, _, by rw [hE.out, if_pos b9]; rfl, by rw [hE.out]; exact HD2.out, HK9.out.trans HK2.out⟩
        · have b9 := ‹(d.put i (bytesOf s)).fails.1 = false›
          go_ret
          exact ⟨_, _, _, by rw [hE.out, if_neg (by rw [b9]; simp)]; rfl, by rw [hE.out]; exact HD2.out, HK9.out.trans HK2.out⟩
    · have hE := Aside0.mk (show d.write (i : Int) s = (1, d) by unfold DS.write; rw [if_neg (by simp [hc]), if_pos hs])
      have HC := Aside0.mk hc
      have HM := Aside0.mk (h0.mono (S' := Nw S w) fun k hk => .inl hk)
      have bs : ((s.size : Int) == 64) = false := by rw [beq_eq_false_iff_ne]; omega
      clear h0 hc hdn hi0 hi1 hl hf hs
      go_enter Try.func31, Try.ntmps31
      go_wp2_with (go_at_call 85; (with_reducible refine (check_calls _ S g d vs _ vw (i : Int) H.out).mono ?_); rintro e w' ⟨rfl, ⟨nd, rfl⟩⟩; simp only [HC.out])
      go_ret
      exact ⟨_, _, _, by rw [hE.out]; rfl, by rw [hE.out]; exact HM.out.below' (pw_below_drewN (Below.refl _ _) nd), Kp.of_below S (pw_below_drewN (Below.refl _ _) nd)⟩
  · have hE := Aside0.mk (show d.write i s = (d.check i, d) by unfold DS.write; rw [if_pos hc])
    have HM := Aside0.mk (h0.mono (S' := Nw S w) fun k hk => .inl hk)
    have bc : (d.check i == 0) = false := by rw [beq_eq_false_iff_ne]; exact hc
    clear h0 hc hl hf
    go_enter Try.func31, Try.ntmps31
    go_wp2_with (go_at_call 85; (with_reducible refine (check_calls _ S g d vs _ vw i H.out).mono ?_); rintro e w' ⟨rfl, ⟨nd, rfl⟩⟩)
    go_ret
    exact ⟨_, _, _, by rw [hE.out]; rfl, by rw [hE.out]; exact HM.out.below' (pw_below_drewN (Below.refl _ _) nd), Kp.of_below S (pw_below_drewN (Below.refl _ _) nd)⟩
end Go.Proofs.Ytkedodmlbepfnaa.Lg

-- from the working text Sy
set_option linter.unusedSimpArgs false
set_option linter.unusedVariables false
namespace Go.Proofs.Ytkedodmlbepfnaa.Lg
open Go.RowKit Go.Proofs.YtkedodmlbepfnaaW.PrintWords Go.Proofs.YtkedodmlbepfnaaW.PrintLast Go.Proofs.YtkedodmlbepfnaaW.PrintMore Go.Proofs.Ytkedodmlbepfnaa.Rg
set_option maxHeartbeats 4000000 in
set_option maxRecDepth 100000 in
theorem clone_calls (w : World) (S : Nat → Prop) (v : Value) (n : Nat) (xs : List Value) (h0 : Own w S 122 64 v n xs) (hn : 0 < n) (hn2 : n ≤ 4096) (h1 : ∀ u ∈ xs, u.oneCell' = true) :
    Calls Try.prog 88 #[v] w fun e w' => ∃ v', e = .returned v' ∧ Own w' (fun k => w.heap.size ≤ k) 122 64 v' n xs ∧ Below w.heap.size w w' := by
  obtain ⟨i0, hi, hz0, hz1, hz2⟩ := info_parts info122
  obtain ⟨g, c, cur, rfl, hSg, hg, hnc, hcm, hcs, hct⟩ := h0.form hn
  have hl : xs.length = n * 64 := h0.1.1
  have A : Aside0 (∀ j u, xs[j]? = some u → w.cell? ⟨g, 0 + j, none⟩ = some u) := Aside0.mk fun j u hj => by
    have hj2 : j < xs.length := (List.getElem?_eq_some_iff.1 hj).1
    rw [Nat.zero_add, blk_cell hg, ← hj, ← hct, List.getElem?_take, if_pos (by omega), Array.getElem?_toList]
  have HI := Aside0.mk hi
  have HZ := Aside0.mk hz0
  have H1 := Aside0.mk h1
  clear h0 hg hcs hct hcm hi hz0 h1
  have q112 : ∀ (w : World) (a : Option Addr) (n c n' c' : Nat), (binOp .eql 112 (.slice a n c) (.slice none n' c')).run Try.prog w = .ok (.bool a.isNone) w := fun w a n c n' c' => Lib.run_eql_slice_nil w _ _ a n c n' c' Try.underlying112
  have u112 : ∀ w, Sem.run Try.prog (underlying 112) w = .ok (TypeDesc.slice 122) w := run_underlying Try.underlying112
  go_enter Try.func88, Try.ntmps88
  go_wp2_with (at_builtin; go_loud (refine wpList_append_own _ rfl _ _ 112 rfl w.heap.size 122 i0 (.agg zero64) 64 64 Try.underlying112 HI.out HZ.out hz1 hz2 (by simp [zero64, Value.cells]) (by omega) _ _ _ rfl (World.ownsRow_made w #[] 0 (Nat.le_refl _) (Nat.zero_le _) (by simp)) ⟨g, 0, none⟩ n c xs rfl ?qc1 ?qc2 ?qc3 ?qc4 ?qc5 ?qc6 ?_))
  case qc1 => exact hl
  case qc2 =>
    intro j u hj
    rw [Addr.add_lit]
    exact Lib.cell?_alloc_some _ (A.out j u hj)
  case qc3 => exact H1.out
  case qc4 => rw [Nat.zero_add]; simp only [maxLen]; omega
  case qc5 => rw [Nat.zero_add]; omega
  case qc6 => simp
  intro v' w1 hown hgrow hnil
  go_wp2
  go_ret
  refine ⟨v', rfl, ⟨by simpa using hown.mono (Nat.zero_le _), fun k hk => own_base hown k hk⟩, ?_⟩
  exact ((Below.refl _ w).alloc (Nat.le_refl _) _).grown hgrow (by simp) (by intro k hk; simp [Value.ownBlock] at hk; omega)
/-- What Sync does. -/
def DS.sync (d : DS) : Int × DS := if d.down = true then (91, d) else if d.fails.1 = true then (91, d.fails.2) else (0, { d.fails.2 with safe := d.fails.2.now, wr := [] })
theorem DS.Ok.fails {d : DS} (h : d.Ok) : d.fails.2.Ok := by
  unfold DS.fails
  split
  · exact h
  · split
    · exact h.arm (by omega) (by have := h.armed1; omega)
    · have h' := (h.arm (n := 0) (by omega) (by omega)).off
      exact ⟨h'.len, h'.pos, h'.lim, h'.safe, h'.now, h'.wr, h'.armed0, h'.armed1, h'.falls0⟩
theorem flat_one (ss : List (List Int)) : ∀ u ∈ flat ss, u.oneCell' = true := nums_one _
theorem DiskAt.synced {w0 w2 w3 : World} {S : Nat → Prop} {g : Nat} {d : DS} {vs vn vw v' : Value} (h : DiskAt w2 S g d vs vn vw) (hB : Below w2.heap.size w2 w3) (ho : Own w3 (fun k => w2.heap.size ≤ k) 122 64 v' d.now.length (flat d.now)) (hw : w0.heap.size ≤ w2.heap.size) :
    DiskAt ((w3.setCell ⟨g, 0, none⟩ v').setCell ⟨g, 2, none⟩ (.slice none 0 0)) (Nw S w0) g { d with safe := d.now, wr := [] } v' vn (.slice none 0 0) := by
  obtain ⟨h1, h2, h3, h4, h5, h6, h7⟩ := h.below hB
  have hne : vn.ownBlock ≠ v'.ownBlock ∨ v'.ownBlock = none := by
    cases hv : v'.ownBlock with
    | none => exact .inr rfl
    | some k =>
      refine .inl fun hk => ?_
      have hk2 := ho.2 k hv
      obtain ⟨gn, cn, cur, rfl, _, hg, _⟩ := h.2.2.2.2.1.form (by have := h.1.pos; omega)
      have hlt := blk_lt hg
      simp only [Value.ownBlock, Option.some.injEq] at hk
      omega
  have h4' : (w3.setCell ⟨g, 0, none⟩ v').heap[g]? = some (.cells #[v', vn, vw, .int .i64 d.armed, .bool d.down, .int .i64 d.falls] 115 (0, 0)) := by rw [blk_set h3]; rfl
  refine ⟨⟨rfl, h1.pos, h1.lim, h1.now, h1.now, fun x hx => (by cases hx), h1.armed0, h1.armed1, h1.falls0⟩, .inl h2, by rw [blk_set h4']; rfl, ?_, ?_, Own.nil _ _ _ _, ?_⟩
  · exact ((ho.setCell (ho.type_ne h3 (by decide)) _).setCell (ho.type_ne h3 (by decide)) _).mono fun k hk => .inr (Nat.le_trans hw hk)
  · exact ((h5.setCell (h5.type_ne h3 (by decide)) _).setCell (h5.type_ne h3 (by decide)) _).mono fun k hk => .inl hk
  · rcases hne with hne | hne
    · exact .inr fun e => hne e.symm
    · exact .inl hne
set_option maxHeartbeats 4000000 in
set_option maxRecDepth 100000 in
theorem sync_calls (w : World) (S : Nat → Prop) (g : Nat) (d : DS) (vs vn vw : Value) (h0 : DiskAt w S g d vs vn vw) (hf : d.falls ≤ 1000000) :
    Calls Try.prog 34 #[.pointer (some ⟨g, 0, none⟩)] w fun e w' => ∃ vs' vn' vw', e = .returned (.int .i64 d.sync.1) ∧ DiskAt w' (Nw S w) g d.sync.2 vs' vn' vw' ∧ Kp S w w' := by
  have H := Aside0.mk h0
  have hb := h0.2.2.1
  have c4 : w.cell? ⟨g, 4, none⟩ = some (.bool d.down) := (blk_cell hb 4).trans rfl
  have HF := Aside0.mk hf
  cases hd : d.down with
  | true =>
    have hE := Aside0.mk (show d.sync = (91, d) by unfold DS.sync; rw [if_pos hd])
    have HM := Aside0.mk (h0.mono (S' := Nw S w) fun k hk => .inl hk)
    rw [hd] at c4
    clear hd h0 hb hf
    go_enter Try.func34, Try.ntmps34
    go_wp2
    go_ret
    exact ⟨_, _, _, by rw [hE.out]; rfl, by rw [hE.out]; exact HM.out, Kp.refl S w⟩
  | false =>
    rw [hd] at c4
    cases hx : d.fails.1 with
    | true =>
      have hE := Aside0.mk (show d.sync = (91, d.fails.2) by unfold DS.sync; rw [if_neg (by simp [hd]), if_pos hx])
      have HX := Aside0.mk hx
      clear hd h0 hb hf hx
      go_enter Try.func34, Try.ntmps34
      go_wp2_with (go_at_call 86; (with_reducible refine (fails_calls _ _ g _ _ _ _ H.out HF.out).mono ?_); rintro e w2 ⟨rfl, hd2, hk2⟩; simp only [HX.out]; have HD2 := Aside0.mk hd2; have HK2 := Aside0.mk hk2; clear hd2 hk2)
      go_ret
      exact ⟨_, _, _, by rw [hE.out]; rfl, by rw [hE.out]; exact HD2.out.mono fun k hk => .inl hk, HK2.out⟩
    | false =>
      have hE := Aside0.mk (show d.sync = (0, { d.fails.2 with safe := d.fails.2.now, wr := [] }) by unfold DS.sync; rw [if_neg (by simp [hd]), if_neg (by simp [hx])])
      have HX := Aside0.mk hx
      clear hd h0 hb hf hx
      go_enter Try.func34, Try.ntmps34
      go_wp2_with (first
        | (go_at_call 86; (with_reducible refine (fails_calls _ _ g _ _ _ _ H.out HF.out).mono ?_); rintro e w2 ⟨rfl, hd2, hk2⟩; simp only [HX.out]; have HD2 := Aside0.mk hd2; have HK2 := Aside0.mk hk2; have d1 : w2.cell? ⟨g, 1, none⟩ = some vn := (blk_cell hd2.2.2.1 1).trans rfl; have d0 : w2.cell? ⟨g, 0, none⟩ = some vs := (blk_cell hd2.2.2.1 0).trans rfl; have d2 : w2.cell? ⟨g, 2, none⟩ = some vw := (blk_cell hd2.2.2.1 2).trans rfl; have f0 := blk_frozen hd2.2.2.1 0; have f2 := blk_frozen hd2.2.2.1 2; clear hd2 hk2))
      have HOw := Aside0.mk HD2.out.2.2.2.2.1
      have HOp : 0 < d.fails.2.now.length := HD2.out.1.pos
      have HOl := HD2.out.1.lim
      (with_reducible refine (clone_calls _ S _ _ _ HOw.out HOp HOl (flat_one _)).mono ?_)
      rintro e w3 ⟨v', rfl, ho, hb3⟩
      obtain ⟨A', c', rfl⟩ := ho.slice
      have e0 := pw_cell_below hb3 d0
      have e2 := pw_cell_below hb3 d2
      have b3 := (hb3.block g (blk_lt HD2.out.2.2.1)).trans HD2.out.2.2.1
      have f0' := blk_frozen b3 0
      have f2' := blk_frozen b3 2
      clear b3
      have HS3 := Aside0.mk (HD2.out.synced hb3 ho HK2.out.size)
      have HB3 := Aside0.mk hb3
      clear hb3 ho
      go_wp2
      go_ret
      exact ⟨_, _, _, by rw [hE.out]; rfl, by rw [hE.out]; exact HS3.out, ((HK2.out.below HB3.out).setCell (.inl H.out.2.1) _).setCell (.inl H.out.2.1) _⟩
end Go.Proofs.Ytkedodmlbepfnaa.Lg

-- from the working text So
set_option linter.unusedSimpArgs false
set_option linter.unusedVariables false
namespace Go.Proofs.Ytkedodmlbepfnaa.Lg
open Go.RowKit Go.Proofs.YtkedodmlbepfnaaW.PrintWords Go.Proofs.YtkedodmlbepfnaaW.PrintLast Go.Proofs.YtkedodmlbepfnaaW.PrintMore Go.Proofs.Ytkedodmlbepfnaa.Rg
set_option maxHeartbeats 4000000 in
set_option maxRecDepth 100000 in
theorem sectorOf_calls (s : ByteArray) (b : Int) (w : World) (hs : s.size ≤ 64) :
    Calls Try.prog 109 #[.string s, .int .u8 b] w fun e w' => e = .returned (.string (strOfNums (bytesOf s ++ ((List.replicate 64 0).set 63 b).drop s.size))) ∧ Below w.heap.size w w' := by
  have HS := Aside0.mk hs
  clear hs
  go_enter Try.func109, Try.ntmps109
  go_wp2
  have hrow : ∀ c : Array Value, c = (nums .u8 ((List.replicate 64 0).set 63 b)).toArray → (Builtin.copy_ #[88, 9] 3 #[.slice (some ⟨w.heap.size, 0, none⟩) 64 64, .string s]).run Try.prog (w.alloc (.cells c 122)) =
      .ok (goInt s.size) ((w.alloc (.cells c 122)).setRow w.heap.size (nums .u8 (bytesOf s ++ ((List.replicate 64 0).set 63 b).drop s.size)).toArray) := by
    rintro c rfl
    have hl : (nums .u8 ((List.replicate 64 0).set 63 b)).length = 64 := by rw [nums_length]; simp
    rw [run_copy_str (w.alloc _) 88 9 3 5 w.heap.size 0 64 64 _ 122 s Try.underlying88 (by kernel_rfl) (blk_new w _) HS.out (by rw [List.size_toArray, hl, Nat.zero_add]; exact HS.out)]
    congr 4
    unfold patch
    rw [List.take_zero, List.nil_append, nums_append, Nat.zero_add, nums_length, bytesOf_length]
    unfold nums
    rw [List.map_drop]
  have hrow2 := hrow #[.int .u8 0, .int .u8 0, .int .u8 0, .int .u8 0, .int .u8 0, .int .u8 0, .int .u8 0, .int .u8 0, .int .u8 0, .int .u8 0, .int .u8 0, .int .u8 0, .int .u8 0, .int .u8 0, .int .u8 0, .int .u8 0, .int .u8 0, .int .u8 0, .int .u8 0, .int .u8 0, .int .u8 0, .int .u8 0, .int .u8 0, .int .u8 0, .int .u8 0, .int .u8 0, .int .u8 0, .int .u8 0, .int .u8 0, .int .u8 0, .int .u8 0, .int .u8 0, .int .u8 0, .int .u8 0, .int .u8 0, .int .u8 0, .int .u8 0, .int .u8 0, .int .u8 0, .int .u8 0, .int .u8 0, .int .u8 0, .int .u8 0, .int .u8 0, .int .u8 0, .int .u8 0, .int .u8 0, .int .u8 0, .int .u8 0, .int .u8 0, .int .u8 0, .int .u8 0, .int .u8 0, .int .u8 0, .int .u8 0, .int .u8 0, .int .u8 0, .int .u8 0, .int .u8 0, .int .u8 0, .int .u8 0, .int .u8 0, .int .u8 0, .int .u8 b] rfl
  have heq : (#[.int .u8 0, .int .u8 0, .int .u8 0, .int .u8 0, .int .u8 0, .int .u8 0, .int .u8 0, .int .u8 0, .int .u8 0, .int .u8 0, .int .u8 0, .int .u8 0, .int .u8 0, .int .u8 0, .int .u8 0, .int .u8 0, .int .u8 0, .int .u8 0, .int .u8 0, .int .u8 0, .int .u8 0, .int .u8 0, .int .u8 0, .int .u8 0, .int .u8 0, .int .u8 0, .int .u8 0, .int .u8 0, .int .u8 0, .int .u8 0, .int .u8 0, .int .u8 0, .int .u8 0, .int .u8 0, .int .u8 0, .int .u8 0, .int .u8 0, .int .u8 0, .int .u8 0, .int .u8 0, .int .u8 0, .int .u8 0, .int .u8 0, .int .u8 0, .int .u8 0, .int .u8 0, .int .u8 0, .int .u8 0, .int .u8 0, .int .u8 0, .int .u8 0, .int .u8 0, .int .u8 0, .int .u8 0, .int .u8 0, .int .u8 0, .int .u8 0, .int .u8 0, .int .u8 0, .int .u8 0, .int .u8 0, .int .u8 0, .int .u8 0, .int .u8 b] : Array Value) = (nums .u8 ((List.replicate 64 0).set 63 b)).toArray := rfl
  rw [hrow2, heq]
  clear hrow2 heq
  have hB : Below w.heap.size w ((w.alloc (.cells (nums .u8 ((List.replicate 64 0).set 63 b)).toArray 122)).setRow w.heap.size (nums .u8 (bytesOf s ++ ((List.replicate 64 0).set 63 b).drop s.size)).toArray) := ((Kp.of_below (fun _ => False) (below_alloc (Below.refl _ _) _)).setRow (.inr (Nat.le_refl _)) _).to_below (fun _ h => h.elim) (Nat.le_refl _)
  have hC : ((w.alloc (.cells (nums .u8 ((List.replicate 64 0).set 63 b)).toArray 122)).setRow w.heap.size (nums .u8 (bytesOf s ++ ((List.replicate 64 0).set 63 b).drop s.size)).toArray).heap[w.heap.size]? = some (.cells (nums .u8 (bytesOf s ++ ((List.replicate 64 0).set 63 b).drop s.size)).toArray 122 (0, 0)) := setRow_heap _ _ _ _ _ _ (blk_new w _)
  generalize hW : (w.alloc (.cells (nums .u8 ((List.replicate 64 0).set 63 b)).toArray 122)).setRow w.heap.size (nums .u8 (bytesOf s ++ ((List.replicate 64 0).set 63 b).drop s.size)).toArray = W2 at hB hC ⊢
  have hlen : (bytesOf s ++ ((List.replicate 64 0).set 63 b).drop s.size).length = 64 := by
    have := HS.out
    rw [List.length_append, bytesOf_length, List.length_drop, List.length_set, List.length_replicate]; omega
  generalize hLe : bytesOf s ++ ((List.replicate 64 0).set 63 b).drop s.size = L at hC hlen ⊢
  have kcv := run_convert_bytes_arg (P := Try.prog) W2 88 5 Try.underlying88 Try.underlying5 w.heap.size 0 64 64 L hlen (fun i hi => by
    rw [Nat.zero_add, blk_cell hC, List.getElem?_toArray]
    simp [nums, List.getD, List.getElem?_eq_getElem (show i < L.length by omega)]) 9 Try.underlying9
  have HB := Aside0.mk hB
  clear hrow hC hW hB
  go_wp2
  go_ret
  exact ⟨by rw [hLe]; rfl, HB.out⟩
end Go.Proofs.Ytkedodmlbepfnaa.Lg

-- from the working text Gd
set_option linter.unusedSimpArgs false
set_option linter.unusedVariables false
namespace Go.Proofs.Ytkedodmlbepfnaa.Lg
open Go.RowKit Go.Proofs.YtkedodmlbepfnaaW.PrintWords Go.Proofs.YtkedodmlbepfnaaW.PrintLast Go.Proofs.YtkedodmlbepfnaaW.PrintMore Go.Proofs.Ytkedodmlbepfnaa.Rg
/-- A disk in memory that is up, and will not fail. -/
def GD (w : World) (S : Nat → Prop) (g : Nat) (n : Nat) (f : Int) (k : Nat) : Prop := ∃ d vs vn vw, DiskAt w S g d vs vn vw ∧ d.now.length = n ∧ d.down = false ∧ d.armed = 0 ∧ d.falls = f ∧ d.wr.length ≤ k
section
variable {S S' : Nat → Prop} {w w0 w1 W W' : World} {g n k : Nat} {f : Int}
theorem GD.mono (h : GD w S g n f k) (hs : ∀ k, S k → S' k) : GD w S' g n f k := by
  obtain ⟨d, vs, vn, vw, h1, h2⟩ := h
  exact ⟨d, vs, vn, vw, h1.mono hs, h2⟩
theorem GD.more {k' : Nat} (h : GD w S g n f k) (hk : k ≤ k') : GD w S g n f k' := by
  obtain ⟨d, vs, vn, vw, h1, h2, h3, h4, h5, h6⟩ := h
  exact ⟨d, vs, vn, vw, h1, h2, h3, h4, h5, Nat.le_trans h6 hk⟩
theorem GD.below (h : GD w S g n f k) (hb : Below w.heap.size w w1) : GD w1 S g n f k := by
  obtain ⟨d, vs, vn, vw, h1, h2⟩ := h
  exact ⟨d, vs, vn, vw, h1.below hb, h2⟩
theorem GD.kp (h : GD w S g n f k) (hk : Kp S' w w1) (hd : ∀ k, S k → k < w.heap.size → ¬ S' k) : GD w1 S g n f k := by
  obtain ⟨d, vs, vn, vw, h1, h2⟩ := h
  exact ⟨d, vs, vn, vw, h1.kp hk hd, h2⟩
theorem Own.trim {e : TypeId} {size n : Nat} {v : Value} {xs : List Value} (h : Own w S e size v n xs) : Own w (fun k => S k ∧ k < w.heap.size) e size v n xs := by
  refine ⟨h.1, fun k hk => ⟨h.2 k hk, ?_⟩⟩
  obtain ⟨c, hc⟩ := own_typed h.1 k hk
  exact blk_lt hc
theorem GD.trim (h : GD w S g n f k) : GD w (fun k => S k ∧ k < w.heap.size) g n f k := by
  obtain ⟨d, vs, vn, vw, ⟨h1, h2, h3, h4, h5, h6, h7⟩, hr⟩ := h
  exact ⟨d, vs, vn, vw, ⟨h1, ⟨h2, blk_lt h3⟩, h3, h4.trim, h5.trim, h6.trim, h7⟩, hr⟩
/-- In a function's walk: the disk is well, and nothing but S has changed since w0. -/
def GK (w0 : World) (S : Nat → Prop) (g n : Nat) (f : Int) (k : Nat) (W : World) : Prop := GD W (Nw S w0) g n f k ∧ Kp S w0 W
theorem GK.start (h : GD w S g n f k) : GK w S g n f k w := ⟨h.mono fun _ hk => .inl hk, Kp.refl _ _⟩
theorem GK.below (h : GK w0 S g n f k W) (hb : Below W.heap.size W W') : GK w0 S g n f k W' := ⟨h.1.below hb, h.2.below hb⟩
theorem Nw.idem (hw : w0.heap.size ≤ W.heap.size) : ∀ k, Nw (Nw S w0) W k → Nw S w0 k := fun k hk => hk.elim id fun h => .inr (Nat.le_trans hw h)
/-- What was done in a callee. -/
theorem GK.step {k' : Nat} (h : GK w0 S g n f k W) (hg : GD W' (Nw (Nw S w0) W) g n f k') (hk : Kp (Nw S w0) W W') : GK w0 S g n f k' W' :=
  ⟨hg.mono (Nw.idem h.2.size), h.2.trans hk⟩
/-- At a function's end: its own new blocks came first. -/
theorem GK.fin (h : GK w1 (fun k => S k ∧ k < w.heap.size) g n f k W) (hb : Below w.heap.size w w1) : GD W (Nw S w) g n f k ∧ Kp S w W :=
  ⟨h.1.mono fun i hi => hi.elim (fun h => .inl h.1) (fun h => .inr (Nat.le_trans hb.size h)), (Kp.of_below S hb).trans (h.2.mono fun i hi => .inl hi.1)⟩
theorem GD.begin (h : GD w S g n f k) (hb : Below w.heap.size w w1) : GK w1 (fun k => S k ∧ k < w.heap.size) g n f k w1 := GK.start (h.trim.below hb)
end
theorem gwrite_calls {w0 W : World} {S : Nat → Prop} {g n k : Nat} {f : Int} (i : Nat) (s : ByteArray) (h : GK w0 S g n f k W) (hi : i < n) (hs : s.size = 64) (hf : f ≤ 1000000) (hk : k ≤ 1000) :
    Calls Try.prog 31 #[.pointer (some ⟨g, 0, none⟩), .int .i64 (i : Int), .string s] W fun e W' => e = .returned (.int .i64 0) ∧ GK w0 S g n f (k + 1) W' := by
  obtain ⟨d, vs, vn, vw, h1, h2, h3, h4, h5, h6⟩ := h.1
  refine (write_calls W (Nw S w0) g d vs vn vw (i : Int) s h1 (by omega) (by omega)).mono ?_
  rintro e W' ⟨vs', vn', vw', rfl, hd, hk'⟩
  have hc : d.check (i : Int) = 0 := by
    unfold DS.check
    rw [if_neg (by simp [h3]), if_neg (by omega)]
  have hw : d.write (i : Int) s = (0, d.put i (bytesOf s)) := by
    unfold DS.write
    rw [if_neg (by simp [hc]), if_neg (by simp [hs]), Int.toNat_natCast]
    have : (d.put i (bytesOf s)).fails = (false, d.put i (bytesOf s)) := by
      unfold DS.fails
      rw [if_pos (show (d.put i (bytesOf s)).armed = 0 from h4)]
    rw [this]; rfl
  rw [hw] at hd ⊢
  refine ⟨rfl, h.step ⟨_, vs', vn', vw', hd, ?_, h3, h4, h5, ?_⟩ hk'⟩
  · show (d.now.set i (bytesOf s)).length = n
    rw [List.length_set, h2]
  · show (d.wr ++ [((i : Int), bytesOf s)]).length ≤ k + 1
    rw [List.length_append, List.length_singleton]; omega
theorem gsync_calls {w0 W : World} {S : Nat → Prop} {g n k : Nat} {f : Int} (h : GK w0 S g n f k W) (hf : f ≤ 1000000) :
    Calls Try.prog 34 #[.pointer (some ⟨g, 0, none⟩)] W fun e W' => e = .returned (.int .i64 0) ∧ GK w0 S g n f 0 W' := by
  obtain ⟨d, vs, vn, vw, h1, h2, h3, h4, h5, h6⟩ := h.1
  refine (sync_calls W (Nw S w0) g d vs vn vw h1 (by omega)).mono ?_
  rintro e W' ⟨vs', vn', vw', rfl, hd, hk'⟩
  have hff : d.fails = (false, d) := by unfold DS.fails; rw [if_pos h4]
  have hw : d.sync = (0, { d with safe := d.now, wr := [] }) := by
    unfold DS.sync
    rw [if_neg (by simp [h3]), hff, if_neg (by simp)]
  rw [hw] at hd ⊢
  exact ⟨rfl, h.step ⟨_, vs', vn', vw', hd, h2, h3, h4, h5, Nat.zero_le _⟩ hk'⟩
theorem gsectors_calls {w0 W : World} {S : Nat → Prop} {g n k : Nat} {f : Int} (h : GK w0 S g n f k W) :
    Calls Try.prog 44 #[.pointer (some ⟨g, 0, none⟩)] W fun e W' => e = .returned (.int .i64 (n : Int)) ∧ GK w0 S g n f k W' ∧ Below W.heap.size W W' := by
  obtain ⟨d, vs, vn, vw, h1, h2, _⟩ := h.1
  refine (sectors_calls W (Nw S w0) g d vs vn vw h1).mono ?_
  rintro e W' ⟨rfl, ⟨nd, rfl⟩⟩
  have hb := pw_below_drewN (Below.refl W.heap.size W) nd
  exact ⟨by rw [h2], h.below hb, hb⟩
theorem gup_calls {w0 W : World} {S : Nat → Prop} {g n k : Nat} {f : Int} (h : GK w0 S g n f k W) :
    Calls Try.prog 42 #[.pointer (some ⟨g, 0, none⟩)] W fun e W' => e = .returned (.bool true) ∧ GK w0 S g n f k W' ∧ Below W.heap.size W W' := by
  obtain ⟨d, vs, vn, vw, h1, h2, h3, _⟩ := h.1
  refine (up_calls W (Nw S w0) g d vs vn vw h1).mono ?_
  rintro e W' ⟨rfl, ⟨nd, rfl⟩⟩
  have hb := pw_below_drewN (Below.refl W.heap.size W) nd
  exact ⟨by rw [h3]; rfl, h.below hb, hb⟩
set_option maxRecDepth 100000 in
theorem must_calls (w : World) : Calls Try.prog 110 #[.int .i64 0] w fun e w' => e = .returned (.tuple #[]) ∧ w' = w := by
  go_enter Try.func110, Try.ntmps110
  go_wp2
  go_end0
  exact ⟨rfl, rfl⟩
set_option maxRecDepth 100000 in
theorem make1_idle (p q : Addr) (w : World) (h : w.cell? p = some (.int .i64 0)) :
    CallsD Try.prog 107 #[.pointer (some p), .pointer (some q)] .returning w fun e u' w' => u' = .returning ∧ (e = .returned (.tuple #[]) ∧ w' = w) := by
  go_enter_d Try.func107, Try.ntmps107
  go_wp2
  go_end0
  exact ⟨rfl, rfl⟩
set_option maxRecDepth 100000 in
theorem caught_idle (p : Addr) (w : World) :
    CallsD Try.prog 108 #[.pointer (some p)] .returning w fun e u' w' => e = .returned (.tuple #[]) ∧ u' = .returning ∧ w' = w := by
  refine callsD_of_wpS Try.func108 rfl fun c₀ cs hu => ?_
  apply wpS_seq
  apply wpS_region
  simp [wpOpsS, go_sem, recoverD, hu, Try.ntmps108, Exit.thenS]
  refine wpS_of_wp ?_
  go_wp2
  cases c₀
  simp_all [bodyPostS, results, Try.results108]
end Go.Proofs.Ytkedodmlbepfnaa.Lg

-- from the working text Mk
set_option linter.unusedSimpArgs false
set_option linter.unusedVariables false
namespace Go.Proofs.Ytkedodmlbepfnaa.Lg
open Go.RowKit Go.Proofs.YtkedodmlbepfnaaW.PrintWords Go.Proofs.YtkedodmlbepfnaaW.PrintLast Go.Proofs.YtkedodmlbepfnaaW.PrintMore Go.Proofs.Ytkedodmlbepfnaa.Rg
theorem GK.keeps {w0 W : World} {S : Nat → Prop} {g n k b : Nat} {f : Int} {o : Obj} (h : GK w0 S g n f k W) (hb : w0.heap[b]? = some o) (hS : ¬ S b) : W.heap[b]? = some o :=
  (h.2.block b (by rcases Nat.lt_or_ge b w0.heap.size with h | h; exact h; rw [Array.getElem?_eq_none h] at hb; cases hb) hS).trans hb
theorem GD.fallsC {W : World} {S : Nat → Prop} {g n k : Nat} {f : Int} (h : GD W S g n f k) : W.cell? ⟨g, 5, none⟩ = some (.int .i64 f) := by
  obtain ⟨d, vs, vn, vw, h1, _, _, _, h5, _⟩ := h
  rw [blk_cell h1.2.2.1 5, ← h5]; rfl
/-- The content of a book for two offices, the second of which has no entries. -/
def bookCells (e0 : Value) (used : Int) (gd : Nat) (falls : Int) : Array Value := #[.int .i64 2, e0, .slice none 0 0, .slice none 0 0, .slice none 0 0, .slice none 0 0, .slice none 0 0, .slice none 0 0, .slice none 0 0, .int .i64 used, .pointer (some ⟨gd, 0, none⟩), .int .i64 falls]
theorem gwriteI_calls {w0 W : World} {S : Nat → Prop} {g n k : Nat} {f : Int} (i : Int) (s : ByteArray) (h : GK w0 S g n f k W) (h0 : 0 ≤ i) (hi : i < n) (hs : s.size = 64) (hf : f ≤ 1000000) (hk : k ≤ 1000) :
    Calls Try.prog 31 #[.pointer (some ⟨g, 0, none⟩), .int .i64 i, .string s] W fun e W' => e = .returned (.int .i64 0) ∧ GK w0 S g n f (k + 1) W' := by
  obtain ⟨i, rfl⟩ := Int.eq_ofNat_of_zero_le h0
  exact gwrite_calls i s h (by omega) hs hf hk
def secA (s : ByteArray) (b : Int) : ByteArray := strOfNums (bytesOf s ++ ((List.replicate 64 0).set 63 b).drop s.size)
theorem secA_size {s : ByteArray} (b : Int) (hs : s.size ≤ 64) : (secA s b).size = 64 := by
  unfold secA
  rw [strOfNums_size, List.length_append, bytesOf_length, List.length_drop, List.length_set, List.length_replicate]
  omega
theorem sec_calls (s : ByteArray) (b : Int) (w : World) (hs : s.size ≤ 64) :
    Calls Try.prog 109 #[.string s, .int .u8 b] w fun e w' => ∃ r : ByteArray, e = .returned (.string r) ∧ r.size = 64 ∧ Below w.heap.size w w' :=
  (sectorOf_calls s b w hs).mono fun e w' h => ⟨_, h.1, secA_size b hs, h.2⟩
theorem blk_new1 (w : World) (o o' : Obj) : ((w.alloc o).alloc o').heap[w.heap.size]? = some o :=
  ((below_alloc (Below.refl (w.alloc o).heap.size (w.alloc o)) o').block w.heap.size (by simp)).trans (blk_new w o)
theorem blk_new2 (w : World) (o o' : Obj) : ((w.alloc o).alloc o').heap[w.heap.size + 1]? = some o' := by
  have h := blk_new (w.alloc o) o'
  rw [show (w.alloc o).heap.size = w.heap.size + 1 by simp] at h
  exact h
theorem make_fin (w w' : World) (S : Nat → Prop) (g n k : Nat) (h : GK ((w.alloc (.cells #[.pointer none] 85)).alloc (.cells #[.int .i64 0] 28)) (fun k => S k ∧ k < w.heap.size) g n 0 k w')
    (hbk : ∀ o, (w'.alloc o).heap[w.heap.size]? = some (.cells #[.pointer none] 85 (0, 0))) (hek : ∀ o, (w'.alloc o).heap[w.heap.size + 1]? = some (.cells #[.int .i64 0] 28 (0, 0))) (hlt : w.heap.size + 1 < w'.heap.size) :
    ((((w'.alloc (.cells (bookCells (.slice none 0 0) 1 g 0) 95)).setCell ⟨w.heap.size, 0, none⟩ (.pointer (some ⟨w'.heap.size, 0, none⟩))).setCell ⟨w.heap.size + 1, 0, none⟩ (.int .i64 0)).cell? ⟨w.heap.size, 0, none⟩ = some (.pointer (some ⟨w'.heap.size, 0, none⟩))) ∧
    ((((w'.alloc (.cells (bookCells (.slice none 0 0) 1 g 0) 95)).setCell ⟨w.heap.size, 0, none⟩ (.pointer (some ⟨w'.heap.size, 0, none⟩))).setCell ⟨w.heap.size + 1, 0, none⟩ (.int .i64 0)).cell? ⟨w.heap.size + 1, 0, none⟩ = some (.int .i64 0)) ∧
    ∃ Sd, GD (((w'.alloc (.cells (bookCells (.slice none 0 0) 1 g 0) 95)).setCell ⟨w.heap.size, 0, none⟩ (.pointer (some ⟨w'.heap.size, 0, none⟩))).setCell ⟨w.heap.size + 1, 0, none⟩ (.int .i64 0)) Sd g n 0 k ∧ ¬ Sd w'.heap.size ∧ (∀ i, Sd i → Nw S w i) ∧ w.heap.size ≤ w'.heap.size ∧
      (((w'.alloc (.cells (bookCells (.slice none 0 0) 1 g 0) 95)).setCell ⟨w.heap.size, 0, none⟩ (.pointer (some ⟨w'.heap.size, 0, none⟩))).setCell ⟨w.heap.size + 1, 0, none⟩ (.int .i64 0)).heap[w'.heap.size]? = some (.cells (bookCells (.slice none 0 0) 1 g 0) 95 (0, 0)) ∧
      Kp S w (((w'.alloc (.cells (bookCells (.slice none 0 0) 1 g 0) 95)).setCell ⟨w.heap.size, 0, none⟩ (.pointer (some ⟨w'.heap.size, 0, none⟩))).setCell ⟨w.heap.size + 1, 0, none⟩ (.int .i64 0)) := by
  have hw1 : ((w.alloc (.cells #[.pointer none] 85)).alloc (.cells #[.int .i64 0] 28)).heap.size = w.heap.size + 1 + 1 := by simp
  have hB : Below w.heap.size w ((w.alloc (.cells #[.pointer none] 85)).alloc (.cells #[.int .i64 0] 28)) := below_alloc (below_alloc (Below.refl _ _) _) _
  have hA : Below w'.heap.size w' (w'.alloc (.cells (bookCells (.slice none 0 0) 1 g 0) 95)) := below_alloc (Below.refl _ _) _
  have h2 := (hbk (.cells (bookCells (.slice none 0 0) 1 g 0) 95))
  have h3 := (hek (.cells (bookCells (.slice none 0 0) 1 g 0) 95))
  have hnew := blk_new w' (.cells (bookCells (.slice none 0 0) 1 g 0) 95)
  generalize w'.alloc (.cells (bookCells (.slice none 0 0) 1 g 0) 95) = W1 at hA h2 h3 hnew ⊢
  have a1 : (W1.setCell ⟨w.heap.size, 0, none⟩ (.pointer (some ⟨w'.heap.size, 0, none⟩))).heap[w.heap.size + 1]? = some (.cells #[.int .i64 0] 28 (0, 0)) := (Below.heap_setCell _ _ _ _ (by simp)).trans h3
  have a2 : (W1.setCell ⟨w.heap.size, 0, none⟩ (.pointer (some ⟨w'.heap.size, 0, none⟩))).heap[w.heap.size]? = some (.cells #[.pointer (some ⟨w'.heap.size, 0, none⟩)] 85 (0, 0)) := by rw [blk_set h2]; rfl
  refine ⟨?_, ?_, fun i => Nw (fun k => S k ∧ k < w.heap.size) ((w.alloc (.cells #[.pointer none] 85)).alloc (.cells #[.int .i64 0] 28)) i ∧ i < w'.heap.size, ?_, ?_, ?_, by omega, ?_, ?_⟩
  · exact (blk_cell ((Below.heap_setCell _ _ _ _ (by simp)).trans a2) 0).trans rfl
  · exact (blk_cell (blk_set a1 0 _) 0).trans rfl
  · have hk2 : Kp (fun k => k = w.heap.size ∨ k = w.heap.size + 1) w' ((W1.setCell ⟨w.heap.size, 0, none⟩ (.pointer (some ⟨w'.heap.size, 0, none⟩))).setCell ⟨w.heap.size + 1, 0, none⟩ (.int .i64 0)) :=
      ((Kp.of_below _ hA).setCell (.inl (.inl rfl)) _).setCell (.inl (.inr rfl)) _
    refine h.1.trim.kp hk2 fun i hi hlt' hx => ?_
    rcases hi.1 with h1 | h1
    · rcases hx with hx | hx <;> omega
    · rw [hw1] at h1
      rcases hx with hx | hx <;> omega
  · exact fun hx => by omega
  · rintro i ⟨hi, _⟩
    rcases hi with h1 | h1
    · exact .inl h1.1
    · rw [hw1] at h1
      exact .inr (by omega)
  · exact (Below.heap_setCell _ _ _ _ (by simp; omega)).trans ((Below.heap_setCell _ _ _ _ (by simp; omega)).trans hnew)
  · exact (((h.fin hB).2.below hA).setCell (.inr (Nat.le_refl _)) _).setCell (.inr (by simp)) _
set_option maxHeartbeats 8000000 in
set_option maxRecDepth 100000 in
theorem make_calls (w : World) (S : Nat → Prop) (g n k : Nat) (h : GD w S g n 0 k) (hn : 2 ≤ n) (hn2 : n ≤ 4096) (hk : k ≤ 100) :
    Calls Try.prog 59 #[.pointer (some ⟨g, 0, none⟩), .int .i64 2] w fun e w' => ∃ gb Sd, e = .returned (.tuple #[.pointer (some ⟨gb, 0, none⟩), .int .i64 0]) ∧ GD w' Sd g n 0 0 ∧ ¬ Sd gb ∧ (∀ i, Sd i → Nw S w i) ∧ w.heap.size ≤ gb ∧ w'.heap[gb]? = some (.cells (bookCells (.slice none 0 0) 1 g 0) 95 (0, 0)) ∧ Kp S w w' := by
  have H := Aside0.mk h
  clear h
  have HK := Aside0.mk (GD.begin (w1 := (w.alloc (.cells #[.pointer none] 85)).alloc (.cells #[.int .i64 0] 28)) H.out (below_alloc (below_alloc (Below.refl _ _) _) _))
  have VB := Aside0.mk (blk_new1 w (.cells #[.pointer none] 85) (.cells #[.int .i64 0] 28))
  have VE := Aside0.mk (blk_new2 w (.cells #[.pointer none] 85) (.cells #[.int .i64 0] 28))
  have hmf : ∀ (fn : Fn) (first cap : Array Value) (w : World), (Instr.makeFunc fn first cap).run Try.prog w = .ok (.func fn first cap) w := fun _ _ _ _ => rfl
  have kcv : ∀ W : World, (convert 88 9 (.slice (some ⟨W.heap.size, 0, none⟩) 1 1)).run Try.prog (W.alloc (.cells #[.int .u8 2] 5)) = .ok (.string (strOfNums [2])) (W.alloc (.cells #[.int .u8 2] 5)) := fun W =>
    run_convert_bytes_arg (P := Try.prog) _ 88 5 Try.underlying88 Try.underlying5 W.heap.size 0 1 1 [2] rfl (fun i hi => by
      have : i = 0 := by omega
      subst this
      exact (blk_cell (blk_new W _) 0).trans rfl) 9 Try.underlying9
  have b1 : decide ((n : Int) < 2) = false := by simp; omega
  go_enter_defers Try.func59, Try.ntmps59
  go_wp2_with (first
    | (go_at_call 42; (with_reducible refine (gup_calls HK.out).mono ?_); rintro e w' ⟨rfl, hk, -⟩; have HK' := Aside0.mk hk; clear HK hk; have HK := HK'; clear HK')
    | (go_at_call 44; (with_reducible refine (gsectors_calls HK.out).mono ?_); rintro e w' ⟨rfl, hk, -⟩; have HK' := Aside0.mk hk; clear HK hk; have HK := HK'; clear HK')
    | (go_at_call 109; (with_reducible refine (sec_calls _ _ _ ?hsz).mono ?_); (case hsz => first | exact Nat.zero_le _ | (rw [strOfNums_size]; simp) | decide); rintro e w' ⟨r, rfl, hr, hb⟩; have HR := Aside0.mk hr; have HK' := (by first | exact Aside0.mk (HK.out.below hb) | exact Aside0.mk ((HK.out.below (below_alloc (Below.refl _ _) _)).below hb) : Aside0 (GK _ _ g n 0 _ w')); clear HK hr hb; have HK := HK'; clear HK')
    | (go_at_call 110; (with_reducible refine (must_calls _).mono ?_); rintro e w' ⟨rfl, rfl⟩)
    | (go_at_call 34; (with_reducible refine (gsync_calls HK.out (by decide)).mono ?_); rintro e w' ⟨rfl, hk⟩; have HK' := Aside0.mk hk; clear HK hk; have HK := HK'; clear HK'; have hv1 := HK.out.keeps VB.out (fun h => absurd h.2 (by omega)); have hv2 := HK.out.keeps VE.out (fun h => absurd h.2 (by omega)); have cf : w'.cell? ⟨g, 5, none⟩ = some (.int .i64 0) := HK.out.1.fallsC; have cb : ∀ o, (w'.alloc o).cell? ⟨w.heap.size, 0, none⟩ = some (.pointer none) := fun o => (blk_cell (((below_alloc (Below.refl _ w') o).block _ (blk_lt hv1)).trans hv1) 0).trans rfl; have fb : ∀ o, (w'.alloc o).frozen? ⟨w.heap.size, 0, none⟩ = false := fun o => blk_frozen (((below_alloc (Below.refl _ w') o).block _ (blk_lt hv1)).trans hv1) 0; have ce : ∀ o, (w'.alloc o).cell? ⟨w.heap.size + 1, 0, none⟩ = some (.int .i64 0) := fun o => (blk_cell (((below_alloc (Below.refl _ w') o).block _ (blk_lt hv2)).trans hv2) 0).trans rfl; have fe : ∀ o, (w'.alloc o).frozen? ⟨w.heap.size + 1, 0, none⟩ = false := fun o => blk_frozen (((below_alloc (Below.refl _ w') o).block _ (blk_lt hv2)).trans hv2) 0; have HV1 := Aside0.mk hv1; have HV2 := Aside0.mk hv2; clear hv1 hv2)
    | (go_at_call 31; (with_reducible refine (gwriteI_calls _ _ HK.out ?hi0 ?hi1 HR.out (by decide) ?hk0).mono ?_); (case hi0 => first | omega | decide); (case hi1 => omega); (case hk0 => omega); rintro e w' ⟨rfl, hk⟩; have HK' := Aside0.mk hk; clear HK hk; have HK := HK'; clear HK'))
  have hbk : ∀ o, (w'.alloc o).heap[w.heap.size]? = some (.cells #[.pointer none] 85 (0, 0)) := fun o => ((below_alloc (Below.refl _ w') o).block _ (blk_lt HV1.out)).trans HV1.out
  have hek : ∀ o, (w'.alloc o).heap[w.heap.size + 1]? = some (.cells #[.int .i64 0] 28 (0, 0)) := fun o => ((below_alloc (Below.refl _ w') o).block _ (blk_lt HV2.out)).trans HV2.out
  have hlt := blk_lt HV2.out
  have hfin := make_fin w w' S g n 0 HK.out hbk hek hlt
  generalize hWF : ((w'.alloc (.cells (bookCells (.slice none 0 0) 1 g 0) 95)).setCell ⟨w.heap.size, 0, none⟩ (.pointer (some ⟨w'.heap.size, 0, none⟩))).setCell ⟨w.heap.size + 1, 0, none⟩ (.int .i64 0) = WF at hfin
  rw [show ((w'.alloc (.cells #[.int .i64 2, .slice none 0 0, .slice none 0 0, .slice none 0 0, .slice none 0 0, .slice none 0 0, .slice none 0 0, .slice none 0 0, .slice none 0 0, .int .i64 1, .pointer (some ⟨g, 0, none⟩), .int .i64 0] 95)).setCell ⟨w.heap.size, 0, none⟩ (.pointer (some ⟨w'.heap.size, 0, none⟩))).setCell ⟨w.heap.size + 1, 0, none⟩ (.int .i64 0) = WF from hWF]
  obtain ⟨hc1, hc2, hrest⟩ := hfin
  have HRest := Aside0.mk hrest
  clear hrest hWF hbk hek hlt cb ce fb fe cf kcv hmf
  refine leaves_cons (f := 108) (args := #[.pointer (some ⟨w.heap.size + 1, 0, none⟩)]) (by simp) (by simp [go_sem]) ?_
  refine (caught_idle _ _).mono ?_
  rintro e u' w'' ⟨rfl, rfl, rfl⟩
  refine leaves_cons (f := 107) (args := #[.pointer (some ⟨w.heap.size + 1, 0, none⟩), .pointer (some ⟨w.heap.size, 0, none⟩)]) (by simp [settle]) (by simp [go_sem]) ?_
  refine (make1_idle _ _ _ hc2).mono ?_
  rintro e u' w'' ⟨rfl, rfl, rfl⟩
  obtain ⟨Sd, hr⟩ := HRest.out
  have HR2 := Aside0.mk hr
  clear hr HRest
  refine ⟨_, ?_, ⟨_, Sd, rfl, HR2.out⟩⟩
  simp [results, Try.results59, go_sem, hc1, hc2]
end Go.Proofs.Ytkedodmlbepfnaa.Lg

-- from the working text Rd
set_option linter.unusedSimpArgs false
set_option linter.unusedVariables false
namespace Go.Proofs.Ytkedodmlbepfnaa.Lg
open Go.RowKit Go.Proofs.YtkedodmlbepfnaaW.PrintWords Go.Proofs.YtkedodmlbepfnaaW.PrintLast Go.Proofs.YtkedodmlbepfnaaW.PrintMore Go.Proofs.Ytkedodmlbepfnaa.Rg
theorem GK.more {w0 W : World} {S : Nat → Prop} {g n k k' : Nat} {f : Int} (h : GK w0 S g n f k W) (hk : k ≤ k') : GK w0 S g n f k' W := ⟨h.1.more hk, h.2⟩
theorem payload_calls (a b : Int) (s : ByteArray) (w : World) (hs : s.size ≤ 2400) :
    Calls Try.prog 156 #[.agg #[.int .i64 a, .int .i64 b, .string s]] w fun e w' => ∃ r : ByteArray, e = .returned (.string r) ∧ r.size = s.size + 2 ∧ Below w.heap.size w w' := by
  have hz : (strOfNums [a % 256, b % 256]).size = 2 := by rw [strOfNums_size]; rfl
  refine (ledger_payload.calls a b s (strOfNums [a % 256, b % 256] ++ s) w ?_).mono ?_
  · unfold ledger_payload.f
    rw [Option.bind_some, if_pos (by omega)]
  · rintro e w' ⟨rfl, hb⟩
    exact ⟨_, rfl, by rw [ByteArray.size_append, hz]; omega, hb⟩
theorem count_calls (n : Nat) (w : World) (hn : n ≤ 3000) : Calls Try.prog 155 #[.int .i64 (n : Int)] w fun e w' => e = .returned (.int .i64 ((1 + (n + 4) / 64 : Nat) : Int)) ∧ Below w.heap.size w w' := by
  refine (ledger_count.calls (n : Int) _ w rfl).mono ?_
  rintro e w' ⟨rfl, ⟨nd, rfl⟩⟩
  refine ⟨?_, pw_below_drewN (Below.refl _ _) nd⟩
  have h1 : wrap64 ((n : Int) + 4) = (n : Int) + 4 := by unfold wrap64; omega
  have h2 : Int.tdiv ((n : Int) + 4) 64 = ((n + 4) / 64 : Nat) := by
    rw [show (n : Int) + 4 = ((n + 4 : Nat) : Int) by omega]
    rfl
  rw [h1, h2]
  have h3 : wrap64 (((n + 4) / 64 : Nat) : Int) = (((n + 4) / 64 : Nat) : Int) := by unfold wrap64; omega
  rw [h3]
  have h4 : wrap64 (1 + (((n + 4) / 64 : Nat) : Int)) = ((1 + (n + 4) / 64 : Nat) : Int) := by unfold wrap64; omega
  rw [h4]
theorem count_calls' (n c : Nat) (w : World) (hn : n ≤ 3000) (hc : c = 1 + (n + 4) / 64) : Calls Try.prog 155 #[.int .i64 (n : Int)] w fun e w' => e = .returned (.int .i64 (c : Int)) ∧ Below w.heap.size w w' := by
  subst hc
  exact count_calls n w hn
theorem cut_run2 (p : ByteArray) (i j : Nat) (W : World) (hij : i ≤ j) (hj : j ≤ p.size) : (Instr.slice 9 (.string p) (some (.int .i64 (i : Int))) (some (.int .i64 (j : Int))) none).run Try.prog W = .ok (.string (p.extract i j)) W := by
  have hq := run_slice_string (P := Try.prog) W 9 p .i64 .i64 (i : Int) (j : Int) Try.underlying9 (by omega) (by omega) (by omega)
  rw [Int.toNat_natCast, Int.toNat_natCast] at hq
  exact hq
theorem cut_size0 (p : ByteArray) (i : Nat) : (p.extract i (min p.size (i + 64))).size ≤ 64 := by
  rw [ByteArray.size_extract]
  have h1 := Nat.min_le_right p.size (i + 64)
  have h2 := Nat.min_le_left (min p.size (i + 64)) p.size
  omega
theorem cut_run3 (p : ByteArray) (i : Nat) (h1 : 1 ≤ i) (hle : 59 + (i - 1) * 64 ≤ p.size) : ∃ r : ByteArray, r.size ≤ 64 ∧ ∀ W : World, (Instr.slice 9 (.string p) (some (.int .i64 (59 + ((i : Int) - 1) * 64))) (some (.int .i64 (min (p.size : Int) (59 + ((i : Int) - 1) * 64 + 64)))) none).run Try.prog W = .ok (.string r) W := by
  obtain ⟨fr, hfr⟩ : ∃ fr : Nat, fr = 59 + (i - 1) * 64 := ⟨_, rfl⟩
  have e1 : (59 : Int) + ((i : Int) - 1) * 64 = (fr : Int) := by omega
  have e2 : min (p.size : Int) ((fr : Int) + 64) = ((min p.size (fr + 64) : Nat) : Int) := by
    by_cases h : fr + 64 ≤ p.size
    · rw [Nat.min_eq_right h, Int.min_eq_right (by omega)]; omega
    · rw [Nat.min_eq_left (by omega), Int.min_eq_left (by omega)]
  have hf : fr ≤ p.size := by omega
  refine ⟨p.extract fr (min p.size (fr + 64)), cut_size0 p fr, fun W => ?_⟩
  rw [e1, e2]
  exact cut_run2 p fr _ W (Nat.le_min.2 ⟨hf, Nat.le_add_right _ _⟩) (Nat.min_le_left _ _)
def recRel (p : ByteArray) : Nat → Value → World → Prop
  | 0, v, _ => v = .int .i64 (p.size : Int)
  | 1, v, _ => v = .int .u8 ((p.size : Int) % 256)
  | 2, v, _ => v = .int .i64 (p.size : Int)
  | 3, v, _ => v = .int .i64 ((p.size / 256 : Nat) : Int)
  | 4, v, _ => v = .int .u8 (((p.size / 256 : Nat) : Int) % 256)
  | 5, v, w => ∃ gl, v = .slice (some ⟨gl, 0, none⟩) 4 4 ∧ w.heap[gl]? = some (.cells #[.int .u8 ((p.size : Int) % 256), .int .u8 (((p.size / 256 : Nat) : Int) % 256), .int .u8 0, .int .u8 0] 5 (0, 0))
  | 6, v, _ => ∃ r : ByteArray, v = .string r ∧ r.size = 4
  | 7, v, _ => v = .string p
  | 8, v, _ => v = .int .i64 (p.size : Int)
  | 9, v, _ => v = .int .i64 ((min p.size 59 : Nat) : Int)
  | 10, v, _ => ∃ r : ByteArray, v = .string r ∧ r.size ≤ 59
  | 11, v, _ => ∃ r : ByteArray, v = .string r ∧ r.size ≤ 64
  | 12, v, _ => ∃ r : ByteArray, v = .string r ∧ r.size ≤ 64
  | _, _, _ => True
theorem recRel_stable (p : ByteArray) (j : Nat) (v : Value) (w w' : World) (h : recRel p j v w) (hb : Below w.heap.size w w') : recRel p j v w' := by
  revert h
  unfold recRel
  split <;> intro h <;> first | exact h | (obtain ⟨gl, h1, h2⟩ := h; exact ⟨gl, h1, (hb.block gl (blk_lt h2)).trans h2⟩)
set_option maxHeartbeats 8000000 in
set_option maxRecDepth 100000 in
theorem record_calls (w : World) (S : Nat → Prop) (g n k at_ : Nat) (f a b : Int) (s : ByteArray) (h : GD w S g n f k) (hf : f ≤ 1000000) (hn : n ≤ 4096) (hk : k ≤ 100) (hs : s.size ≤ 2400) (hat : at_ + 1 + (s.size + 6) / 64 ≤ n) :
    Calls Try.prog 143 #[.pointer (some ⟨g, 0, none⟩), .int .i64 (at_ : Int), .agg #[.int .i64 a, .int .i64 b, .string s]] w fun e w' => e = .returned (.tuple #[]) ∧ GD w' (Nw S w) g n f 0 ∧ Kp S w w' := by
  have H := Aside0.mk h
  have HF := Aside0.mk hf
  clear h hf
  have HK := Aside0.mk (GD.begin (w1 := w.alloc (.cells #[.int .i64 a, .int .i64 b, .string s] 23)) H.out (below_alloc (Below.refl _ _) _))
  go_enter Try.func143, Try.ntmps143
  go_wp2_with (first
    | (go_at_call 156; (with_reducible refine (payload_calls _ _ _ _ hs).mono ?_); rintro e w' ⟨p, rfl, hp, hb⟩; have HP := Aside0.mk hp; clear hp; have HK' := Aside0.mk (HK.out.below hb); clear HK hb; have HK := HK'; clear HK'))
  have hps : p.size ≤ 2402 := by rw [HP.out]; omega
  have HPs := Aside0.mk hps
  clear hps
  refine rg_ [0, 1, 2, 3, 4, 5, 6, 7, 8, 9, 10, 11, 12] [(0, 16), (1, 17), (2, 18), (3, 19), (4, 20), (5, 21), (6, 22), (7, 23), (8, 24), (9, 25), (10, 26), (11, 27), (12, 8)] (bitsOf (rtab .any (opsOf Try.f143 3)).2) (recRel p) (by kernel_rfl) rfl (by kernel_rfl) rfl (by kernel_rfl) ?stab ?steps ?rend
  case steps =>
    refine steps_cons (fun a1 w1 hB hsz hdf hn hd => ⟨_, rfl, fun K hK => ?_⟩) ?_
    · have e7 := eval_of ((hn 7 rfl).trans rfl)
      refine value_ (v := .int .i64 (p.size : Int)) (w1 := w1) rfl rfl ?_ (hK _ _ (Below.refl _ _) rfl)
      clear hd hn hK
      simp only [execOp, Option.map_some, Option.map_none, List.map_toArray, List.map_cons, List.map_nil, List.getElem_toArray, List.getElem_cons_zero, List.getElem_cons_succ, e7]
      clear e7
      go_simp
    refine steps_cons (fun a1 w1 hB hsz hdf hn hd => ⟨_, rfl, fun K hK => ?_⟩) ?_
    · obtain ⟨v16, h16, rfl⟩ := hd 0 16 rfl (by kernel_rfl)
      have e16 := eval_of h16
      clear h16
      refine value_ (v := .int .u8 ((p.size : Int) % 256)) (w1 := w1) rfl rfl ?_ (hK _ _ (Below.refl _ _) rfl)
      clear hd hn hK
      simp only [execOp, Option.map_some, Option.map_none, List.map_toArray, List.map_cons, List.map_nil, List.getElem_toArray, List.getElem_cons_zero, List.getElem_cons_succ, e16]
      clear e16
      have hq := IntKind.wrap_u8 (p.size : Int)
      go_simp
    refine steps_cons (fun a1 w1 hB hsz hdf hn hd => ⟨_, rfl, fun K hK => ?_⟩) ?_
    · have e7 := eval_of ((hn 7 rfl).trans rfl)
      refine value_ (v := .int .i64 (p.size : Int)) (w1 := w1) rfl rfl ?_ (hK _ _ (Below.refl _ _) rfl)
      clear hd hn hK
      simp only [execOp, Option.map_some, Option.map_none, List.map_toArray, List.map_cons, List.map_nil, List.getElem_toArray, List.getElem_cons_zero, List.getElem_cons_succ, e7]
      clear e7
      go_simp
    refine steps_cons (fun a1 w1 hB hsz hdf hn hd => ⟨_, rfl, fun K hK => ?_⟩) ?_
    · obtain ⟨v18, h18, rfl⟩ := hd 2 18 rfl (by kernel_rfl)
      have e18 := eval_of h18
      clear h18
      refine value_ (v := .int .i64 ((p.size / 256 : Nat) : Int)) (w1 := w1) rfl rfl ?_ (hK _ _ (Below.refl _ _) rfl)
      clear hd hn hK
      simp only [execOp, Option.map_some, Option.map_none, List.map_toArray, List.map_cons, List.map_nil, List.getElem_toArray, List.getElem_cons_zero, List.getElem_cons_succ, e18]
      clear e18
      go_simp
    refine steps_cons (fun a1 w1 hB hsz hdf hn hd => ⟨_, rfl, fun K hK => ?_⟩) ?_
    · obtain ⟨v19, h19, rfl⟩ := hd 3 19 rfl (by kernel_rfl)
      have e19 := eval_of h19
      clear h19
      refine value_ (v := .int .u8 (((p.size / 256 : Nat) : Int) % 256)) (w1 := w1) rfl rfl ?_ (hK _ _ (Below.refl _ _) rfl)
      clear hd hn hK
      simp only [execOp, Option.map_some, Option.map_none, List.map_toArray, List.map_cons, List.map_nil, List.getElem_toArray, List.getElem_cons_zero, List.getElem_cons_succ, e19]
      clear e19
      have hq := IntKind.wrap_u8 ((p.size : Int) / 256)
      go_simp
    refine steps_cons (fun a1 w1 hB hsz hdf hn hd => ⟨_, rfl, fun K hK => ?_⟩) ?_
    · obtain ⟨v17, h17, rfl⟩ := hd 1 17 rfl (by kernel_rfl)
      have e17 := eval_of h17
      clear h17
      obtain ⟨v20, h20, rfl⟩ := hd 4 20 rfl (by kernel_rfl)
      have e20 := eval_of h20
      clear h20
      refine value_ (v := .slice (some ⟨w1.heap.size, 0, none⟩) 4 4) (w1 := w1.alloc (.cells #[.int .u8 ((p.size : Int) % 256), .int .u8 (((p.size / 256 : Nat) : Int) % 256), .int .u8 0, .int .u8 0] 5)) rfl rfl ?_ (hK _ _ (below_alloc (Below.refl _ _) _) ⟨_, rfl, blk_new _ _⟩)
      clear hd hn hK
      simp only [execOp, Option.map_some, Option.map_none, List.map_toArray, List.map_cons, List.map_nil, List.getElem_toArray, List.getElem_cons_zero, List.getElem_cons_succ, e17, e20]
      clear e17 e20
      go_simp
    refine steps_cons (fun a1 w1 hB hsz hdf hn hd => ⟨_, rfl, fun K hK => ?_⟩) ?_
    · obtain ⟨v21, h21, ⟨gl, rfl, hgl⟩⟩ := hd 5 21 rfl (by kernel_rfl)
      have e21 := eval_of h21
      clear h21
      refine value_ (v := .string (strOfNums [(p.size : Int) % 256, ((p.size / 256 : Nat) : Int) % 256, 0, 0])) (w1 := w1) rfl rfl ?_ (hK _ _ (Below.refl _ _) ⟨_, rfl, by rw [strOfNums_size]; rfl⟩)
      clear hd hn hK
      simp only [execOp, Option.map_some, Option.map_none, List.map_toArray, List.map_cons, List.map_nil, List.getElem_toArray, List.getElem_cons_zero, List.getElem_cons_succ, e21]
      clear e21
      have hq := run_convert_bytes_arg (P := Try.prog) w1 88 5 Try.underlying88 Try.underlying5 gl 0 4 4 [(p.size : Int) % 256, ((p.size / 256 : Nat) : Int) % 256, 0, 0] rfl (fun i hi => by rw [Nat.zero_add, blk_cell hgl]; match i, hi with | 0, _ => rfl | 1, _ => rfl | 2, _ => rfl | 3, _ => rfl) 9 Try.underlying9
      simp only [Sem.run_bind, hq, Result.andThen_ok]
      rfl
    refine steps_cons (fun a1 w1 hB hsz hdf hn hd => ⟨_, rfl, fun K hK => ?_⟩) ?_
    · have e6 := eval_of ((hn 6 rfl).trans rfl)
      refine value_ (v := .string p) (w1 := w1) rfl rfl ?_ (hK _ _ (Below.refl _ _) rfl)
      clear hd hn hK
      simp only [execOp, Option.map_some, Option.map_none, List.map_toArray, List.map_cons, List.map_nil, List.getElem_toArray, List.getElem_cons_zero, List.getElem_cons_succ, e6]
      clear e6
      go_simp
    refine steps_cons (fun a1 w1 hB hsz hdf hn hd => ⟨_, rfl, fun K hK => ?_⟩) ?_
    · have e7 := eval_of ((hn 7 rfl).trans rfl)
      refine value_ (v := .int .i64 (p.size : Int)) (w1 := w1) rfl rfl ?_ (hK _ _ (Below.refl _ _) rfl)
      clear hd hn hK
      simp only [execOp, Option.map_some, Option.map_none, List.map_toArray, List.map_cons, List.map_nil, List.getElem_toArray, List.getElem_cons_zero, List.getElem_cons_succ, e7]
      clear e7
      go_simp
    refine steps_cons (fun a1 w1 hB hsz hdf hn hd => ⟨_, rfl, fun K hK => ?_⟩) ?_
    · obtain ⟨v24, h24, rfl⟩ := hd 8 24 rfl (by kernel_rfl)
      have e24 := eval_of h24
      clear h24
      refine value_ (v := .int .i64 ((min p.size 59 : Nat) : Int)) (w1 := w1) rfl rfl ?_ (hK _ _ (Below.refl _ _) rfl)
      clear hd hn hK
      simp only [execOp, Option.map_some, Option.map_none, List.map_toArray, List.map_cons, List.map_nil, List.getElem_toArray, List.getElem_cons_zero, List.getElem_cons_succ, e24]
      have hq : (Builtin.min_ #[3, 3] 3 #[.int .i64 (p.size : Int), .int .i64 59]).run Try.prog w1 = .ok (.int .i64 ((min p.size 59 : Nat) : Int)) w1 := by rw [run_min_int2]; congr 2; split <;> omega
      have ec : a1.eval (.const (.int .i64 59)) = .int .i64 59 := rfl
      simp only [resolve, invoke, builtin, Sem.run_bind, Sem.run_pure, Result.andThen_ok, List.map_toArray, List.map_cons, List.map_nil, e24, ec, hq]
    refine steps_cons (fun a1 w1 hB hsz hdf hn hd => ⟨_, rfl, fun K hK => ?_⟩) ?_
    · obtain ⟨v23, h23, rfl⟩ := hd 7 23 rfl (by kernel_rfl)
      have e23 := eval_of h23
      clear h23
      obtain ⟨v25, h25, rfl⟩ := hd 9 25 rfl (by kernel_rfl)
      have e25 := eval_of h25
      clear h25
      refine value_ (v := .string (p.extract 0 (min p.size 59))) (w1 := w1) rfl rfl ?_ (hK _ _ (Below.refl _ _) ⟨_, rfl, by rw [ByteArray.size_extract]; omega⟩)
      clear hd hn hK
      simp only [execOp, Option.map_some, Option.map_none, List.map_toArray, List.map_cons, List.map_nil, List.getElem_toArray, List.getElem_cons_zero, List.getElem_cons_succ, e23, e25]
      clear e23 e25
      have hq := run_slice_string_h (P := Try.prog) w1 9 p Try.underlying9 .i64 ((min p.size 59 : Nat) : Int) (by omega) (by omega)
      rw [Int.toNat_natCast] at hq
      simp only [Instr.sliceAt, run_underlying Try.underlying9, Sem.run_bind, hq, Result.andThen_ok]
      rfl
    refine steps_cons (fun a1 w1 hB hsz hdf hn hd => ⟨_, rfl, fun K hK => ?_⟩) ?_
    · obtain ⟨v22, h22, ⟨r22, rfl, hr22⟩⟩ := hd 6 22 rfl (by kernel_rfl)
      have e22 := eval_of h22
      clear h22
      obtain ⟨v26, h26, ⟨r26, rfl, hr26⟩⟩ := hd 10 26 rfl (by kernel_rfl)
      have e26 := eval_of h26
      clear h26
      refine value_ (v := .string (r22 ++ r26)) (w1 := w1) rfl rfl ?_ (hK _ _ (Below.refl _ _) ⟨_, rfl, by rw [ByteArray.size_append]; omega⟩)
      clear hd hn hK
      simp only [execOp, Option.map_some, Option.map_none, List.map_toArray, List.map_cons, List.map_nil, List.getElem_toArray, List.getElem_cons_zero, List.getElem_cons_succ, e22, e26]
      clear e22 e26
      go_simp
      omega
    refine steps_cons (fun a1 w1 hB hsz hdf hn hd => ⟨_, rfl, fun K hK => ?_⟩) ?_
    · obtain ⟨v27, h27, ⟨r27, rfl, hr27⟩⟩ := hd 11 27 rfl (by kernel_rfl)
      have e27 := eval_of h27
      clear h27
      refine value_ (v := .string r27) (w1 := w1) rfl rfl ?_ (hK _ _ (Below.refl _ _) ⟨_, rfl, hr27⟩)
      clear hd hn hK
      simp only [execOp, Option.map_some, Option.map_none, List.map_toArray, List.map_cons, List.map_nil, List.getElem_toArray, List.getElem_cons_zero, List.getElem_cons_succ, e27]
      clear e27
      go_simp
    exact steps_nil
  case stab => exact fun j v w w' => recRel_stable _ j v w w'
  case rend =>
    intro vals w1 hB hrr
    obtain ⟨q, hq, hqs⟩ : ∃ r : ByteArray, vals 12 = .string r ∧ r.size ≤ 64 := hrr (12, 8) (by simp)
    have HQs := Aside0.mk hqs
    have HK2 := Aside0.mk (HK.out.below hB)
    clear hrr hqs hB HK
    simp only [fill, Act.put, List.setIfInBounds_toArray, List.set_cons_zero, List.set_cons_succ, hq]
    obtain ⟨cnt, hcnt⟩ : ∃ c, c = 1 + (p.size + 4) / 64 := ⟨_, rfl⟩
    have HC := Aside0.mk hcnt
    have hc1 : 1 ≤ cnt := by omega
    have hc2 : cnt ≤ 40 := by have := HPs.out; omega
    have hat2 : at_ + cnt ≤ n := by have := HP.out; omega
    clear hq hcnt hat HPs
    go_wp2
    go_loopg [9, 10] cnt (fun kq v9 v10 W => ∃ i : Nat, v9 = .int .i64 (i : Int) ∧ Aside0 (i + kq = cnt + 1) ∧ Aside0 (1 ≤ i) ∧ Aside0 (GK (w.alloc (.cells #[.int .i64 a, .int .i64 b, .string s] 23)) (fun k => S k ∧ k < w.heap.size) g n f (k + i) W))
    case atStart => exact ⟨1, rfl, ⟨by omega⟩, ⟨Nat.le_refl _⟩, ⟨HK2.out.more (by omega)⟩⟩
    case round =>
      clear HK2
      obtain ⟨i, rfl, HI1, HI2, HK⟩ := hrel
      by_cases c1 : i < cnt
      · have c1b : decide ((i : Int) < (cnt : Int)) = true := by simp; omega
        have hi1 := HI2.out
        obtain ⟨rr, hrs, hsl⟩ := cut_run3 p i hi1 (by have h1 := HC.out; omega)
        have hps : p.size ≤ 3000 := by rw [HP.out]; omega
        have hgk := HI1.out
        cases gk with
        | zero => omega
        | succ k1 =>
          have hx0 : (0 : Int) ≤ (at_ : Int) + (i : Int) := by omega
          have hx1 : (at_ : Int) + (i : Int) < (n : Int) := by omega
          have hx2 : k + i ≤ 1000 := by omega
          have hx3 : i + 1 + k1 = cnt + 1 := by omega
          have hx4 : k1 < k1 + 1 := by omega
          have hx5 : 1 ≤ i + 1 := by omega
          clear hgk
          have HZ64 := Aside0.mk hrs
          clear hrs
          go_wp2_with (first
            | (go_at_call 155; (with_reducible refine (count_calls' p.size cnt _ hps HC.out).mono ?_); rintro e w' ⟨rfl, hb⟩; have HK' := Aside0.mk (HK.out.below hb); clear HK hb; have HK := HK'; clear HK')
            | (go_at_call 109; (with_reducible refine (sec_calls _ _ _ HZ64.out).mono ?_); rintro e w' ⟨r, rfl, hr, hb⟩; have HR := Aside0.mk hr; have HK' := Aside0.mk (HK.out.below hb); clear HK hr hb; have HK := HK'; clear HK')
            | (go_at_call 110; (with_reducible refine (must_calls _).mono ?_); rintro e w' ⟨rfl, rfl⟩)
            | (go_at_call 31; (with_reducible refine (gwriteI_calls _ _ HK.out ?hi0 ?hi1 HR.out HF.out ?hk0).mono ?_); (case hi0 => exact hx0); (case hi1 => exact hx1); (case hk0 => exact hx2); rintro e w' ⟨rfl, hk⟩; have HK' := Aside0.mk hk; clear HK hk; have HK := HK'; clear HK'))
          go_roundg k1
          case measure => exact hx4
          case rel => exact ⟨i + 1, by simp, ⟨hx3⟩, ⟨hx5⟩, HK⟩
      · have c1b : decide ((i : Int) < (cnt : Int)) = false := by simp; omega
        have hki : k + i ≤ 900 := by have := HI1.out; omega
        have hps : p.size ≤ 3000 := by rw [HP.out]; omega
        have hin : (at_ : Int) < (n : Int) := by omega
        by_cases c2 : at_ + cnt < n
        · have c2b : decide ((at_ : Int) + (cnt : Int) < (n : Int)) = true := by simp; omega
          go_wp2_with (first
          | (go_at_call 155; (with_reducible refine (count_calls' p.size cnt _ hps HC.out).mono ?_); rintro e w' ⟨rfl, hb⟩; have HK' := Aside0.mk (HK.out.below hb); clear HK hb; have HK := HK'; clear HK')
          | (go_at_call 44; (with_reducible refine (gsectors_calls HK.out).mono ?_); rintro e w' ⟨rfl, hk, -⟩; have HK' := Aside0.mk hk; clear HK hk; have HK := HK'; clear HK')
          | (go_at_call 109; (with_reducible refine (sec_calls _ _ _ ?hsz).mono ?_); (case hsz => first | exact HQs.out | exact Nat.zero_le _ | decide); rintro e w' ⟨r, rfl, hr, hb⟩; have HR := Aside0.mk hr; have HK' := Aside0.mk (HK.out.below hb); clear HK hr hb; have HK := HK'; clear HK')
          | (go_at_call 110; (with_reducible refine (must_calls _).mono ?_); rintro e w' ⟨rfl, rfl⟩)
          | (go_at_call 34; (with_reducible refine (gsync_calls HK.out HF.out).mono ?_); rintro e w' ⟨rfl, hk⟩; have HK' := Aside0.mk hk; clear HK hk; have HK := HK'; clear HK')
          | (go_at_call 31; (with_reducible refine (gwriteI_calls _ _ HK.out ?hi0 ?hi1 HR.out HF.out ?hk0).mono ?_); (case hi0 => omega); (case hi1 => omega); (case hk0 => omega); rintro e w' ⟨rfl, hk⟩; have HK' := Aside0.mk hk; clear HK hk; have HK := HK'; clear HK'))
          go_end0
          exact ⟨rfl, HK.out.fin (below_alloc (Below.refl _ _) _)⟩
        · have c2b : decide ((at_ : Int) + (cnt : Int) < (n : Int)) = false := by simp; omega
          go_wp2_with (first
          | (go_at_call 155; (with_reducible refine (count_calls' p.size cnt _ hps HC.out).mono ?_); rintro e w' ⟨rfl, hb⟩; have HK' := Aside0.mk (HK.out.below hb); clear HK hb; have HK := HK'; clear HK')
          | (go_at_call 44; (with_reducible refine (gsectors_calls HK.out).mono ?_); rintro e w' ⟨rfl, hk, -⟩; have HK' := Aside0.mk hk; clear HK hk; have HK := HK'; clear HK')
          | (go_at_call 109; (with_reducible refine (sec_calls _ _ _ ?hsz).mono ?_); (case hsz => first | exact HQs.out | exact Nat.zero_le _ | decide); rintro e w' ⟨r, rfl, hr, hb⟩; have HR := Aside0.mk hr; have HK' := Aside0.mk (HK.out.below hb); clear HK hr hb; have HK := HK'; clear HK')
          | (go_at_call 110; (with_reducible refine (must_calls _).mono ?_); rintro e w' ⟨rfl, rfl⟩)
          | (go_at_call 34; (with_reducible refine (gsync_calls HK.out HF.out).mono ?_); rintro e w' ⟨rfl, hk⟩; have HK' := Aside0.mk hk; clear HK hk; have HK := HK'; clear HK')
          | (go_at_call 31; (with_reducible refine (gwriteI_calls _ _ HK.out ?hi0 ?hi1 HR.out HF.out ?hk0).mono ?_); (case hi0 => omega); (case hi1 => omega); (case hk0 => omega); rintro e w' ⟨rfl, hk⟩; have HK' := Aside0.mk hk; clear HK hk; have HK := HK'; clear HK'))
          go_end0
          exact ⟨rfl, HK.out.fin (below_alloc (Below.refl _ _) _)⟩
end Go.Proofs.Ytkedodmlbepfnaa.Lg

-- from the working text Bk
set_option linter.unusedSimpArgs false
set_option linter.unusedVariables false
namespace Go.Proofs.Ytkedodmlbepfnaa.Lg
open Go.RowKit Go.Proofs.YtkedodmlbepfnaaW.PrintWords Go.Proofs.YtkedodmlbepfnaaW.PrintLast Go.Proofs.YtkedodmlbepfnaaW.PrintMore Go.Proofs.Ytkedodmlbepfnaa.Rg
/-- A book for two offices, in memory. -/
def BookAt (W : World) (gb gd : Nat) (e0 : Value) (used falls : Int) : Prop := W.heap[gb]? = some (.cells (bookCells e0 used gd falls) 95 (0, 0))
theorem BookAt.below {W W' : World} {gb gd : Nat} {e0 : Value} {used falls : Int} (h : BookAt W gb gd e0 used falls) (hb : Below W.heap.size W W') : BookAt W' gb gd e0 used falls := (hb.block gb (blk_lt h)).trans h
theorem gsectors0 {W : World} {S : Nat → Prop} {g n k : Nat} {f : Int} (h : GD W S g n f k) :
    Calls Try.prog 44 #[.pointer (some ⟨g, 0, none⟩)] W fun e W' => e = .returned (.int .i64 (n : Int)) ∧ Below W.heap.size W W' :=
  (gsectors_calls (GK.start h)).mono fun e W' h => ⟨h.1, h.2.2⟩
def roomRel (gb gd : Nat) (n : Nat) (used : Int) : Nat → Value → World → Prop
  | 0, v, _ => v = .pointer (some ⟨gb, 0, none⟩)
  | 1, v, _ => v = .pointer (some ⟨gb, 0, none⟩)
  | 2, v, _ => v = .pointer (some ⟨gb, 10, none⟩)
  | 3, v, _ => v = .pointer (some ⟨gd, 0, none⟩)
  | 4, v, _ => v = .int .i64 (n : Int)
  | 5, v, _ => v = .pointer (some ⟨gb, 0, none⟩)
  | 6, v, _ => v = .pointer (some ⟨gb, 0, none⟩)
  | 7, v, _ => v = .pointer (some ⟨gb, 0, none⟩)
  | 8, v, _ => v = .pointer (some ⟨gb, 9, none⟩)
  | 9, v, _ => v = .int .i64 used
  | 10, v, _ => v = .int .i64 ((n : Int) - used)
  | 11, v, _ => v = .int .i64 ((n : Int) - used)
  | _, _, _ => True
set_option maxHeartbeats 4000000 in
set_option maxRecDepth 100000 in
theorem room_calls (W : World) (S : Nat → Prop) (gb gd n k : Nat) (e0 : Value) (used falls f : Int) (hb : BookAt W gb gd e0 used falls) (hd : GD W S gd n f k) (h0 : 0 ≤ used) (h1 : used ≤ n) (hn : n ≤ 4096) :
    Calls Try.prog 60 #[.pointer (some ⟨gb, 0, none⟩)] W fun e W' => e = .returned (.int .i64 ((n : Int) - used)) ∧ Below W.heap.size W W' := by
  have HB := Aside0.mk hb
  have HD := Aside0.mk hd
  clear hb hd
  go_enter Try.func60, Try.ntmps60
  go_wp2
  refine rg_ [0, 1, 2, 3, 4, 5, 6, 7, 8, 9, 10, 11] [(0, 3), (1, 4), (2, 5), (3, 6), (4, 7), (5, 8), (6, 9), (7, 10), (8, 11), (9, 12), (10, 13), (11, 2)] (bitsOf (rtab .any (opsOf Try.f60 1)).2) (roomRel gb gd n used) (by kernel_rfl) rfl (by kernel_rfl) rfl (by kernel_rfl) ?stab ?steps ?rend
  case steps =>
    refine steps_cons (fun a1 w1 hB hsz hdf hn hd => ⟨_, rfl, fun K hK => ?_⟩) ?_
    · have e0 := eval_of ((hn 0 rfl).trans rfl)
      refine value_ (v := .pointer (some ⟨gb, 0, none⟩)) (w1 := w1) rfl rfl ?_ (hK _ _ (Below.refl _ _) rfl)
      clear hd hn hK
      simp only [execOp, Option.map_some, Option.map_none, List.map_toArray, List.map_cons, List.map_nil, List.getElem_toArray, List.getElem_cons_zero, List.getElem_cons_succ, e0]
      clear e0
      go_simp
    refine steps_cons (fun a1 w1 hB hsz hdf hn hd => ⟨_, rfl, fun K hK => ?_⟩) ?_
    · obtain ⟨v3, h3, rfl⟩ := hd 0 3 rfl (by kernel_rfl)
      have e3 := eval_of h3
      clear h3
      refine value_ (v := .pointer (some ⟨gb, 0, none⟩)) (w1 := w1) rfl rfl ?_ (hK _ _ (Below.refl _ _) rfl)
      clear hd hn hK
      simp only [execOp, Option.map_some, Option.map_none, List.map_toArray, List.map_cons, List.map_nil, List.getElem_toArray, List.getElem_cons_zero, List.getElem_cons_succ, e3]
      clear e3
      go_simp
    refine steps_cons (fun a1 w1 hB hsz hdf hn hd => ⟨_, rfl, fun K hK => ?_⟩) ?_
    · obtain ⟨v4, h4, rfl⟩ := hd 1 4 rfl (by kernel_rfl)
      have e4 := eval_of h4
      clear h4
      refine value_ (v := .pointer (some ⟨gb, 10, none⟩)) (w1 := w1) rfl rfl ?_ (hK _ _ (Below.refl _ _) rfl)
      clear hd hn hK
      simp only [execOp, Option.map_some, Option.map_none, List.map_toArray, List.map_cons, List.map_nil, List.getElem_toArray, List.getElem_cons_zero, List.getElem_cons_succ, e4]
      clear e4
      go_simp
    refine steps_cons (fun a1 w1 hB hsz hdf hn hd => ⟨_, rfl, fun K hK => ?_⟩) ?_
    · obtain ⟨v5, h5, rfl⟩ := hd 2 5 rfl (by kernel_rfl)
      have e5 := eval_of h5
      clear h5
      refine value_ (v := .pointer (some ⟨gd, 0, none⟩)) (w1 := w1) rfl rfl ?_ (hK _ _ (Below.refl _ _) rfl)
      clear hd hn hK
      simp only [execOp, Option.map_some, Option.map_none, List.map_toArray, List.map_cons, List.map_nil, List.getElem_toArray, List.getElem_cons_zero, List.getElem_cons_succ, e5]
      clear e5
      have hq : w1.cell? ⟨gb, 10, none⟩ = some (.pointer (some ⟨gd, 0, none⟩)) := (blk_cell (HB.out.below hB) 10).trans rfl
      clear hB
      go_simp
    refine steps_cons (fun a1 w1 hB hsz hdf hn hd => ⟨_, rfl, fun K hK => ?_⟩) ?_
    · obtain ⟨v6, h6, rfl⟩ := hd 3 6 rfl (by kernel_rfl)
      have e6 := eval_of h6
      clear h6
      refine goes_ Try.func44 (by kernel_rfl) rfl #[.pointer (some ⟨gd, 0, none⟩)] (by rfl) rfl rfl (by simp only [List.map_toArray, List.map_cons, List.map_nil, e6]) ?_
      refine (gsectors0 (HD.out.below hB)).mono ?_
      rintro e w2 ⟨rfl, hbw⟩
      exact ⟨_, rfl, hK _ _ hbw rfl⟩
    refine steps_cons (fun a1 w1 hB hsz hdf hn hd => ⟨_, rfl, fun K hK => ?_⟩) ?_
    · have e0 := eval_of ((hn 0 rfl).trans rfl)
      refine value_ (v := .pointer (some ⟨gb, 0, none⟩)) (w1 := w1) rfl rfl ?_ (hK _ _ (Below.refl _ _) rfl)
      clear hd hn hK
      simp only [execOp, Option.map_some, Option.map_none, List.map_toArray, List.map_cons, List.map_nil, List.getElem_toArray, List.getElem_cons_zero, List.getElem_cons_succ, e0]
      clear e0
      go_simp
    refine steps_cons (fun a1 w1 hB hsz hdf hn hd => ⟨_, rfl, fun K hK => ?_⟩) ?_
    · obtain ⟨v8, h8, rfl⟩ := hd 5 8 rfl (by kernel_rfl)
      have e8 := eval_of h8
      clear h8
      refine value_ (v := .pointer (some ⟨gb, 0, none⟩)) (w1 := w1) rfl rfl ?_ (hK _ _ (Below.refl _ _) rfl)
      clear hd hn hK
      simp only [execOp, Option.map_some, Option.map_none, List.map_toArray, List.map_cons, List.map_nil, List.getElem_toArray, List.getElem_cons_zero, List.getElem_cons_succ, e8]
      clear e8
      go_simp
    refine steps_cons (fun a1 w1 hB hsz hdf hn hd => ⟨_, rfl, fun K hK => ?_⟩) ?_
    · obtain ⟨v9, h9, rfl⟩ := hd 6 9 rfl (by kernel_rfl)
      have e9 := eval_of h9
      clear h9
      refine value_ (v := .pointer (some ⟨gb, 0, none⟩)) (w1 := w1) rfl rfl ?_ (hK _ _ (Below.refl _ _) rfl)
      clear hd hn hK
      simp only [execOp, Option.map_some, Option.map_none, List.map_toArray, List.map_cons, List.map_nil, List.getElem_toArray, List.getElem_cons_zero, List.getElem_cons_succ, e9]
      clear e9
      go_simp
    refine steps_cons (fun a1 w1 hB hsz hdf hn hd => ⟨_, rfl, fun K hK => ?_⟩) ?_
    · obtain ⟨v10, h10, rfl⟩ := hd 7 10 rfl (by kernel_rfl)
      have e10 := eval_of h10
      clear h10
      refine value_ (v := .pointer (some ⟨gb, 9, none⟩)) (w1 := w1) rfl rfl ?_ (hK _ _ (Below.refl _ _) rfl)
      clear hd hn hK
      simp only [execOp, Option.map_some, Option.map_none, List.map_toArray, List.map_cons, List.map_nil, List.getElem_toArray, List.getElem_cons_zero, List.getElem_cons_succ, e10]
      clear e10
      go_simp
    refine steps_cons (fun a1 w1 hB hsz hdf hn hd => ⟨_, rfl, fun K hK => ?_⟩) ?_
    · obtain ⟨v11, h11, rfl⟩ := hd 8 11 rfl (by kernel_rfl)
      have e11 := eval_of h11
      clear h11
      refine value_ (v := .int .i64 used) (w1 := w1) rfl rfl ?_ (hK _ _ (Below.refl _ _) rfl)
      clear hd hn hK
      simp only [execOp, Option.map_some, Option.map_none, List.map_toArray, List.map_cons, List.map_nil, List.getElem_toArray, List.getElem_cons_zero, List.getElem_cons_succ, e11]
      clear e11
      have hq : w1.cell? ⟨gb, 9, none⟩ = some (.int .i64 used) := (blk_cell (HB.out.below hB) 9).trans rfl
      clear hB
      go_simp
    refine steps_cons (fun a1 w1 hB hsz hdf hn hd => ⟨_, rfl, fun K hK => ?_⟩) ?_
    · obtain ⟨v7, h7, rfl⟩ := hd 4 7 rfl (by kernel_rfl)
      have e7 := eval_of h7
      clear h7
      obtain ⟨v12, h12, rfl⟩ := hd 9 12 rfl (by kernel_rfl)
      have e12 := eval_of h12
      clear h12
      refine value_ (v := .int .i64 ((n : Int) - used)) (w1 := w1) rfl rfl ?_ (hK _ _ (Below.refl _ _) rfl)
      clear hd hn hK
      simp only [execOp, Option.map_some, Option.map_none, List.map_toArray, List.map_cons, List.map_nil, List.getElem_toArray, List.getElem_cons_zero, List.getElem_cons_succ, e7, e12]
      clear e7 e12
      have hq : IntKind.i64.wrap ((n : Int) - used) = (n : Int) - used := by rw [i64_w]; unfold wrap64; omega
      clear hB
      go_simp
    refine steps_cons (fun a1 w1 hB hsz hdf hn hd => ⟨_, rfl, fun K hK => ?_⟩) ?_
    · obtain ⟨v13, h13, rfl⟩ := hd 10 13 rfl (by kernel_rfl)
      have e13 := eval_of h13
      clear h13
      refine value_ (v := .int .i64 ((n : Int) - used)) (w1 := w1) rfl rfl ?_ (hK _ _ (Below.refl _ _) rfl)
      clear hd hn hK
      simp only [execOp, Option.map_some, Option.map_none, List.map_toArray, List.map_cons, List.map_nil, List.getElem_toArray, List.getElem_cons_zero, List.getElem_cons_succ, e13]
      clear e13
      go_simp
    exact steps_nil
  case stab => exact fun j v w w' h _ => by revert h; unfold roomRel; split <;> exact id
  case rend =>
    intro vals w1 hB hrr
    have hl : vals 11 = .int .i64 ((n : Int) - used) := hrr (11, 2) (by simp)
    have HBB := Aside0.mk hB
    clear hrr hB
    simp only [fill, Act.put, List.setIfInBounds_toArray, List.set_cons_zero, List.set_cons_succ, hl]
    go_wp2
    go_ret
    exact ⟨rfl, HBB.out⟩
set_option maxHeartbeats 4000000 in
set_option maxRecDepth 100000 in
theorem has_calls (W : World) (gb gd : Nat) (e0 : Value) (used falls o : Int) (hb : BookAt W gb gd e0 used falls) (h0 : 0 ≤ o) (h1 : o < 2) :
    Calls Try.prog 112 #[.pointer (some ⟨gb, 0, none⟩), .int .i64 o] W fun e W' => e = .returned (.bool true) ∧ Below W.heap.size W W' := by
  have c0 : W.cell? ⟨gb, 0, none⟩ = some (.int .i64 2) := (blk_cell hb 0).trans rfl
  have b0 : decide (0 ≤ o) = true := by simp; omega
  have b1 : decide (o < 2) = true := by simp; omega
  clear hb
  go_enter Try.func112, Try.ntmps112
  go_wp2
  go_ret
  exact ⟨rfl, by repeat (first | exact Below.refl _ _ | apply below_drew | apply pw_below_drewN | apply below_drew1)⟩
set_option maxHeartbeats 4000000 in
set_option maxRecDepth 100000 in
theorem bup_calls (W : World) (S : Nat → Prop) (gb gd n k : Nat) (e0 : Value) (used f : Int) (hb : BookAt W gb gd e0 used f) (hd : GD W S gd n f k) :
    Calls Try.prog 111 #[.pointer (some ⟨gb, 0, none⟩)] W fun e W' => e = .returned (.tuple #[]) ∧ Below W.heap.size W W' := by
  have c10 : W.cell? ⟨gb, 10, none⟩ = some (.pointer (some ⟨gd, 0, none⟩)) := (blk_cell hb 10).trans rfl
  have c11 : W.cell? ⟨gb, 11, none⟩ = some (.int .i64 f) := (blk_cell hb 11).trans rfl
  have c5 : W.cell? ⟨gd, 5, none⟩ = some (.int .i64 f) := hd.fallsC
  clear hb hd
  go_enter Try.func111, Try.ntmps111
  go_wp2
  go_region
  all_goals go_wp2
  all_goals go_end0
  all_goals exact ⟨rfl, by repeat (first | exact Below.refl _ _ | apply below_drew | apply pw_below_drewN | apply below_drew1)⟩
end Go.Proofs.Ytkedodmlbepfnaa.Lg

-- from the working text Ro
namespace Go.Proofs.Ytkedodmlbepfnaa.Rg
open Go.RowKit Go.Proofs.YtkedodmlbepfnaaW.PrintWords Go.Proofs.YtkedodmlbepfnaaW.PrintLast Go.Proofs.YtkedodmlbepfnaaW.PrintMore
section
variable {P : Program} {ops : Array Oper} {Q : Exit → Act → World → Prop} {T : Bool × List (List Nat × List Nat)} {n : Nat} {a0 : Act} {w0 : World}
/-- m waits for all. -/
def lastOne (B : List Nat) (O : List Nat) (m : Nat) : Bool := O.contains m && O.all (fun i => i == m || (B.getD m 0).testBit i)
theorem rg5_ {id : Nat} (m : Nat) (O : List Nat) (D : List (Nat × Tmp)) (B : List Nat) (rel : Nat → Value → World → Prop) (post : Value → World → Prop)
    (hm : P.follows .mixedOrders = true) (hT : rtab .any ops = T) (hw : waitsOk T.2 B = true) (hn : ops.size = n)
    (hk : (baseOk T.2 O && dOk ops O D a0.tmps.size && (lof T.2.length O (fun _ => false) == (Array.replicate n false).toList && O.length == n) && lastOne B O m) = true)
    (hst : ∀ i v w w', rel i v w → Below w.heap.size w w' → rel i v w')
    (hs : ∀ i ∈ O, i = m ∨ Step P ops Q B D rel a0 w0 i)
    (h1 : ∀ a w, Below w0.heap.size w0 w → (∀ t, (D.all fun e => !(e.2 == t)) = true → a.tmps[t]? = a0.tmps[t]?) → (∀ j t, D.contains (j, t) = true → (!(j == m)) = true → ∃ v, a.tmps[t]? = some v ∧ rel j v w) →
      ∃ oi, ops[m]? = some oi ∧ ∀ K : Act → World → Prop, (∀ v w1, post v w1 → K (a.put oi.dst v) w1) → if Region.wanted oi (yielded ops a.tmps) = true then Oper.wp P oi a w K Q else K (a.put oi.dst undef) w)
    (hend : ∀ (vals : Nat → Value) (w : World), post (vals m) w → Q .normal (fill a0 vals D) w) :
    (Code.region id ops true).wp P Q a0 w0 := by
  simp only [Bool.and_eq_true] at hk
  obtain ⟨⟨⟨hk1, hk2⟩, hk3⟩, hk4⟩ := hk
  refine start_ (n := n) (S := fun _ => True) (ds := []) (Array.replicate n false) hm hn rfl trivial fun _ => ?_
  have hb0 : Below w0.heap.size w0 w0.drew := below_drew (Below.refl _ _)
  revert hb0
  generalize w0.drew = w
  intro hb0
  simp only [dOk, Bool.and_eq_true] at hk2
  obtain ⟨⟨⟨hD1, hD2⟩, hD3⟩, hD4⟩ := hk2
  have hD2 := of_decide_eq_true hD2
  have hD3 := of_decide_eq_true hD3
  simp only [lastOne, Bool.and_eq_true] at hk4
  obtain ⟨hmO, hwait⟩ := hk4
  have hwt : ∀ i, O.contains i = true → i ≠ m → (B.getD m 0).testBit i = true := by
    intro i hi h1
    have h := List.all_eq_true.1 hwait i (List.contains_iff_mem.1 hi)
    simp only [Bool.or_eq_true, beq_iff_eq] at h
    exact h.resolve_left h1
  have hmemO : ∀ j t, D.contains (j, t) = true → O.contains j = true := fun j t hjt => by
    have h1 := List.all_eq_true.1 hD1 (j, t) (List.contains_iff_mem.1 hjt)
    simp only [Bool.and_eq_true] at h1
    exact h1.2
  refine inv_ O (fun b a w => ∃ vals : Nat → Value, a = putSel a0 b (ent vals D) ∧ (b m = false → Below w0.heap.size w0 w ∧ ∀ i, O.contains i = true → b i = true → i ≠ m → rel i (vals i) w) ∧ (b m = true → post (vals m) w)) hT hw hk1 (by rw [Bool.and_eq_true]; exact hk3) ?_ ?_ ?_
  · refine ⟨fun _ => undef, ?_, fun _ => ⟨hb0, fun i _ h => by cases h⟩, fun h => by cases h⟩
    have : ∀ (D : List (Nat × Tmp)) (a : Act), a = putSel a (fun _ => false) (ent (fun _ => undef) D) := by
      intro D
      induction D with
      | nil => intro a; rfl
      | cons e r ih => intro a; exact ih a
    exact this D a0
  · intro i hi b a w hI hbi hneed hafter
    obtain ⟨vals, ha, hA, hB⟩ := hI
    have hsz := putSel_size b (ent vals D) a0
    rw [← ha] at hsz
    have hiO : O.contains i = true := List.contains_iff_mem.2 hi
    have hoff : ∀ t, (D.all fun e => !(e.2 == t)) = true → a.tmps[t]? = a0.tmps[t]? := fun t ht => by
      rw [ha]
      refine putSel_off ?_
      unfold ent
      rw [List.all_map]
      exact ht
    by_cases hi1 : i = m
    · subst hi1
      obtain ⟨hbw, hrel⟩ := hA hbi
      obtain ⟨oi, hoi, hstep⟩ := h1 a w hbw hoff (fun j t hjt hne => by
        simp only [Bool.not_eq_true', beq_eq_false_iff_ne] at hne
        have hbj := hneed j (by rw [Bool.and_eq_true]; exact ⟨hmemO j t hjt, hwt j (hmemO j t hjt) hne⟩)
        refine ⟨vals j, ?_, hrel j (hmemO j t hjt) hbj hne⟩
        rw [ha]
        exact slot_of hD1 hD2 (List.contains_iff_mem.1 hjt) hbj)
      refine ⟨oi, hoi, fun K hK => hstep K fun v w1 hv => hK _ _ ⟨fun j => if j = i then v else vals j, ?_, fun h => ?_, fun _ => ?_⟩⟩
      · rw [ha]; exact put_of hD2 hD3 hoi hi hbi hD4
      · rw [up_self] at h; cases h
      · simp only [if_true]; exact hv
    · have hb1 : b m = false := hafter m (by rw [Bool.and_eq_true]; exact ⟨hmO, hwt i hiO hi1⟩)
      obtain ⟨hbw, hrel⟩ := hA hb1
      obtain ⟨oi, hoi, hstep⟩ := ((hs i hi).resolve_left hi1) a w hbw hsz.1 hsz.2 hoff (fun j t hjt hbit => by
        have hbj := hneed j (by rw [Bool.and_eq_true]; exact ⟨hmemO j t hjt, hbit⟩)
        have hj1 : j ≠ m := fun h => by subst h; rw [hb1] at hbj; cases hbj
        refine ⟨vals j, ?_, hrel j (hmemO j t hjt) hbj hj1⟩
        rw [ha]
        exact slot_of hD1 hD2 (List.contains_iff_mem.1 hjt) hbj)
      refine ⟨oi, hoi, fun K hK => hstep K fun v w1 hbw1 hrv => hK _ _ ⟨fun j => if j = i then v else vals j, ?_, fun _ => ⟨below_step hbw hbw1, fun j hj hbj hj1 => ?_⟩, fun h => ?_⟩⟩
      · rw [ha]; exact put_of hD2 hD3 hoi hi hbi hD4
      · by_cases hji : j = i
        · subst hji; simp only [if_true]; exact hrv
        · simp only [if_neg hji]
          rw [up_ne hji] at hbj
          exact hst j _ _ _ (hrel j hj hbj hj1) hbw1
      · rw [up_ne (Ne.symm hi1), hb1] at h; cases h
  · intro b a w hall hI
    obtain ⟨vals, ha, _, hB⟩ := hI
    have hmm : ∀ e ∈ D, O.contains e.1 = true := fun e he => by
      have h1 := List.all_eq_true.1 hD1 e he
      simp only [Bool.and_eq_true] at h1
      exact h1.2
    rw [ha, fill_eq vals D a0 fun e he => hall e.1 (hmm e he)]
    exact hend vals w (hB (hall m hmO))
theorem steps5_nil {B : List Nat} {D : List (Nat × Tmp)} {rel : Nat → Value → World → Prop} {m : Nat} : ∀ i ∈ ([] : List Nat), i = m ∨ Step P ops Q B D rel a0 w0 i := fun _ h => by cases h
theorem steps5_cons {B : List Nat} {D : List (Nat × Tmp)} {rel : Nat → Value → World → Prop} {m i : Nat} {rs : List Nat} (h : Step P ops Q B D rel a0 w0 i) (hs : ∀ j ∈ rs, j = m ∨ Step P ops Q B D rel a0 w0 j) : ∀ j ∈ i :: rs, j = m ∨ Step P ops Q B D rel a0 w0 j := fun j hj => by
  rcases List.mem_cons.1 hj with rfl | hj
  · exact .inr h
  · exact hs j hj
theorem steps5_m {B : List Nat} {D : List (Nat × Tmp)} {rel : Nat → Value → World → Prop} {m : Nat} {rs : List Nat} (hs : ∀ j ∈ rs, j = m ∨ Step P ops Q B D rel a0 w0 j) : ∀ j ∈ m :: rs, j = m ∨ Step P ops Q B D rel a0 w0 j := fun j hj => by
  rcases List.mem_cons.1 hj with rfl | hj
  · exact .inl rfl
  · exact hs j hj
end
end Go.Proofs.Ytkedodmlbepfnaa.Rg

-- from the working text Pt
set_option linter.unusedSimpArgs false
set_option linter.unusedVariables false
namespace Go.Proofs.Ytkedodmlbepfnaa.Lg
open Go.RowKit Go.Proofs.YtkedodmlbepfnaaW.PrintWords Go.Proofs.YtkedodmlbepfnaaW.PrintLast Go.Proofs.YtkedodmlbepfnaaW.PrintMore Go.Proofs.Ytkedodmlbepfnaa.Rg
theorem append23 {w : World} {S : Nat → Prop} {v : Value} {n : Nat} {xs cs : List Value} {gl : Nat} (ty : TypeId) (h : Own w S 23 3 v n xs) (hl : w.heap[gl]? = some (.cells cs.toArray 23 (0, 0))) (hc : cs.length = 3) (h1 : ∀ u ∈ cs, u.oneCell' = true) (hn : n ≤ 1000000) :
    ∃ v' w', (Builtin.append_ #[24, 24] ty #[v, .slice (some ⟨gl, 0, none⟩) 1 1]).run Try.prog w = .ok v' w' ∧ Own w' (Nw S w) 23 3 v' (n + 1) (xs ++ cs) ∧ w.grownBy w' v.ownBlock := by
  obtain ⟨i0, hi, hz0, hz1, hz2⟩ := info_parts info23
  obtain ⟨v', w', hrun, hown, hg, _, hb⟩ := run_append_own_at (P := Try.prog) w 0 24 ty 23 i0 _ 3 32 Try.underlying24 hi hz0 hz1 hz2 rfl (by omega) v n xs h.1 ⟨gl, 0, none⟩ 1 1 cs (by omega)
    (by
      intro j u hu
      rw [Addr.add_mid, Nat.zero_add, blk_cell hl j, List.getElem?_toArray]
      exact hu) h1 (by simp only [maxLen]; omega) (by omega) (Nat.zero_le _)
  refine ⟨v', w', hrun, ⟨hown, fun k hk => ?_⟩, hg⟩
  rcases hb with hb | hb
  · exact .inl (h.2 k (hb ▸ hk))
  · rw [hb] at hk
    injection hk with hk
    exact .inr (by omega)
theorem append23_ {ops : Array Oper} {Q : Exit → Act → World → Prop} {oi : Oper} {N : Option Tmp} {a : Act} {w : World} {K : Act → World → Prop} {S : Nat → Prop} {s x : Operand} {v : Value} {n gl : Nat} {xs cs : List Value} (hw : Region.wanted oi (yielded ops a.tmps) = true) (hN : oi.dst = N)
    (hop : oi.op = .call { callee := .builtin .append, args := #[s, x], argTypes := #[24, 24] })
    (hs : a.eval s = v) (hx : a.eval x = .slice (some ⟨gl, 0, none⟩) 1 1) (h : Own w S 23 3 v n xs) (hl : w.heap[gl]? = some (.cells cs.toArray 23 (0, 0))) (hc : cs.length = 3) (h1 : ∀ u ∈ cs, u.oneCell' = true) (hn : n ≤ 1000000)
    (hk : ∀ v' w', Own w' (Nw S w) 23 3 v' (n + 1) (xs ++ cs) → w.grownBy w' v.ownBlock → K (a.put N v') w') : if Region.wanted oi (yielded ops a.tmps) = true then Oper.wp Try.prog oi a w K Q else K (a.put N undef) w := by
  obtain ⟨v', w', hrun, ho, hg⟩ := append23 oi.type h hl hc h1 hn
  refine value_ hw hN ?_ (hk v' w' ho hg)
  unfold execOp
  simp only [hop, resolve, invoke, builtin, Sem.run_bind, Sem.run_pure, Result.andThen_ok, List.map_toArray, List.map_cons, List.map_nil, hs, hx, hrun]
theorem size24 : (Try.prog.info? 24).map (·.size) = some 1 := by kernel_rfl
theorem sectors_calls23 (a b : Int) (s : ByteArray) (w : World) (hs : s.size ≤ 2400) :
    Calls Try.prog 142 #[.agg #[.int .i64 a, .int .i64 b, .string s]] w fun e w' => e = .returned (.int .i64 ((1 + (s.size + 6) / 64 : Nat) : Int)) ∧ Below w.heap.size w w' := by
  have hz : (strOfNums [a % 256, b % 256]).size = 2 := by rw [strOfNums_size]; rfl
  have hsz : (strOfNums [a % 256, b % 256] ++ s).size = s.size + 2 := by rw [ByteArray.size_append, hz]; omega
  refine ledger_sectors.calls a b s _ w ?_
  unfold ledger_sectors.f ledger_payload.f ledger_count.f
  rw [Option.bind_some, if_pos (by omega), Option.bind_some, Option.bind_some, hsz]
  congr 1
  have h1 : wrap64 (((s.size + 2 : Nat) : Int) + 4) = ((s.size + 6 : Nat) : Int) := by unfold wrap64; omega
  rw [h1]
  have h2 : Int.tdiv ((s.size + 6 : Nat) : Int) 64 = (((s.size + 6) / 64 : Nat) : Int) := rfl
  rw [h2]
  have h3 : wrap64 ((((s.size + 6) / 64 : Nat)) : Int) = (((s.size + 6) / 64 : Nat) : Int) := by unfold wrap64; omega
  rw [h3]
  unfold wrap64; omega
def putRel (gb : Nat) (e0 : Value) (a no : Int) (s : ByteArray) : Nat → Value → World → Prop
  | 0, v, _ => v = .pointer (some ⟨gb, 1, none⟩)
  | 1, v, _ => v = .pointer (some ⟨gb, 1, none⟩)
  | 2, v, _ => v = .pointer (some ⟨gb, 1, none⟩)
  | 3, v, _ => v = e0
  | 4, v, _ => v = .agg #[.int .i64 a, .int .i64 no, .string s]
  | 5, v, w => ∃ gl, v = .slice (some ⟨gl, 0, none⟩) 1 1 ∧ w.heap[gl]? = some (.cells [.int .i64 a, .int .i64 no, .string s].toArray 23 (0, 0))
  | 7, v, _ => v = .pointer (some ⟨gb, 1, none⟩)
  | _, _, _ => True
def putSt (gb : Nat) : Nat → Value → Prop
  | 0, v => v = .pointer (some ⟨gb, 1, none⟩)
  | 7, v => v = .pointer (some ⟨gb, 1, none⟩)
  | _, _ => True
theorem putRel_stable (gb : Nat) (e0 : Value) (a no : Int) (s : ByteArray) (j : Nat) (v : Value) (w w' : World) (h : putRel gb e0 a no s j v w) (hb : Below w.heap.size w w') : putRel gb e0 a no s j v w' := by
  revert h
  unfold putRel
  split <;> intro h <;> first | exact h | (obtain ⟨gl, h1, h2⟩ := h; exact ⟨gl, h1, (hb.block gl (blk_lt h2)).trans h2⟩)
theorem putRel_st (gb : Nat) (e0 : Value) (a no : Int) (s : ByteArray) (j : Nat) (v : Value) (w : World) (h : putRel gb e0 a no s j v w) : putSt gb j v := by
  unfold putSt
  split <;> first | exact h | trivial
/-- Behind the append, and behind the store. -/
def PutMid (w : World) (Se : Nat → Prop) (gb gd gx : Nat) (e0 : Value) (used falls : Int) (nE : Nat) (ys : List Value) (a no : Int) (s : ByteArray) (v : Value) (W : World) : Prop :=
  BookAt W gb gd e0 used falls ∧ Own W (Nw Se w) 23 3 v nE ys ∧ Kp Se w W ∧ W.heap[gx]? = some (.cells #[.int .i64 a, .int .i64 no, .string s] 23 (0, 0))
def PutEnd (w : World) (Se : Nat → Prop) (gb gd gx : Nat) (used falls : Int) (nE : Nat) (ys : List Value) (a no : Int) (s : ByteArray) (W : World) : Prop :=
  ∃ e1, BookAt W gb gd e1 used falls ∧ Own W (Nw Se w) 23 3 e1 nE ys ∧ Kp (fun k => Se k ∨ k = gb) w W ∧ W.heap[gx]? = some (.cells #[.int .i64 a, .int .i64 no, .string s] 23 (0, 0))
theorem PutMid.store {w W : World} {Se : Nat → Prop} {gb gd gx nE : Nat} {e0 v : Value} {used falls a no : Int} {ys : List Value} {s : ByteArray} (h : PutMid w Se gb gd gx e0 used falls nE ys a no s v W) :
    PutEnd w Se gb gd gx used falls nE ys a no s (W.setCell ⟨gb, 1, none⟩ v) := by
  obtain ⟨h1, h2, h3, h4⟩ := h
  have h1' : W.heap[gb]? = some (.cells (bookCells e0 used gd falls) 95 (0, 0)) := h1
  refine ⟨v, ?_, h2.setCell (h2.type_ne h1' (by decide)) v, (h3.mono fun k hk => .inl hk).setCell (.inl (.inr rfl)) v, ?_⟩
  · unfold BookAt
    rw [blk_set h1']
    rfl
  · refine (Below.heap_setCell _ _ _ _ (fun e => ?_)).trans h4
    rw [e] at h4
    simp only at h4
    rw [h1'] at h4
    injection h4 with h4
    injection h4 with _ h4 _
    cases h4
def put5Rel (gb cnt : Nat) (used a no : Int) (s : ByteArray) : Nat → Value → World → Prop
  | 0, v, _ => v = .pointer (some ⟨gb, 0, none⟩)
  | 1, v, _ => v = .pointer (some ⟨gb, 0, none⟩)
  | 2, v, _ => v = .pointer (some ⟨gb, 9, none⟩)
  | 3, v, _ => v = .int .i64 used
  | 4, v, _ => v = .agg #[.int .i64 a, .int .i64 no, .string s]
  | 5, v, _ => v = .int .i64 (cnt : Int)
  | 6, v, _ => v = .int .i64 (used + (cnt : Int))
  | 7, v, _ => v = .pointer (some ⟨gb, 0, none⟩)
  | 8, v, _ => v = .pointer (some ⟨gb, 9, none⟩)
  | _, _, _ => True
theorem size3 : (Try.prog.info? 3).map (·.size) = some 1 := by kernel_rfl
set_option maxRecDepth 100000 in
theorem store3_ {ops : Array Oper} {Q : Exit → Act → World → Prop} {oi : Oper} {a : Act} {w : World} {K : Act → World → Prop} {g i : Nat} {y : Int} {x p : Operand} {u : Value} (hw : Region.wanted oi (yielded ops a.tmps) = true) (hN : oi.dst = none) (hop : oi.op = .store 3 p x) (hp : a.eval p = .pointer (some ⟨g, i, none⟩)) (hx : a.eval x = .int .i64 y) (hc : w.cell? ⟨g, i, none⟩ = some u) (hf : w.frozen? ⟨g, i, none⟩ = false)
    (hk : K a (w.setCell ⟨g, i, none⟩ (.int .i64 y))) : if Region.wanted oi (yielded ops a.tmps) = true then Oper.wp Try.prog oi a w K Q else K (a.put none undef) w := by
  refine skip_ hw hN ?_ hk
  unfold execOp
  simp only [hop, hp, hx]
  go_simp
theorem PutEnd.store {w W W1 : World} {Se : Nat → Prop} {gb gd gx nE : Nat} {used falls a no : Int} {ys : List Value} {s : ByteArray} (h : PutEnd w Se gb gd gx used falls nE ys a no s W) (hB : Below W.heap.size W W1) (y : Int) :
    ∃ e1, BookAt (W1.setCell ⟨gb, 9, none⟩ (.int .i64 y)) gb gd e1 y falls ∧ Own (W1.setCell ⟨gb, 9, none⟩ (.int .i64 y)) (Nw Se w) 23 3 e1 nE ys ∧ Kp (fun k => Se k ∨ k = gb) w (W1.setCell ⟨gb, 9, none⟩ (.int .i64 y)) := by
  obtain ⟨e1, h1, h2, h3, h4⟩ := h
  have h1' : W1.heap[gb]? = some (.cells (bookCells e1 used gd falls) 95 (0, 0)) := h1.below hB
  refine ⟨e1, ?_, (own_later h2 hB).setCell ((own_later h2 hB).type_ne h1' (by decide)) _, (h3.below hB).setCell (.inl (.inr rfl)) _⟩
  unfold BookAt
  rw [blk_set h1']
  rfl
set_option maxHeartbeats 8000000 in
set_option maxRecDepth 100000 in
theorem putA_calls (w : World) (Se : Nat → Prop) (gb gd nE : Nat) (e0 : Value) (used falls : Int) (xs : List Value) (s : ByteArray) (hb : BookAt w gb gd e0 used falls) (ho : Own w Se 23 3 e0 nE xs) (hn : nE ≤ 60) (hs : s.size ≤ 2400) (hu : 0 ≤ used) (hu2 : used ≤ 4096) (hSe : ∀ k, Se k → k < w.heap.size) :
    Calls Try.prog 144 #[.pointer (some ⟨gb, 0, none⟩), .agg #[.int .i64 0, .int .i64 (nE : Int), .string s]] w fun e w' => e = .returned (.tuple #[]) ∧ ∃ e1, BookAt w' gb gd e1 (used + ((1 + (s.size + 6) / 64 : Nat) : Int)) falls ∧ Own w' (Nw Se w) 23 3 e1 (nE + 1) (xs ++ [.int .i64 0, .int .i64 (nE : Int), .string s]) ∧ Kp (fun k => Se k ∨ k = gb) w w' := by
  obtain ⟨A, c, rfl⟩ := ho.slice
  have hlt := blk_lt hb
  have hX := blk_new w (.cells #[.int .i64 0, .int .i64 (nE : Int), .string s] 23)
  have hB1 : Below w.heap.size w (w.alloc (.cells #[.int .i64 0, .int .i64 (nE : Int), .string s] 23)) := below_alloc (Below.refl _ _) _
  have c1 : (w.alloc (.cells #[.int .i64 0, .int .i64 (nE : Int), .string s] 23)).cell? ⟨gb, 1, none⟩ = some (.slice A nE c) := (blk_cell (hb.below hB1) 1).trans rfl
  have HBk := Aside0.mk (hb.below hB1)
  have HO := Aside0.mk (own_later ho hB1)
  have HX := Aside0.mk hX
  have HKp := Aside0.mk (Kp.of_below Se hB1)
  have HXne : Aside0 (¬ Se w.heap.size) := Aside0.mk fun h => Nat.lt_irrefl _ (hSe _ h)
  have HN : Aside0 (nE ≤ 1000000) := Aside0.mk (by omega)
  clear hb ho hX hB1 hSe
  go_enter Try.func144, Try.ntmps144
  go_wp2
  go_region
  all_goals go_wp2
  all_goals (try go_region)
  all_goals go_wp2
  generalize hWW : (w.alloc (.cells #[.int .i64 0, .int .i64 (nE : Int), .string s] 23)).drew.drew = W0
  have hb2 : Below (w.alloc (.cells #[.int .i64 0, .int .i64 (nE : Int), .string s] 23)).heap.size (w.alloc (.cells #[.int .i64 0, .int .i64 (nE : Int), .string s] 23)) W0 := by rw [← hWW]; exact below_drew (below_drew (Below.refl _ _))
  have HBk' := Aside0.mk (HBk.out.below hb2)
  have HO' := Aside0.mk (own_later HO.out hb2)
  have HX' := Aside0.mk ((hb2.block _ (blk_lt HX.out)).trans HX.out)
  have HKp' := Aside0.mk (HKp.out.below hb2)
  clear HBk HO HX HKp hb2 hWW c1
  have HBk := HBk'
  have HO := HO'
  have HX := HX'
  have HKp := HKp'
  clear HBk' HO' HX' HKp'
  refine rg4_ 6 8 [0, 1, 2, 3, 4, 5, 6, 7, 8] [0, 7] [(0, 18), (1, 19), (2, 20), (3, 21), (4, 22), (5, 23), (6, 24), (7, 25)] (bitsOf (rtab .any (opsOf Try.f144 3)).2) (putRel gb (.slice A nE c) 0 (nE : Int) s) (putSt gb) (PutMid w Se gb gd (w.heap.size) (.slice A nE c) used falls (nE + 1) (xs ++ [.int .i64 0, .int .i64 (nE : Int), .string s]) 0 (nE : Int) s) (fun _ W => PutEnd w Se gb gd (w.heap.size) used falls (nE + 1) (xs ++ [.int .i64 0, .int .i64 (nE : Int), .string s]) 0 (nE : Int) s W) (by kernel_rfl) rfl (by kernel_rfl) rfl (by kernel_rfl) (putRel_stable _ _ _ _ _) (putRel_st _ _ _ _ _) ?steps ?h1 ?h2 ?rend
  case steps =>
    refine steps4_loose rfl (fun a1 w1 hn hd => ⟨_, rfl, fun K hK => ?_⟩) ?_
    · have e4 := eval_of ((hn 4 rfl).trans rfl)
      refine value_ (v := .pointer (some ⟨gb, 1, none⟩)) (w1 := w1) rfl rfl ?_ (hK _ (fun _ => rfl))
      clear hd hn hK
      simp only [execOp, Option.map_some, Option.map_none, List.map_toArray, List.map_cons, List.map_nil, List.getElem_toArray, List.getElem_cons_zero, List.getElem_cons_succ, e4]
      clear e4
      go_simp
    refine steps4_cons rfl (fun a1 w1 hB hsz hdf hn hd => ⟨_, rfl, fun K hK => ?_⟩) ?_
    · have e4 := eval_of ((hn 4 rfl).trans rfl)
      refine value_ (v := .pointer (some ⟨gb, 1, none⟩)) (w1 := w1) rfl rfl ?_ (hK _ _ (Below.refl _ _) rfl)
      clear hd hn hK
      simp only [execOp, Option.map_some, Option.map_none, List.map_toArray, List.map_cons, List.map_nil, List.getElem_toArray, List.getElem_cons_zero, List.getElem_cons_succ, e4]
      clear e4
      go_simp
    refine steps4_cons rfl (fun a1 w1 hB hsz hdf hn hd => ⟨_, rfl, fun K hK => ?_⟩) ?_
    · obtain ⟨v19, h19, rfl⟩ := hd 1 19 rfl (by kernel_rfl)
      have e19 := eval_of h19
      clear h19
      refine value_ (v := .pointer (some ⟨gb, 1, none⟩)) (w1 := w1) rfl rfl ?_ (hK _ _ (Below.refl _ _) rfl)
      clear hd hn hK
      simp only [execOp, Option.map_some, Option.map_none, List.map_toArray, List.map_cons, List.map_nil, List.getElem_toArray, List.getElem_cons_zero, List.getElem_cons_succ, e19]
      clear e19
      go_simp
    refine steps4_cons rfl (fun a1 w1 hB hsz hdf hn hd => ⟨_, rfl, fun K hK => ?_⟩) ?_
    · obtain ⟨v20, h20, rfl⟩ := hd 2 20 rfl (by kernel_rfl)
      have e20 := eval_of h20
      clear h20
      refine value_ (v := .slice A nE c) (w1 := w1) rfl rfl ?_ (hK _ _ (Below.refl _ _) rfl)
      clear hd hn hK
      simp only [execOp, Option.map_some, Option.map_none, List.map_toArray, List.map_cons, List.map_nil, List.getElem_toArray, List.getElem_cons_zero, List.getElem_cons_succ, e20]
      clear e20
      have hq : w1.cell? ⟨gb, 1, none⟩ = some (.slice A nE c) := (blk_cell (HBk.out.below hB) 1).trans rfl
      clear hB
      go_simp
    refine steps4_cons rfl (fun a1 w1 hB hsz hdf hn hd => ⟨_, rfl, fun K hK => ?_⟩) ?_
    · have e3 := eval_of ((hn 3 rfl).trans rfl)
      refine value_ (v := .agg #[.int .i64 0, .int .i64 (nE : Int), .string s]) (w1 := w1) rfl rfl ?_ (hK _ _ (Below.refl _ _) rfl)
      clear hd hn hK
      simp only [execOp, Option.map_some, Option.map_none, List.map_toArray, List.map_cons, List.map_nil, List.getElem_toArray, List.getElem_cons_zero, List.getElem_cons_succ, e3]
      clear e3
      have hbx := (hB.block w.heap.size (blk_lt HX.out)).trans HX.out
      have hx0 : w1.cell? ⟨w.heap.size, 0, none⟩ = some (.int .i64 0) := (blk_cell hbx 0).trans rfl
      have hx1 : w1.cell? ⟨w.heap.size, 1, none⟩ = some (.int .i64 (nE : Int)) := (blk_cell hbx 1).trans rfl
      have hx2 : w1.cell? ⟨w.heap.size, 2, none⟩ = some (.string s) := (blk_cell hbx 2).trans rfl
      clear hB hbx
      go_simp
    refine steps4_cons rfl (fun a1 w1 hB hsz hdf hn hd => ⟨_, rfl, fun K hK => ?_⟩) ?_
    · obtain ⟨v22, h22, rfl⟩ := hd 4 22 rfl (by kernel_rfl)
      have e22 := eval_of h22
      clear h22
      refine value_ (v := .slice (some ⟨w1.heap.size, 0, none⟩) 1 1) (w1 := w1.alloc (.cells [.int .i64 0, .int .i64 (nE : Int), .string s].toArray 23)) rfl rfl ?_ (hK _ _ (below_alloc (Below.refl _ _) _) ⟨_, rfl, blk_new _ _⟩)
      clear hd hn hK
      simp only [execOp, Option.map_some, Option.map_none, List.map_toArray, List.map_cons, List.map_nil, List.getElem_toArray, List.getElem_cons_zero, List.getElem_cons_succ, e22]
      clear e22
      go_simp
    refine steps4_m1 ?_
    refine steps4_loose rfl (fun a1 w1 hn hd => ⟨_, rfl, fun K hK => ?_⟩) ?_
    · obtain ⟨v18, h18, rfl⟩ := hd 0 18 rfl (by kernel_rfl)
      have e18 := eval_of h18
      clear h18
      refine value_ (v := .pointer (some ⟨gb, 1, none⟩)) (w1 := w1) rfl rfl ?_ (hK _ (fun _ => rfl))
      clear hd hn hK
      simp only [execOp, Option.map_some, Option.map_none, List.map_toArray, List.map_cons, List.map_nil, List.getElem_toArray, List.getElem_cons_zero, List.getElem_cons_succ, e18]
      clear e18
      go_simp
    refine steps4_m2 ?_
    exact steps4_nil
  case h1 =>
    intro a1 w1 hB hn hd
    obtain ⟨v21, h21, q21⟩ := hd 3 21 rfl (by kernel_rfl)
    obtain ⟨v23, h23, gl, rfl, hgl⟩ := hd 5 23 rfl (by kernel_rfl)
    have e21 : v21 = .slice A nE c := q21
    subst e21
    have e1 := eval_of h21
    have e2 := eval_of h23
    refine ⟨_, rfl, fun K hK => ?_⟩
    refine append23_ rfl rfl rfl e1 e2 (own_later HO.out hB) hgl rfl (by intro u hu; simp only [List.mem_cons, List.not_mem_nil, or_false] at hu; rcases hu with rfl | rfl | rfl <;> rfl) HN.out (fun v' w' hown hg => ?_)
    refine hK _ _ ⟨?_, hown.mono fun k hk => hk.elim (fun h => .inl h) (fun h => .inr (Nat.le_trans HKp.out.size (Nat.le_trans hB.size h))), (HKp.out.below hB).of_grown hg (fun k e => .inl (HO.out.2 k e)), ?_⟩
    · have hbb := HBk.out.below hB
      exact (hg.block gb (blk_lt hbb) (fun e => (own_later HO.out hB).type_ne hbb (by decide) e.symm)).trans hbb
    · have hbx := (hB.block w.heap.size (blk_lt HX.out)).trans HX.out
      exact (hg.block w.heap.size (blk_lt hbx) (fun e => HXne.out (HO.out.2 _ e.symm))).trans hbx
  case h2 =>
    intro a1 w1 hn hd hp
    obtain ⟨v25, h25, q25⟩ := hd 7 25 rfl (by kernel_rfl)
    have e25 : v25 = .pointer (some ⟨gb, 1, none⟩) := q25
    subst e25
    obtain ⟨v', hp1, ht⟩ := hp
    have e1 := eval_of h25
    have e2 := eval_of (ht 24 rfl)
    refine ⟨_, rfl, fun K hK => ?_⟩
    obtain ⟨A', c', rfl⟩ := hp1.2.1.slice
    exact store_ rfl rfl rfl e1 e2 ((blk_cell hp1.1 1).trans rfl) (blk_frozen hp1.1 1) Try.underlying24 size24 (hK undef _ hp1.store)
  case rend =>
    intro vals w1 hp _
    simp only [fill, Act.put, List.setIfInBounds_toArray, List.set_cons_zero, List.set_cons_succ]
    have HP := Aside0.mk hp
    clear hp
    go_wp2
    obtain ⟨e1, hB1, hO1, hK1, hX1⟩ := HP.out
    refine rg5_ 9 [0, 1, 2, 3, 4, 5, 6, 7, 8, 9] [(0, 33), (1, 34), (2, 35), (3, 36), (4, 37), (5, 38), (6, 39), (7, 40), (8, 41)] (bitsOf (rtab .any (opsOf Try.f144 5)).2) (put5Rel gb (1 + (s.size + 6) / 64) used 0 (nE : Int) s) (fun _ W => ∃ e1, BookAt W gb gd e1 (used + ((1 + (s.size + 6) / 64 : Nat) : Int)) falls ∧ Own W (Nw Se w) 23 3 e1 (nE + 1) (xs ++ [.int .i64 0, .int .i64 (nE : Int), .string s]) ∧ Kp (fun k => Se k ∨ k = gb) w W) (by kernel_rfl) rfl (by kernel_rfl) rfl (by kernel_rfl) (fun j v w w' h _ => by revert h; unfold put5Rel; split <;> exact id) ?steps5 ?h15 ?rend5
    case steps5 =>
      refine steps5_cons (fun a1 w2 hB hsz hdf hn hd => ⟨_, rfl, fun K hK => ?_⟩) ?_
      · have e0 := eval_of ((hn 0 rfl).trans rfl)
        refine value_ (v := .pointer (some ⟨gb, 0, none⟩)) (w1 := w2) rfl rfl ?_ (hK _ _ (Below.refl _ _) rfl)
        clear hd hn hK
        simp only [execOp, Option.map_some, Option.map_none, List.map_toArray, List.map_cons, List.map_nil, List.getElem_toArray, List.getElem_cons_zero, List.getElem_cons_succ, e0]
        clear e0
        go_simp
      refine steps5_cons (fun a1 w2 hB hsz hdf hn hd => ⟨_, rfl, fun K hK => ?_⟩) ?_
      · obtain ⟨v33, h33, rfl⟩ := hd 0 33 rfl (by kernel_rfl)
        have e33 := eval_of h33
        clear h33
        refine value_ (v := .pointer (some ⟨gb, 0, none⟩)) (w1 := w2) rfl rfl ?_ (hK _ _ (Below.refl _ _) rfl)
        clear hd hn hK
        simp only [execOp, Option.map_some, Option.map_none, List.map_toArray, List.map_cons, List.map_nil, List.getElem_toArray, List.getElem_cons_zero, List.getElem_cons_succ, e33]
        clear e33
        go_simp
      refine steps5_cons (fun a1 w2 hB hsz hdf hn hd => ⟨_, rfl, fun K hK => ?_⟩) ?_
      · obtain ⟨v34, h34, rfl⟩ := hd 1 34 rfl (by kernel_rfl)
        have e34 := eval_of h34
        clear h34
        refine value_ (v := .pointer (some ⟨gb, 9, none⟩)) (w1 := w2) rfl rfl ?_ (hK _ _ (Below.refl _ _) rfl)
        clear hd hn hK
        simp only [execOp, Option.map_some, Option.map_none, List.map_toArray, List.map_cons, List.map_nil, List.getElem_toArray, List.getElem_cons_zero, List.getElem_cons_succ, e34]
        clear e34
        go_simp
      refine steps5_cons (fun a1 w2 hB hsz hdf hn hd => ⟨_, rfl, fun K hK => ?_⟩) ?_
      · obtain ⟨v35, h35, rfl⟩ := hd 2 35 rfl (by kernel_rfl)
        have e35 := eval_of h35
        clear h35
        refine value_ (v := .int .i64 used) (w1 := w2) rfl rfl ?_ (hK _ _ (Below.refl _ _) rfl)
        clear hd hn hK
        simp only [execOp, Option.map_some, Option.map_none, List.map_toArray, List.map_cons, List.map_nil, List.getElem_toArray, List.getElem_cons_zero, List.getElem_cons_succ, e35]
        clear e35
        have hq : w2.cell? ⟨gb, 9, none⟩ = some (.int .i64 used) := (blk_cell (hB1.below hB) 9).trans rfl
        clear hB
        go_simp
      refine steps5_cons (fun a1 w2 hB hsz hdf hn hd => ⟨_, rfl, fun K hK => ?_⟩) ?_
      · have e3 := eval_of ((hn 3 rfl).trans rfl)
        refine value_ (v := .agg #[.int .i64 0, .int .i64 (nE : Int), .string s]) (w1 := w2) rfl rfl ?_ (hK _ _ (Below.refl _ _) rfl)
        clear hd hn hK
        simp only [execOp, Option.map_some, Option.map_none, List.map_toArray, List.map_cons, List.map_nil, List.getElem_toArray, List.getElem_cons_zero, List.getElem_cons_succ, e3]
        clear e3
        have hbx := (hB.block _ (blk_lt hX1)).trans hX1
        have hx0 : w2.cell? ⟨w.heap.size, 0, none⟩ = some (.int .i64 0) := (blk_cell hbx 0).trans rfl
        have hx1 : w2.cell? ⟨w.heap.size, 1, none⟩ = some (.int .i64 (nE : Int)) := (blk_cell hbx 1).trans rfl
        have hx2 : w2.cell? ⟨w.heap.size, 2, none⟩ = some (.string s) := (blk_cell hbx 2).trans rfl
        clear hB hbx
        go_simp
      refine steps5_cons (fun a1 w2 hB hsz hdf hn hd => ⟨_, rfl, fun K hK => ?_⟩) ?_
      · obtain ⟨v37, h37, rfl⟩ := hd 4 37 rfl (by kernel_rfl)
        have e37 := eval_of h37
        clear h37
        refine goes_ Try.func142 (by kernel_rfl) rfl #[.agg #[.int .i64 0, .int .i64 (nE : Int), .string s]] (by rfl) rfl rfl (by simp only [List.map_toArray, List.map_cons, List.map_nil, e37]) ?_
        refine (sectors_calls23 0 (nE : Int) s _ hs).mono ?_
        rintro e w3 ⟨rfl, hbw⟩
        exact ⟨_, rfl, hK _ _ hbw rfl⟩
      refine steps5_cons (fun a1 w2 hB hsz hdf hn hd => ⟨_, rfl, fun K hK => ?_⟩) ?_
      · obtain ⟨v36, h36, rfl⟩ := hd 3 36 rfl (by kernel_rfl)
        have e36 := eval_of h36
        clear h36
        obtain ⟨v38, h38, rfl⟩ := hd 5 38 rfl (by kernel_rfl)
        have e38 := eval_of h38
        clear h38
        refine value_ (v := .int .i64 (used + ((1 + (s.size + 6) / 64 : Nat) : Int))) (w1 := w2) rfl rfl ?_ (hK _ _ (Below.refl _ _) rfl)
        clear hd hn hK
        simp only [execOp, Option.map_some, Option.map_none, List.map_toArray, List.map_cons, List.map_nil, List.getElem_toArray, List.getElem_cons_zero, List.getElem_cons_succ, e36, e38]
        clear e36 e38
        have hq : IntKind.i64.wrap (used + ((1 + (s.size + 6) / 64 : Nat) : Int)) = used + ((1 + (s.size + 6) / 64 : Nat) : Int) := by rw [i64_w]; unfold wrap64; omega
        generalize ((1 + (s.size + 6) / 64 : Nat) : Int) = cc at hq ⊢
        clear hB
        go_simp
      refine steps5_cons (fun a1 w2 hB hsz hdf hn hd => ⟨_, rfl, fun K hK => ?_⟩) ?_
      · obtain ⟨v33, h33, rfl⟩ := hd 0 33 rfl (by kernel_rfl)
        have e33 := eval_of h33
        clear h33
        refine value_ (v := .pointer (some ⟨gb, 0, none⟩)) (w1 := w2) rfl rfl ?_ (hK _ _ (Below.refl _ _) rfl)
        clear hd hn hK
        simp only [execOp, Option.map_some, Option.map_none, List.map_toArray, List.map_cons, List.map_nil, List.getElem_toArray, List.getElem_cons_zero, List.getElem_cons_succ, e33]
        clear e33
        go_simp
      refine steps5_cons (fun a1 w2 hB hsz hdf hn hd => ⟨_, rfl, fun K hK => ?_⟩) ?_
      · obtain ⟨v40, h40, rfl⟩ := hd 7 40 rfl (by kernel_rfl)
        have e40 := eval_of h40
        clear h40
        refine value_ (v := .pointer (some ⟨gb, 9, none⟩)) (w1 := w2) rfl rfl ?_ (hK _ _ (Below.refl _ _) rfl)
        clear hd hn hK
        simp only [execOp, Option.map_some, Option.map_none, List.map_toArray, List.map_cons, List.map_nil, List.getElem_toArray, List.getElem_cons_zero, List.getElem_cons_succ, e40]
        clear e40
        go_simp
      refine steps5_m ?_
      exact steps5_nil
    case h15 =>
      intro a1 w2 hB hn hd
      obtain ⟨v39, h39, q39⟩ := hd 6 39 rfl (by kernel_rfl)
      have e39 : v39 = .int .i64 (used + ((1 + (s.size + 6) / 64 : Nat) : Int)) := q39
      subst e39
      obtain ⟨v41, h41, q41⟩ := hd 8 41 rfl (by kernel_rfl)
      have e41 : v41 = .pointer (some ⟨gb, 9, none⟩) := q41
      subst e41
      refine ⟨_, rfl, fun K hK => ?_⟩
      exact store3_ rfl rfl rfl (eval_of h41) (eval_of h39) ((blk_cell (hB1.below hB) 9).trans rfl) (blk_frozen (hB1.below hB) 9) (hK undef _ (HP.out.store hB _))
    case rend5 =>
      intro vals2 w2 hp2
      simp only [fill, Act.put, List.setIfInBounds_toArray, List.set_cons_zero, List.set_cons_succ]
      have HP2 := Aside0.mk hp2
      clear hp2
      go_wp2
      go_end0
      exact ⟨rfl, HP2.out⟩
end Go.Proofs.Ytkedodmlbepfnaa.Lg

-- from the working text Bw
set_option linter.unusedSimpArgs false
set_option linter.unusedVariables false
namespace Go.Proofs.Ytkedodmlbepfnaa.Lg
open Go.RowKit Go.Proofs.YtkedodmlbepfnaaW.PrintWords Go.Proofs.YtkedodmlbepfnaaW.PrintLast Go.Proofs.YtkedodmlbepfnaaW.PrintMore Go.Proofs.Ytkedodmlbepfnaa.Rg
/-- A block of a disk's. -/
def TY (w : World) (k : Nat) : Prop := ∃ cs t z, w.heap[k]? = some (.cells cs t z) ∧ (t = 115 ∨ t = 122 ∨ t = 124)
theorem TY.not {w : World} {k : Nat} {cs : Array Value} {t : TypeId} {z : Nat × Nat} (h : w.heap[k]? = some (.cells cs t z)) (h1 : t ≠ 115) (h2 : t ≠ 122) (h3 : t ≠ 124) : ¬ TY w k := by
  rintro ⟨cs', t', z', h', ht⟩
  rw [h] at h'
  injection h' with h'
  injection h' with _ h' _
  subst h'
  rcases ht with ht | ht | ht
  · exact h1 ht
  · exact h2 ht
  · exact h3 ht
theorem Own.typed {w : World} {S : Nat → Prop} {e : TypeId} {size n : Nat} {v : Value} {xs : List Value} (h : Own w S e size v n xs) (he : e = 115 ∨ e = 122 ∨ e = 124) : Own w (fun i => S i ∧ TY w i) e size v n xs := by
  refine ⟨h.1, fun k hk => ⟨h.2 k hk, ?_⟩⟩
  obtain ⟨c, hc⟩ := own_typed h.1 k hk
  exact ⟨_, _, _, hc, he⟩
theorem GD.typed {w : World} {S : Nat → Prop} {g n k : Nat} {f : Int} (h : GD w S g n f k) : GD w (fun i => S i ∧ TY w i) g n f k := by
  obtain ⟨d, vs, vn, vw, ⟨h1, h2, h3, h4, h5, h6, h7⟩, hr⟩ := h
  exact ⟨d, vs, vn, vw, ⟨h1, ⟨h2, _, _, _, h3, .inl rfl⟩, h3, h4.typed (.inr (.inl rfl)), h5.typed (.inr (.inl rfl)), h6.typed (.inr (.inr rfl)), h7⟩, hr⟩
/-- The one block of a row. -/
theorem Own.exact {w : World} {S : Nat → Prop} {e : TypeId} {size n : Nat} {v : Value} {xs : List Value} (h : Own w S e size v n xs) : Own w (fun k => v.ownBlock = some k) e size v n xs := ⟨h.1, fun _ hk => hk⟩
/-- A book with its disk and its first office's entries, all newer than base. -/
def BK (base : Nat) (w : World) (gb gd n : Nat) (e0 : Value) (used f : Int) (nE : Nat) (xs : List Value) (k : Nat) : Prop :=
  base ≤ gb ∧ BookAt w gb gd e0 used f ∧ GD w (fun i => base ≤ i) gd n f k ∧ Own w (fun i => base ≤ i) 23 3 e0 nE xs
theorem BK.below {base gb gd n nE k : Nat} {w w1 : World} {e0 : Value} {used f : Int} {xs : List Value} (h : BK base w gb gd n e0 used f nE xs k) (hb : Below w.heap.size w w1) : BK base w1 gb gd n e0 used f nE xs k :=
  ⟨h.1, h.2.1.below hb, h.2.2.1.below hb, own_later h.2.2.2 hb⟩
/-- What is neither a disk's nor a book's nor entries stands. -/
def Kv (w W : World) : Prop := ∀ (k : Nat) (cs : Array Value) (t : TypeId), t ≠ 115 → t ≠ 122 → t ≠ 124 → t ≠ 23 → t ≠ 95 → w.heap[k]? = some (Obj.cells cs t (0, 0)) → W.heap[k]? = some (Obj.cells cs t (0, 0))
theorem Kv.of_below {w W : World} (h : Below w.heap.size w W) : Kv w W := fun k cs t _ _ _ _ _ hk => (h.block k (blk_lt hk)).trans hk
theorem Kv.trans {w W W' : World} (h : Kv w W) (h' : Kv W W') : Kv w W' := fun k cs t a b c d e hk => h' k cs t a b c d e (h k cs t a b c d e hk)
/-- A record is written. -/
theorem BK.record {base gb gd n nE k : Nat} {w : World} {e0 : Value} {used : Nat} {f a b : Int} {xs : List Value} (h : BK base w gb gd n e0 used f nE xs k) (hbase : base ≤ w.heap.size) (s : ByteArray) (hf : f ≤ 1000000) (hn : n ≤ 4096) (hk : k ≤ 100) (hs : s.size ≤ 2400) (hat : used + 1 + (s.size + 6) / 64 ≤ n) :
    Calls Try.prog 143 #[.pointer (some ⟨gd, 0, none⟩), .int .i64 (used : Int), .agg #[.int .i64 a, .int .i64 b, .string s]] w fun e w' => e = .returned (.tuple #[]) ∧ BK base w' gb gd n e0 used f nE xs 0 ∧ Below base w w' ∧ (∀ (k : Nat) (cs : Array Value), w.heap[k]? = some (Obj.cells cs 23 (0, 0)) → w'.heap[k]? = some (Obj.cells cs 23 (0, 0))) ∧ Kv w w' := by
  obtain ⟨h1, h2, h3, h4⟩ := h
  have h2' : w.heap[gb]? = some (.cells (bookCells e0 used gd f) 95 (0, 0)) := h2
  refine (record_calls w _ gd n k used f a b s h3.typed hf hn hk hs hat).mono ?_
  rintro e w' ⟨rfl, hd, hkp⟩
  refine ⟨rfl, ⟨h1, (hkp.block gb (blk_lt h2') (fun h => TY.not h2' (by decide) (by decide) (by decide) h.2)).trans h2', hd.mono fun i hi => hi.elim (fun h => h.1) (fun h => Nat.le_trans hbase h), ?_⟩, hkp.to_below (fun i hi => hi.1) hbase, fun k cs hcs => (hkp.block k (blk_lt hcs) (fun h => TY.not hcs (by decide) (by decide) (by decide) h.2)).trans hcs, fun k cs t a b c _ _ h => (hkp.block k (blk_lt h) (fun hS => TY.not h a b c hS.2)).trans h⟩
  refine (h4.exact.kp hkp fun i hi hlt hS => ?_).mono fun i hi => h4.2 i hi
  obtain ⟨c, hc⟩ := own_typed h4.1 i hi
  exact TY.not hc (by decide) (by decide) (by decide) hS.2
/-- An entry is laid behind the others. -/
theorem BK.putA {base gb gd n nE k : Nat} {w : World} {e0 : Value} {used f : Int} {xs : List Value} (h : BK base w gb gd n e0 used f nE xs k) (hbase : base ≤ w.heap.size) (s : ByteArray) (hn : nE ≤ 60) (hs : s.size ≤ 2400) (hu : 0 ≤ used) (hu2 : used ≤ 4096) :
    Calls Try.prog 144 #[.pointer (some ⟨gb, 0, none⟩), .agg #[.int .i64 0, .int .i64 (nE : Int), .string s]] w fun e w' => e = .returned (.tuple #[]) ∧ ∃ e1, BK base w' gb gd n e1 (used + ((1 + (s.size + 6) / 64 : Nat) : Int)) f (nE + 1) (xs ++ [.int .i64 0, .int .i64 (nE : Int), .string s]) k ∧ Below base w w' ∧ Kv w w' := by
  obtain ⟨h1, h2, h3, h4⟩ := h
  have h2' : w.heap[gb]? = some (.cells (bookCells e0 used gd f) 95 (0, 0)) := h2
  refine (putA_calls w _ gb gd nE e0 used f xs s h2 h4.exact hn hs hu hu2 (fun i hi => by obtain ⟨c, hc⟩ := own_typed h4.1 i hi; exact blk_lt hc)).mono ?_
  rintro e w' ⟨rfl, e1, hb, ho, hkp⟩
  have hle : ∀ i, (e0.ownBlock = some i ∨ i = gb) → base ≤ i := fun i hi => hi.elim (fun h => h4.2 i h) (fun h => h ▸ h1)
  refine ⟨rfl, e1, ⟨h1, hb, (h3.typed.kp hkp fun i hi hlt hS => ?_).mono fun i hi => hi.1, ho.mono fun i hi => hi.elim (fun h => h4.2 i h) (fun h => Nat.le_trans hbase h)⟩, hkp.to_below hle hbase, fun k cs t _ _ _ d e h => (hkp.block k (blk_lt h) (fun hS => hS.elim (fun h1 => by obtain ⟨c, hc⟩ := own_typed h4.1 k h1; rw [h] at hc; injection hc with hc; injection hc with _ hc _; exact d hc) (fun h1 => by subst h1; rw [h] at h2'; injection h2' with h2'; injection h2' with _ h2' _; exact e h2'))).trans h⟩
  rcases hS with hS | hS
  · obtain ⟨c, hc⟩ := own_typed h4.1 i hS
    exact TY.not hc (by decide) (by decide) (by decide) hi.2
  · subst hS
    exact TY.not h2' (by decide) (by decide) (by decide) hi.2
def w3Rel (gb gd : Nat) (used a no : Int) (s : ByteArray) : Nat → Value → World → Prop
  | 0, v, _ => v = .pointer (some ⟨gb, 0, none⟩)
  | 1, v, _ => v = .pointer (some ⟨gb, 0, none⟩)
  | 2, v, _ => v = .pointer (some ⟨gb, 10, none⟩)
  | 3, v, _ => v = .pointer (some ⟨gd, 0, none⟩)
  | 4, v, _ => v = .pointer (some ⟨gb, 0, none⟩)
  | 5, v, _ => v = .pointer (some ⟨gb, 0, none⟩)
  | 6, v, _ => v = .pointer (some ⟨gb, 0, none⟩)
  | 7, v, _ => v = .pointer (some ⟨gb, 9, none⟩)
  | 8, v, _ => v = .int .i64 used
  | 9, v, _ => v = .agg #[.int .i64 a, .int .i64 no, .string s]
  | _, _, _ => True
def w4Rel (gb : Nat) (a no : Int) (s : ByteArray) : Nat → Value → World → Prop
  | 0, v, _ => v = .pointer (some ⟨gb, 0, none⟩)
  | 1, v, _ => v = .pointer (some ⟨gb, 0, none⟩)
  | 2, v, _ => v = .pointer (some ⟨gb, 0, none⟩)
  | 3, v, _ => v = .agg #[.int .i64 a, .int .i64 no, .string s]
  | _, _, _ => True
set_option maxHeartbeats 8000000 in
set_option maxRecDepth 100000 in
theorem bwriteA_calls (base : Nat) (w : World) (gb gd n nE k used : Nat) (e0 : Value) (f : Int) (xs : List Value) (s : ByteArray) (h : BK base w gb gd n e0 (used : Int) f nE xs k) (hbase : base ≤ w.heap.size) (hf : f ≤ 1000000) (hn4 : n ≤ 4096) (hk : k ≤ 100) (hnE : nE ≤ 60) (hs : s.size ≤ 2400) (hat : used + 1 + (s.size + 6) / 64 ≤ n) :
    Calls Try.prog 113 #[.pointer (some ⟨gb, 0, none⟩), .agg #[.int .i64 0, .int .i64 (nE : Int), .string s]] w fun e w' => e = .returned (.tuple #[]) ∧ ∃ e1, BK base w' gb gd n e1 ((used : Int) + ((1 + (s.size + 6) / 64 : Nat) : Int)) f (nE + 1) (xs ++ [.int .i64 0, .int .i64 (nE : Int), .string s]) 0 ∧ Below base w w' ∧ Kv w w' := by
  have hB1 : Below w.heap.size w (w.alloc (.cells #[.int .i64 0, .int .i64 (nE : Int), .string s] 23)) := below_alloc (Below.refl _ _) _
  have HBK := Aside0.mk (h.below hB1)
  have HBe : Aside0 (Below base w (w.alloc (.cells #[.int .i64 0, .int .i64 (nE : Int), .string s] 23))) := Aside0.mk (hB1.mono hbase)
  have HX := Aside0.mk (blk_new w (.cells #[.int .i64 0, .int .i64 (nE : Int), .string s] 23))
  have HBs := Aside0.mk (Nat.le_trans hbase hB1.size)
  have bg : decide ((n : Int) - (used : Int) < ((1 + (s.size + 6) / 64 : Nat) : Int)) = false := by simp; omega
  have HKv := Aside0.mk (Kv.of_below hB1)
  have hur : (used : Int) ≤ (n : Int) := by omega
  clear h hB1 hbase
  generalize hgx : w.heap.size = gx at HX
  generalize hcc : ((1 + (s.size + 6) / 64 : Nat) : Int) = cc at bg
  go_enter Try.func113, Try.ntmps113
  go_wp2_with (first
    | (go_at_call 142; (with_reducible refine (sectors_calls23 _ _ _ _ hs).mono ?_); rintro e w1 ⟨rfl, hb⟩; rw [hcc]; have n1_ := Aside0.mk (HBK.out.below hb); have n2_ := Aside0.mk (HBe.out.trans (hb.mono HBs.out)); have n3_ := Aside0.mk ((hb.block _ (blk_lt HX.out)).trans HX.out); have n4_ := Aside0.mk (Nat.le_trans HBs.out hb.size); have n5_ := Aside0.mk (HKv.out.trans (Kv.of_below hb)); clear HBK HBe HX HBs HKv hb; have HBK := n1_; have HBe := n2_; have HX := n3_; have HBs := n4_; have HKv := n5_; clear n1_ n2_ n3_ n4_ n5_)
    | (go_at_call 60; have k1_ := HBK.out.2.1; have k2_ := HBK.out.2.2.1; (with_reducible refine (room_calls _ _ _ _ _ _ _ _ _ _ k1_ k2_ (Int.natCast_nonneg _) hur hn4).mono ?_); clear k1_ k2_; rintro e w1 ⟨rfl, hb⟩; have n1_ := Aside0.mk (HBK.out.below hb); have n2_ := Aside0.mk (HBe.out.trans (hb.mono HBs.out)); have n3_ := Aside0.mk ((hb.block _ (blk_lt HX.out)).trans HX.out); have n4_ := Aside0.mk (Nat.le_trans HBs.out hb.size); have n5_ := Aside0.mk (HKv.out.trans (Kv.of_below hb)); clear HBK HBe HX HBs HKv hb; have HBK := n1_; have HBe := n2_; have HX := n3_; have HBs := n4_; have HKv := n5_; clear n1_ n2_ n3_ n4_ n5_))
  refine rg5_ 10 [0, 1, 2, 3, 4, 5, 6, 7, 8, 9, 10] [(0, 10), (1, 11), (2, 12), (3, 13), (4, 14), (5, 15), (6, 16), (7, 17), (8, 18), (9, 19), (10, 20)] (bitsOf (rtab .any (opsOf Try.f113 3)).2) (w3Rel gb gd (used : Int) 0 (nE : Int) s) (fun _ W => BK base W gb gd n e0 (used : Int) f nE xs 0 ∧ Below base w W ∧ W.heap[gx]? = some (.cells #[.int .i64 0, .int .i64 (nE : Int), .string s] 23 (0, 0)) ∧ base ≤ W.heap.size ∧ Kv w W) (by kernel_rfl) rfl (by kernel_rfl) rfl (by kernel_rfl) (fun j v w w' h _ => by revert h; unfold w3Rel; split <;> exact id) ?stA ?h1A ?reA
  case stA =>
    refine steps5_cons (fun a1 w2 hB hsz hdf hn hd => ⟨_, rfl, fun K hK => ?_⟩) ?_
    · have e0 := eval_of ((hn 0 rfl).trans rfl)
      refine value_ (v := .pointer (some ⟨gb, 0, none⟩)) (w1 := w2) rfl rfl ?_ (hK _ _ (Below.refl _ _) rfl)
      clear hd hn hK
      simp only [execOp, Option.map_some, Option.map_none, List.map_toArray, List.map_cons, List.map_nil, List.getElem_toArray, List.getElem_cons_zero, List.getElem_cons_succ, e0]
      clear e0
      go_simp
    refine steps5_cons (fun a1 w2 hB hsz hdf hn hd => ⟨_, rfl, fun K hK => ?_⟩) ?_
    · obtain ⟨v10, h10, rfl⟩ := hd 0 10 rfl (by kernel_rfl)
      have e10 := eval_of h10
      clear h10
      refine value_ (v := .pointer (some ⟨gb, 0, none⟩)) (w1 := w2) rfl rfl ?_ (hK _ _ (Below.refl _ _) rfl)
      clear hd hn hK
      simp only [execOp, Option.map_some, Option.map_none, List.map_toArray, List.map_cons, List.map_nil, List.getElem_toArray, List.getElem_cons_zero, List.getElem_cons_succ, e10]
      clear e10
      go_simp
    refine steps5_cons (fun a1 w2 hB hsz hdf hn hd => ⟨_, rfl, fun K hK => ?_⟩) ?_
    · obtain ⟨v11, h11, rfl⟩ := hd 1 11 rfl (by kernel_rfl)
      have e11 := eval_of h11
      clear h11
      refine value_ (v := .pointer (some ⟨gb, 10, none⟩)) (w1 := w2) rfl rfl ?_ (hK _ _ (Below.refl _ _) rfl)
      clear hd hn hK
      simp only [execOp, Option.map_some, Option.map_none, List.map_toArray, List.map_cons, List.map_nil, List.getElem_toArray, List.getElem_cons_zero, List.getElem_cons_succ, e11]
      clear e11
      go_simp
    refine steps5_cons (fun a1 w2 hB hsz hdf hn hd => ⟨_, rfl, fun K hK => ?_⟩) ?_
    · obtain ⟨v12, h12, rfl⟩ := hd 2 12 rfl (by kernel_rfl)
      have e12 := eval_of h12
      clear h12
      refine value_ (v := .pointer (some ⟨gd, 0, none⟩)) (w1 := w2) rfl rfl ?_ (hK _ _ (Below.refl _ _) rfl)
      clear hd hn hK
      simp only [execOp, Option.map_some, Option.map_none, List.map_toArray, List.map_cons, List.map_nil, List.getElem_toArray, List.getElem_cons_zero, List.getElem_cons_succ, e12]
      clear e12
      have hq : w2.cell? ⟨gb, 10, none⟩ = some (.pointer (some ⟨gd, 0, none⟩)) := (blk_cell (HBK.out.2.1.below hB) 10).trans rfl
      clear hB
      go_simp
    refine steps5_cons (fun a1 w2 hB hsz hdf hn hd => ⟨_, rfl, fun K hK => ?_⟩) ?_
    · have e0 := eval_of ((hn 0 rfl).trans rfl)
      refine value_ (v := .pointer (some ⟨gb, 0, none⟩)) (w1 := w2) rfl rfl ?_ (hK _ _ (Below.refl _ _) rfl)
      clear hd hn hK
      simp only [execOp, Option.map_some, Option.map_none, List.map_toArray, List.map_cons, List.map_nil, List.getElem_toArray, List.getElem_cons_zero, List.getElem_cons_succ, e0]
      clear e0
      go_simp
    refine steps5_cons (fun a1 w2 hB hsz hdf hn hd => ⟨_, rfl, fun K hK => ?_⟩) ?_
    · obtain ⟨v14, h14, rfl⟩ := hd 4 14 rfl (by kernel_rfl)
      have e14 := eval_of h14
      clear h14
      refine value_ (v := .pointer (some ⟨gb, 0, none⟩)) (w1 := w2) rfl rfl ?_ (hK _ _ (Below.refl _ _) rfl)
      clear hd hn hK
      simp only [execOp, Option.map_some, Option.map_none, List.map_toArray, List.map_cons, List.map_nil, List.getElem_toArray, List.getElem_cons_zero, List.getElem_cons_succ, e14]
      clear e14
      go_simp
    refine steps5_cons (fun a1 w2 hB hsz hdf hn hd => ⟨_, rfl, fun K hK => ?_⟩) ?_
    · obtain ⟨v15, h15, rfl⟩ := hd 5 15 rfl (by kernel_rfl)
      have e15 := eval_of h15
      clear h15
      refine value_ (v := .pointer (some ⟨gb, 0, none⟩)) (w1 := w2) rfl rfl ?_ (hK _ _ (Below.refl _ _) rfl)
      clear hd hn hK
      simp only [execOp, Option.map_some, Option.map_none, List.map_toArray, List.map_cons, List.map_nil, List.getElem_toArray, List.getElem_cons_zero, List.getElem_cons_succ, e15]
      clear e15
      go_simp
    refine steps5_cons (fun a1 w2 hB hsz hdf hn hd => ⟨_, rfl, fun K hK => ?_⟩) ?_
    · obtain ⟨v16, h16, rfl⟩ := hd 6 16 rfl (by kernel_rfl)
      have e16 := eval_of h16
      clear h16
      refine value_ (v := .pointer (some ⟨gb, 9, none⟩)) (w1 := w2) rfl rfl ?_ (hK _ _ (Below.refl _ _) rfl)
      clear hd hn hK
      simp only [execOp, Option.map_some, Option.map_none, List.map_toArray, List.map_cons, List.map_nil, List.getElem_toArray, List.getElem_cons_zero, List.getElem_cons_succ, e16]
      clear e16
      go_simp
    refine steps5_cons (fun a1 w2 hB hsz hdf hn hd => ⟨_, rfl, fun K hK => ?_⟩) ?_
    · obtain ⟨v17, h17, rfl⟩ := hd 7 17 rfl (by kernel_rfl)
      have e17 := eval_of h17
      clear h17
      refine value_ (v := .int .i64 (used : Int)) (w1 := w2) rfl rfl ?_ (hK _ _ (Below.refl _ _) rfl)
      clear hd hn hK
      simp only [execOp, Option.map_some, Option.map_none, List.map_toArray, List.map_cons, List.map_nil, List.getElem_toArray, List.getElem_cons_zero, List.getElem_cons_succ, e17]
      clear e17
      have hq : w2.cell? ⟨gb, 9, none⟩ = some (.int .i64 (used : Int)) := (blk_cell (HBK.out.2.1.below hB) 9).trans rfl
      clear hB
      go_simp
    refine steps5_cons (fun a1 w2 hB hsz hdf hn hd => ⟨_, rfl, fun K hK => ?_⟩) ?_
    · have e3 := eval_of ((hn 3 rfl).trans rfl)
      refine value_ (v := .agg #[.int .i64 0, .int .i64 (nE : Int), .string s]) (w1 := w2) rfl rfl ?_ (hK _ _ (Below.refl _ _) rfl)
      clear hd hn hK
      simp only [execOp, Option.map_some, Option.map_none, List.map_toArray, List.map_cons, List.map_nil, List.getElem_toArray, List.getElem_cons_zero, List.getElem_cons_succ, e3]
      clear e3
      have hbx := (hB.block _ (blk_lt HX.out)).trans HX.out
      have hx0 : w2.cell? ⟨gx, 0, none⟩ = some (.int .i64 0) := (blk_cell hbx 0).trans rfl
      have hx1 : w2.cell? ⟨gx, 1, none⟩ = some (.int .i64 (nE : Int)) := (blk_cell hbx 1).trans rfl
      have hx2 : w2.cell? ⟨gx, 2, none⟩ = some (.string s) := (blk_cell hbx 2).trans rfl
      clear hB hbx
      go_simp
    refine steps5_m ?_
    exact steps5_nil
  case h1A =>
    intro a1 w2 hB hn hd
    obtain ⟨v13, h13, q13⟩ := hd 3 13 rfl (by kernel_rfl)
    have e13 : v13 = .pointer (some ⟨gd, 0, none⟩) := q13
    subst e13
    have e13 := eval_of h13
    obtain ⟨v18, h18, q18⟩ := hd 8 18 rfl (by kernel_rfl)
    have e18 : v18 = .int .i64 (used : Int) := q18
    subst e18
    have e18 := eval_of h18
    obtain ⟨v19, h19, q19⟩ := hd 9 19 rfl (by kernel_rfl)
    have e19 : v19 = .agg #[.int .i64 0, .int .i64 (nE : Int), .string s] := q19
    subst e19
    have e19 := eval_of h19
    refine ⟨_, rfl, fun K hK => ?_⟩
    refine goes_ Try.func143 (by kernel_rfl) rfl #[.pointer (some ⟨gd, 0, none⟩), .int .i64 (used : Int), .agg #[.int .i64 0, .int .i64 (nE : Int), .string s]] (by rfl) rfl rfl (by simp only [List.map_toArray, List.map_cons, List.map_nil, e13, e18, e19]) ?_
    refine ((HBK.out.below hB).record (Nat.le_trans HBs.out hB.size) s hf hn4 hk hs hat).mono ?_
    rintro e w5 ⟨rfl, hbk, hbe, hkeep, hkv⟩
    exact ⟨_, rfl, hK _ _ ⟨hbk, (HBe.out.trans (hB.mono HBs.out)).trans hbe, hkeep _ _ ((hB.block _ (blk_lt HX.out)).trans HX.out), Nat.le_trans (Nat.le_trans HBs.out hB.size) hbe.size, (HKv.out.trans (Kv.of_below hB)).trans hkv⟩⟩
  case reA =>
    intro vals2 w4 hp2
    simp only [fill, Act.put, List.setIfInBounds_toArray, List.set_cons_zero, List.set_cons_succ]
    clear HBK HBe HX HBs HKv
    obtain ⟨hbk4, hbe4, hx4, hbs4, hkv4⟩ := hp2
    have HKv := Aside0.mk hkv4
    have HBK := Aside0.mk hbk4
    have HBe := Aside0.mk hbe4
    have HX := Aside0.mk hx4
    have HBs := Aside0.mk hbs4
    clear hbk4 hbe4 hx4 hbs4 hkv4
    go_wp2
    refine rg5_ 4 [0, 1, 2, 3, 4] [(0, 21), (1, 22), (2, 23), (3, 24), (4, 25)] (bitsOf (rtab .any (opsOf Try.f113 4)).2) (w4Rel gb 0 (nE : Int) s) (fun _ W => ∃ e1, BK base W gb gd n e1 ((used : Int) + ((1 + (s.size + 6) / 64 : Nat) : Int)) f (nE + 1) (xs ++ [.int .i64 0, .int .i64 (nE : Int), .string s]) 0 ∧ Below base w W ∧ Kv w W) (by kernel_rfl) rfl (by kernel_rfl) rfl (by kernel_rfl) (fun j v w w' h _ => by revert h; unfold w4Rel; split <;> exact id) ?stB ?h1B ?reB
    case stB =>
      refine steps5_cons (fun a1 w2 hB hsz hdf hn hd => ⟨_, rfl, fun K hK => ?_⟩) ?_
      · have e0 := eval_of ((hn 0 rfl).trans rfl)
        refine value_ (v := .pointer (some ⟨gb, 0, none⟩)) (w1 := w2) rfl rfl ?_ (hK _ _ (Below.refl _ _) rfl)
        clear hd hn hK
        simp only [execOp, Option.map_some, Option.map_none, List.map_toArray, List.map_cons, List.map_nil, List.getElem_toArray, List.getElem_cons_zero, List.getElem_cons_succ, e0]
        clear e0
        go_simp
      refine steps5_cons (fun a1 w2 hB hsz hdf hn hd => ⟨_, rfl, fun K hK => ?_⟩) ?_
      · obtain ⟨v21, h21, rfl⟩ := hd 0 21 rfl (by kernel_rfl)
        have e21 := eval_of h21
        clear h21
        refine value_ (v := .pointer (some ⟨gb, 0, none⟩)) (w1 := w2) rfl rfl ?_ (hK _ _ (Below.refl _ _) rfl)
        clear hd hn hK
        simp only [execOp, Option.map_some, Option.map_none, List.map_toArray, List.map_cons, List.map_nil, List.getElem_toArray, List.getElem_cons_zero, List.getElem_cons_succ, e21]
        clear e21
        go_simp
      refine steps5_cons (fun a1 w2 hB hsz hdf hn hd => ⟨_, rfl, fun K hK => ?_⟩) ?_
      · obtain ⟨v22, h22, rfl⟩ := hd 1 22 rfl (by kernel_rfl)
        have e22 := eval_of h22
        clear h22
        refine value_ (v := .pointer (some ⟨gb, 0, none⟩)) (w1 := w2) rfl rfl ?_ (hK _ _ (Below.refl _ _) rfl)
        clear hd hn hK
        simp only [execOp, Option.map_some, Option.map_none, List.map_toArray, List.map_cons, List.map_nil, List.getElem_toArray, List.getElem_cons_zero, List.getElem_cons_succ, e22]
        clear e22
        go_simp
      refine steps5_cons (fun a1 w2 hB hsz hdf hn hd => ⟨_, rfl, fun K hK => ?_⟩) ?_
      · have e3 := eval_of ((hn 3 rfl).trans rfl)
        refine value_ (v := .agg #[.int .i64 0, .int .i64 (nE : Int), .string s]) (w1 := w2) rfl rfl ?_ (hK _ _ (Below.refl _ _) rfl)
        clear hd hn hK
        simp only [execOp, Option.map_some, Option.map_none, List.map_toArray, List.map_cons, List.map_nil, List.getElem_toArray, List.getElem_cons_zero, List.getElem_cons_succ, e3]
        clear e3
        have hbx := (hB.block _ (blk_lt HX.out)).trans HX.out
        have hx0 : w2.cell? ⟨gx, 0, none⟩ = some (.int .i64 0) := (blk_cell hbx 0).trans rfl
        have hx1 : w2.cell? ⟨gx, 1, none⟩ = some (.int .i64 (nE : Int)) := (blk_cell hbx 1).trans rfl
        have hx2 : w2.cell? ⟨gx, 2, none⟩ = some (.string s) := (blk_cell hbx 2).trans rfl
        clear hB hbx
        go_simp
      refine steps5_m ?_
      exact steps5_nil
    case h1B =>
      intro a1 w2 hB hn hd
      obtain ⟨v23, h23, q23⟩ := hd 2 23 rfl (by kernel_rfl)
      have e23 : v23 = .pointer (some ⟨gb, 0, none⟩) := q23
      subst e23
      have e23 := eval_of h23
      obtain ⟨v24, h24, q24⟩ := hd 3 24 rfl (by kernel_rfl)
      have e24 : v24 = .agg #[.int .i64 0, .int .i64 (nE : Int), .string s] := q24
      subst e24
      have e24 := eval_of h24
      refine ⟨_, rfl, fun K hK => ?_⟩
      refine goes_ Try.func144 (by kernel_rfl) rfl #[.pointer (some ⟨gb, 0, none⟩), .agg #[.int .i64 0, .int .i64 (nE : Int), .string s]] (by rfl) rfl rfl (by simp only [List.map_toArray, List.map_cons, List.map_nil, e23, e24]) ?_
      refine ((HBK.out.below hB).putA (Nat.le_trans HBs.out hB.size) s hnE hs (by omega) (by omega)).mono ?_
      rintro e w5 ⟨rfl, e1, hbk, hbe, hkv⟩
      exact ⟨_, rfl, hK _ _ ⟨e1, hbk, (HBe.out.trans (hB.mono HBs.out)).trans hbe, (HKv.out.trans (Kv.of_below hB)).trans hkv⟩⟩
    case reB =>
      intro vals3 w5 hp3
      simp only [fill, Act.put, List.setIfInBounds_toArray, List.set_cons_zero, List.set_cons_succ]
      have HP3 := Aside0.mk hp3
      clear hp3
      go_wp2
      go_end0
      exact ⟨rfl, hcc ▸ HP3.out⟩
end Go.Proofs.Ytkedodmlbepfnaa.Lg

-- from the working text Pb
set_option linter.unusedSimpArgs false
set_option linter.unusedVariables false
namespace Go.Proofs.Ytkedodmlbepfnaa.Lg
open Go.RowKit Go.Proofs.YtkedodmlbepfnaaW.PrintWords Go.Proofs.YtkedodmlbepfnaaW.PrintLast Go.Proofs.YtkedodmlbepfnaaW.PrintMore Go.Proofs.Ytkedodmlbepfnaa.Rg
/-- One cell of a row of one's own is written. -/
theorem Own.cell {w : World} {S : Nat → Prop} {e : TypeId} {size n g c i : Nat} {xs : List Value} (h : Own w S e size (.slice (some ⟨g, 0, none⟩) n c) n xs) (hi : i < n * size) (u : Value) : Own (w.setCell ⟨g, i, none⟩ u) S e size (.slice (some ⟨g, 0, none⟩) n c) n (xs.set i u) := by
  rcases h.1.2 with ⟨h2, _⟩ | ⟨g', cap, cur, hv, hb, hh, hnc, hcm, hcs, ht⟩
  · cases h2
  · injection hv with ha _ hc
    injection ha with ha
    injection ha with ha
    subst ha
    subst hc
    have hle : n * size ≤ cur.toList.length := by
      have := Nat.mul_le_mul_right size hnc
      rw [Array.length_toList]; omega
    have hk := h.patch (o := i) (b := [u]) hh (by simp; omega)
    rw [setCell_eq_setRow w g i cur e (0, 0) u hh]
    have e1 : (Lg.patch cur.toList i [u]).toArray = cur.setIfInBounds i u := by
      apply Array.toList_inj.1
      rw [Array.toList_setIfInBounds]
      simp only [Lg.patch, List.length_singleton, List.append_assoc, List.singleton_append]
      rw [List.set_eq_take_append_cons_drop, if_pos (by omega)]
    have e2 : Lg.patch xs i [u] = xs.set i u := by
      simp only [Lg.patch, List.length_singleton, List.append_assoc, List.singleton_append]
      rw [List.set_eq_take_append_cons_drop, if_pos (by rw [← ht, List.length_take]; omega)]
    rw [e1, e2] at hk
    exact hk
set_option maxHeartbeats 8000000 in
set_option maxRecDepth 100000 in
theorem putB_calls (w : World) (Se : Nat → Prop) (gb gd nE : Nat) (e0 : Value) (used falls : Int) (y0 y1 y2 : Value) (ys : List Value) (s : ByteArray) (hb : BookAt w gb gd e0 used falls) (ho : Own w Se 23 3 e0 nE (y0 :: y1 :: y2 :: ys)) (hn1 : 1 ≤ nE) (hn : nE ≤ 60) (hs : s.size ≤ 2400) (hu : 0 ≤ used) (hu2 : used ≤ 4096) (hSe : ∀ k, Se k → k < w.heap.size) :
    Calls Try.prog 144 #[.pointer (some ⟨gb, 0, none⟩), .agg #[.int .i64 0, .int .i64 0, .string s]] w fun e w' => e = .returned (.tuple #[]) ∧ ∃ e1, BookAt w' gb gd e1 (used + ((1 + (s.size + 6) / 64 : Nat) : Int)) falls ∧ Own w' (Nw Se w) 23 3 e1 nE (.int .i64 0 :: .int .i64 0 :: .string s :: ys) ∧ Kp (fun k => Se k ∨ k = gb) w w' := by
  obtain ⟨gE, c, cur, rfl, hSE, hcur, hnc, _, hcs, htk⟩ := ho.form hn1
  have hlt := blk_lt hb
  have hX := blk_new w (.cells #[.int .i64 0, .int .i64 0, .string s] 23)
  have hB1 : Below w.heap.size w (w.alloc (.cells #[.int .i64 0, .int .i64 0, .string s] 23)) := below_alloc (Below.refl _ _) _
  have c1 : (w.alloc (.cells #[.int .i64 0, .int .i64 0, .string s] 23)).cell? ⟨gb, 1, none⟩ = some (.slice (some ⟨gE, 0, none⟩) nE c) := (blk_cell (hb.below hB1) 1).trans rfl
  have hcell : ∀ (i : Nat) (u : Value), (y0 :: y1 :: y2 :: ys)[i]? = some u → cur[i]? = some u := by
    intro i u hi
    rw [← htk, List.getElem?_take] at hi
    split at hi
    · rw [← Array.getElem?_toList]; exact hi
    · cases hi
  have hcur1 := (hB1.block gE (blk_lt hcur)).trans hcur
  have d0 : (w.alloc (.cells #[.int .i64 0, .int .i64 0, .string s] 23)).cell? ⟨gE, 0, none⟩ = some y0 := (blk_cell hcur1 0).trans (hcell 0 y0 rfl)
  have d1 : (w.alloc (.cells #[.int .i64 0, .int .i64 0, .string s] 23)).cell? ⟨gE, 1, none⟩ = some y1 := (blk_cell hcur1 1).trans (hcell 1 y1 rfl)
  have d2 : (w.alloc (.cells #[.int .i64 0, .int .i64 0, .string s] 23)).cell? ⟨gE, 2, none⟩ = some y2 := (blk_cell hcur1 2).trans (hcell 2 y2 rfl)
  have f0 := blk_frozen hcur1 0
  have f1 := blk_frozen hcur1 1
  have f2 := blk_frozen hcur1 2
  have bE : ((0 : Int) == (nE : Int)) = false := by rw [beq_eq_false_iff_ne]; omega
  have bL : decide ((0 : Int) < (nE : Int)) = true := by simp; omega
  have hgx : gE ≠ w.heap.size := fun h => by have := blk_lt hcur; omega
  have HBk := Aside0.mk (hb.below hB1)
  have HO := Aside0.mk (own_later ho hB1)
  have HX := Aside0.mk hX
  have HKp := Aside0.mk (Kp.of_below Se hB1)
  have HS := Aside0.mk hSE
  have HN : Aside0 (1 ≤ nE) := Aside0.mk hn1
  have HCT := Aside0.mk hcur1
  clear hb ho hX hB1 hSe hcur hcell htk hcs hcur1
  go_enter Try.func144, Try.ntmps144
  go_wp2
  go_region
  all_goals go_wp2
  all_goals (try go_region)
  all_goals go_wp2
  all_goals (try go_region)
  have HP : Aside0 (PutEnd w Se gb gd w.heap.size used falls nE (.int .i64 0 :: .int .i64 0 :: .string s :: ys) 0 0 s ((((w.alloc (.cells #[.int .i64 0, .int .i64 0, .string s] 23)).setCell ⟨gE, 0, none⟩ (.int .i64 0)).setCell ⟨gE, 1, none⟩ (.int .i64 0)).setCell ⟨gE, 2, none⟩ (.string s)).drew.drew.drew) := by
    have hX0 := HX.out
    have hB0 := HBk.out
    have hne : gE ≠ gb := fun h => by
      have h1 := HCT.out
      have h2 : (w.alloc (.cells #[.int .i64 0, .int .i64 0, .string s] 23)).heap[gb]? = some (.cells (bookCells _ used gd falls) 95 (0, 0)) := hB0
      rw [h, h2] at h1
      injection h1 with h1
      injection h1 with _ h1 _
      cases h1
    have hbl : ∀ k, k ≠ gE → ((((w.alloc (.cells #[.int .i64 0, .int .i64 0, .string s] 23)).setCell ⟨gE, 0, none⟩ (.int .i64 0)).setCell ⟨gE, 1, none⟩ (.int .i64 0)).setCell ⟨gE, 2, none⟩ (.string s)).heap[k]? = (w.alloc (.cells #[.int .i64 0, .int .i64 0, .string s] 23)).heap[k]? := fun k hk =>
      (Below.heap_setCell _ ⟨gE, 2, none⟩ _ k (fun e => hk e)).trans ((Below.heap_setCell _ ⟨gE, 1, none⟩ _ k (fun e => hk e)).trans (Below.heap_setCell _ ⟨gE, 0, none⟩ _ k (fun e => hk e)))
    have hN := HN.out
    have hdr : Below ((((w.alloc (.cells #[.int .i64 0, .int .i64 0, .string s] 23)).setCell ⟨gE, 0, none⟩ (.int .i64 0)).setCell ⟨gE, 1, none⟩ (.int .i64 0)).setCell ⟨gE, 2, none⟩ (.string s)).heap.size _ ((((w.alloc (.cells #[.int .i64 0, .int .i64 0, .string s] 23)).setCell ⟨gE, 0, none⟩ (.int .i64 0)).setCell ⟨gE, 1, none⟩ (.int .i64 0)).setCell ⟨gE, 2, none⟩ (.string s)).drew.drew.drew := below_drew (below_drew (below_drew (Below.refl _ _)))
    refine Aside0.mk ⟨_, BookAt.below ((hbl gb (Ne.symm hne)).trans hB0) hdr, own_later ((((HO.out.cell (i := 0) (by omega) (.int .i64 0)).cell (i := 1) (by omega) (.int .i64 0)).cell (i := 2) (by omega) (.string s)).mono fun k hk => .inl hk) hdr, ?_, (hdr.block _ (blk_lt ((hbl _ (Ne.symm hgx)).trans hX0))).trans ((hbl _ (Ne.symm hgx)).trans hX0)⟩
    exact ((((HKp.out.setCell (p := ⟨gE, 0, none⟩) (.inl HS.out) _).setCell (p := ⟨gE, 1, none⟩) (.inl HS.out) _).setCell (p := ⟨gE, 2, none⟩) (.inl HS.out) _).mono fun k hk => .inl hk).below hdr
  revert HP
  generalize ((((w.alloc (.cells #[.int .i64 0, .int .i64 0, .string s] 23)).setCell ⟨gE, 0, none⟩ (.int .i64 0)).setCell ⟨gE, 1, none⟩ (.int .i64 0)).setCell ⟨gE, 2, none⟩ (.string s)).drew.drew.drew = W1
  intro HP
  clear HX HBk HKp HO HCT HS c1 d0 d1 d2 f0 f1 f2 bE bL
  go_wp2
  obtain ⟨e1, hB1, hO1, hK1, hX1⟩ := HP.out
  refine rg5_ 9 [0, 1, 2, 3, 4, 5, 6, 7, 8, 9] [(0, 33), (1, 34), (2, 35), (3, 36), (4, 37), (5, 38), (6, 39), (7, 40), (8, 41)] (bitsOf (rtab .any (opsOf Try.f144 5)).2) (put5Rel gb (1 + (s.size + 6) / 64) used 0 0 s) (fun _ W => ∃ e1, BookAt W gb gd e1 (used + ((1 + (s.size + 6) / 64 : Nat) : Int)) falls ∧ Own W (Nw Se w) 23 3 e1 nE (.int .i64 0 :: .int .i64 0 :: .string s :: ys) ∧ Kp (fun k => Se k ∨ k = gb) w W) (by kernel_rfl) rfl (by kernel_rfl) rfl (by kernel_rfl) (fun j v w w' h _ => by revert h; unfold put5Rel; split <;> exact id) ?steps5 ?h15 ?rend5
  case steps5 =>
    refine steps5_cons (fun a1 w2 hB hsz hdf hn hd => ⟨_, rfl, fun K hK => ?_⟩) ?_
    · have e0 := eval_of ((hn 0 rfl).trans rfl)
      refine value_ (v := .pointer (some ⟨gb, 0, none⟩)) (w1 := w2) rfl rfl ?_ (hK _ _ (Below.refl _ _) rfl)
      clear hd hn hK
      simp only [execOp, Option.map_some, Option.map_none, List.map_toArray, List.map_cons, List.map_nil, List.getElem_toArray, List.getElem_cons_zero, List.getElem_cons_succ, e0]
      clear e0
      go_simp
    refine steps5_cons (fun a1 w2 hB hsz hdf hn hd => ⟨_, rfl, fun K hK => ?_⟩) ?_
    · obtain ⟨v33, h33, rfl⟩ := hd 0 33 rfl (by kernel_rfl)
      have e33 := eval_of h33
      clear h33
      refine value_ (v := .pointer (some ⟨gb, 0, none⟩)) (w1 := w2) rfl rfl ?_ (hK _ _ (Below.refl _ _) rfl)
      clear hd hn hK
      simp only [execOp, Option.map_some, Option.map_none, List.map_toArray, List.map_cons, List.map_nil, List.getElem_toArray, List.getElem_cons_zero, List.getElem_cons_succ, e33]
      clear e33
      go_simp
    refine steps5_cons (fun a1 w2 hB hsz hdf hn hd => ⟨_, rfl, fun K hK => ?_⟩) ?_
    · obtain ⟨v34, h34, rfl⟩ := hd 1 34 rfl (by kernel_rfl)
      have e34 := eval_of h34
      clear h34
      refine value_ (v := .pointer (some ⟨gb, 9, none⟩)) (w1 := w2) rfl rfl ?_ (hK _ _ (Below.refl _ _) rfl)
      clear hd hn hK
      simp only [execOp, Option.map_some, Option.map_none, List.map_toArray, List.map_cons, List.map_nil, List.getElem_toArray, List.getElem_cons_zero, List.getElem_cons_succ, e34]
      clear e34
      go_simp
    refine steps5_cons (fun a1 w2 hB hsz hdf hn hd => ⟨_, rfl, fun K hK => ?_⟩) ?_
    · obtain ⟨v35, h35, rfl⟩ := hd 2 35 rfl (by kernel_rfl)
      have e35 := eval_of h35
      clear h35
      refine value_ (v := .int .i64 used) (w1 := w2) rfl rfl ?_ (hK _ _ (Below.refl _ _) rfl)
      clear hd hn hK
      simp only [execOp, Option.map_some, Option.map_none, List.map_toArray, List.map_cons, List.map_nil, List.getElem_toArray, List.getElem_cons_zero, List.getElem_cons_succ, e35]
      clear e35
      have hq : w2.cell? ⟨gb, 9, none⟩ = some (.int .i64 used) := (blk_cell (hB1.below hB) 9).trans rfl
      clear hB
      go_simp
    refine steps5_cons (fun a1 w2 hB hsz hdf hn hd => ⟨_, rfl, fun K hK => ?_⟩) ?_
    · have e3 := eval_of ((hn 3 rfl).trans rfl)
      refine value_ (v := .agg #[.int .i64 0, .int .i64 0, .string s]) (w1 := w2) rfl rfl ?_ (hK _ _ (Below.refl _ _) rfl)
      clear hd hn hK
      simp only [execOp, Option.map_some, Option.map_none, List.map_toArray, List.map_cons, List.map_nil, List.getElem_toArray, List.getElem_cons_zero, List.getElem_cons_succ, e3]
      clear e3
      have hbx := (hB.block _ (blk_lt hX1)).trans hX1
      have hx0 : w2.cell? ⟨w.heap.size, 0, none⟩ = some (.int .i64 0) := (blk_cell hbx 0).trans rfl
      have hx1 : w2.cell? ⟨w.heap.size, 1, none⟩ = some (.int .i64 0) := (blk_cell hbx 1).trans rfl
      have hx2 : w2.cell? ⟨w.heap.size, 2, none⟩ = some (.string s) := (blk_cell hbx 2).trans rfl
      clear hB hbx
      go_simp
    refine steps5_cons (fun a1 w2 hB hsz hdf hn hd => ⟨_, rfl, fun K hK => ?_⟩) ?_
    · obtain ⟨v37, h37, rfl⟩ := hd 4 37 rfl (by kernel_rfl)
      have e37 := eval_of h37
      clear h37
      refine goes_ Try.func142 (by kernel_rfl) rfl #[.agg #[.int .i64 0, .int .i64 0, .string s]] (by rfl) rfl rfl (by simp only [List.map_toArray, List.map_cons, List.map_nil, e37]) ?_
      refine (sectors_calls23 0 0 s _ hs).mono ?_
      rintro e w3 ⟨rfl, hbw⟩
      exact ⟨_, rfl, hK _ _ hbw rfl⟩
    refine steps5_cons (fun a1 w2 hB hsz hdf hn hd => ⟨_, rfl, fun K hK => ?_⟩) ?_
    · obtain ⟨v36, h36, rfl⟩ := hd 3 36 rfl (by kernel_rfl)
      have e36 := eval_of h36
      clear h36
      obtain ⟨v38, h38, rfl⟩ := hd 5 38 rfl (by kernel_rfl)
      have e38 := eval_of h38
      clear h38
      refine value_ (v := .int .i64 (used + ((1 + (s.size + 6) / 64 : Nat) : Int))) (w1 := w2) rfl rfl ?_ (hK _ _ (Below.refl _ _) rfl)
      clear hd hn hK
      simp only [execOp, Option.map_some, Option.map_none, List.map_toArray, List.map_cons, List.map_nil, List.getElem_toArray, List.getElem_cons_zero, List.getElem_cons_succ, e36, e38]
      clear e36 e38
      have hq : IntKind.i64.wrap (used + ((1 + (s.size + 6) / 64 : Nat) : Int)) = used + ((1 + (s.size + 6) / 64 : Nat) : Int) := by rw [i64_w]; unfold wrap64; omega
      generalize ((1 + (s.size + 6) / 64 : Nat) : Int) = cc at hq ⊢
      clear hB
      go_simp
    refine steps5_cons (fun a1 w2 hB hsz hdf hn hd => ⟨_, rfl, fun K hK => ?_⟩) ?_
    · obtain ⟨v33, h33, rfl⟩ := hd 0 33 rfl (by kernel_rfl)
      have e33 := eval_of h33
      clear h33
      refine value_ (v := .pointer (some ⟨gb, 0, none⟩)) (w1 := w2) rfl rfl ?_ (hK _ _ (Below.refl _ _) rfl)
      clear hd hn hK
      simp only [execOp, Option.map_some, Option.map_none, List.map_toArray, List.map_cons, List.map_nil, List.getElem_toArray, List.getElem_cons_zero, List.getElem_cons_succ, e33]
      clear e33
      go_simp
    refine steps5_cons (fun a1 w2 hB hsz hdf hn hd => ⟨_, rfl, fun K hK => ?_⟩) ?_
    · obtain ⟨v40, h40, rfl⟩ := hd 7 40 rfl (by kernel_rfl)
      have e40 := eval_of h40
      clear h40
      refine value_ (v := .pointer (some ⟨gb, 9, none⟩)) (w1 := w2) rfl rfl ?_ (hK _ _ (Below.refl _ _) rfl)
      clear hd hn hK
      simp only [execOp, Option.map_some, Option.map_none, List.map_toArray, List.map_cons, List.map_nil, List.getElem_toArray, List.getElem_cons_zero, List.getElem_cons_succ, e40]
      clear e40
      go_simp
    refine steps5_m ?_
    exact steps5_nil
  case h15 =>
    intro a1 w2 hB hn hd
    obtain ⟨v39, h39, q39⟩ := hd 6 39 rfl (by kernel_rfl)
    have e39 : v39 = .int .i64 (used + ((1 + (s.size + 6) / 64 : Nat) : Int)) := q39
    subst e39
    obtain ⟨v41, h41, q41⟩ := hd 8 41 rfl (by kernel_rfl)
    have e41 : v41 = .pointer (some ⟨gb, 9, none⟩) := q41
    subst e41
    refine ⟨_, rfl, fun K hK => ?_⟩
    exact store3_ rfl rfl rfl (eval_of h41) (eval_of h39) ((blk_cell (hB1.below hB) 9).trans rfl) (blk_frozen (hB1.below hB) 9) (hK undef _ (HP.out.store hB _))
  case rend5 =>
    intro vals2 w2 hp2
    simp only [fill, Act.put, List.setIfInBounds_toArray, List.set_cons_zero, List.set_cons_succ]
    have HP2 := Aside0.mk hp2
    clear hp2
    go_wp2
    go_end0
    exact ⟨rfl, HP2.out⟩
end Go.Proofs.Ytkedodmlbepfnaa.Lg

-- from the working text Rk
set_option linter.unusedSimpArgs false
set_option linter.unusedVariables false
namespace Go.Proofs.Ytkedodmlbepfnaa.Lg
open Go.RowKit Go.Proofs.YtkedodmlbepfnaaW.PrintWords Go.Proofs.YtkedodmlbepfnaaW.PrintLast Go.Proofs.YtkedodmlbepfnaaW.PrintMore Go.Proofs.Ytkedodmlbepfnaa.Rg
def sstr (b : List Int) : Value := .string (strOfNums b)
def strs (ss : List (List Int)) : List Value := ss.map sstr
def wstr (x : Int × List Int) : List Value := [.int .i64 x.1, sstr x.2]
def wstrs (ws : List (Int × List Int)) : List Value := (ws.map wstr).flatten
theorem strs_set (ss : List (List Int)) (i : Nat) (b : List Int) : (strs ss).set i (sstr b) = strs (ss.set i b) := by simp [strs, List.map_set]
theorem strs_get {ss : List (List Int)} {i : Nat} {b : List Int} (h : ss[i]? = some b) : (strs ss)[i]? = some (sstr b) := by simp [strs, h]
theorem wstrs_snoc (ws : List (Int × List Int)) (x : Int × List Int) : wstrs (ws ++ [x]) = wstrs ws ++ wstr x := by simp [wstrs]
theorem wstrs_get : ∀ (ws : List (Int × List Int)) (i : Nat) (x : Int × List Int), ws[i]? = some x → (wstrs ws)[i * 2]? = some (.int .i64 x.1) ∧ (wstrs ws)[i * 2 + 1]? = some (sstr x.2)
  | [], i, x, h => by simp at h
  | y :: ws, 0, x, h => by
    simp only [List.getElem?_cons_zero, Option.some.injEq] at h
    subst h
    exact ⟨rfl, rfl⟩
  | y :: ws, i + 1, x, h => by
    rw [List.getElem?_cons_succ] at h
    have ih := wstrs_get ws i x h
    have e : wstrs (y :: ws) = [.int .i64 y.1, sstr y.2] ++ wstrs ws := by simp [wstrs, wstr]
    rw [e, List.getElem?_append_right (by simp; omega), List.getElem?_append_right (by simp; omega)]
    exact ⟨by rw [show (i + 1) * 2 - [Value.int .i64 y.1, sstr y.2].length = i * 2 by simp; omega]; exact ih.1, by rw [show (i + 1) * 2 + 1 - [Value.int .i64 y.1, sstr y.2].length = i * 2 + 1 by simp; omega]; exact ih.2⟩
/-- The reference's disk in memory: its block, and its rows. -/
def RAt (w : World) (S : Nat → Prop) (g : Nat) (d : DS) (vs vn vw : Value) : Prop :=
  d.Ok ∧ S g ∧ (∃ life : Int, w.heap[g]? = some (.cells #[vs, vn, vw, .bool (!d.down), .int .i64 d.armed, .int .i64 life] 118 (0, 0))) ∧
  Own w S 9 1 vs d.safe.length (strs d.safe) ∧ Own w S 9 1 vn d.now.length (strs d.now) ∧ Own w S 126 2 vw d.wr.length (wstrs d.wr) ∧ (vs.ownBlock = none ∨ vs.ownBlock ≠ vn.ownBlock)
section
variable {S S' : Nat → Prop} {w w1 w2 W : World} {B g : Nat}
theorem RAt.kp {d : DS} {vs vn vw : Value} (h : RAt w S g d vs vn vw) (hk : Kp S' w w1) (hd : ∀ k, S k → k < w.heap.size → ¬ S' k) : RAt w1 S g d vs vn vw := by
  obtain ⟨h1, h2, ⟨life, h3⟩, h4, h5, h6, h7⟩ := h
  exact ⟨h1, h2, ⟨life, (hk.block g (blk_lt h3) (hd g h2 (blk_lt h3))).trans h3⟩, h4.kp hk hd, h5.kp hk hd, h6.kp hk hd, h7⟩
theorem RAt.below {d : DS} {vs vn vw : Value} (h : RAt w S g d vs vn vw) (hb : Below w.heap.size w w1) : RAt w1 S g d vs vn vw := h.kp (S' := fun _ => False) (Kp.of_below _ hb) (fun _ _ _ h => h)
theorem RAt.mono {d : DS} {vs vn vw : Value} (h : RAt w S g d vs vn vw) (hs : ∀ k, S k → S' k) : RAt w S' g d vs vn vw := by
  obtain ⟨h1, h2, h3, h4, h5, h6, h7⟩ := h
  exact ⟨h1, hs g h2, h3, h4.mono hs, h5.mono hs, h6.mono hs, h7⟩
/-- A field of the block is changed. -/
theorem RAt.set {d d' : DS} {vs vn vw u : Value} {i : Nat} (h : RAt w S g d vs vn vw) (hok : d'.Ok)
    (hc : ∀ life : Int, ∃ life' : Int, (#[vs, vn, vw, .bool (!d.down), .int .i64 d.armed, .int .i64 life] : Array Value).setIfInBounds i u = #[vs, vn, vw, .bool (!d'.down), .int .i64 d'.armed, .int .i64 life'])
    (h1 : d'.safe = d.safe) (h2 : d'.now = d.now) (h3 : d'.wr = d.wr) : RAt (w.setCell ⟨g, i, none⟩ u) S g d' vs vn vw := by
  obtain ⟨k1, k2, ⟨life, k3⟩, k4, k5, k6, k7⟩ := h
  obtain ⟨life', hl⟩ := hc life
  refine ⟨hok, k2, ⟨life', by rw [blk_set k3, hl]⟩, ?_, ?_, ?_, k7⟩
  · rw [h1]; exact k4.setCell (k4.type_ne k3 (by decide)) u
  · rw [h2]; exact k5.setCell (k5.type_ne k3 (by decide)) u
  · rw [h3]; exact k6.setCell (k6.type_ne k3 (by decide)) u
end
set_option maxHeartbeats 4000000 in
set_option maxRecDepth 100000 in
theorem rcounts_calls (w : World) (S : Nat → Prop) (g : Nat) (d : DS) (vs vn vw : Value) (h0 : RAt w S g d vs vn vw) :
    Calls Try.prog 87 #[.pointer (some ⟨g, 0, none⟩)] w fun e w' => e = .returned (.bool d.fails.1) ∧ RAt w' S g d.fails.2 vs vn vw ∧ Kp S w w' := by
  have H := Aside0.mk h0
  have ha0 := h0.1.armed0
  have ha1 := h0.1.armed1
  have hf0 := h0.1.falls0
  obtain ⟨life, hb⟩ := h0.2.2.1
  have c4 : w.cell? ⟨g, 4, none⟩ = some (.int .i64 d.armed) := (blk_cell hb 4).trans rfl
  have c5 : w.cell? ⟨g, 5, none⟩ = some (.int .i64 life) := (blk_cell hb 5).trans rfl
  have c3 : w.cell? ⟨g, 3, none⟩ = some (.bool (!d.down)) := (blk_cell hb 3).trans rfl
  have f4 := blk_frozen hb 4
  have f5 := blk_frozen hb 5
  have f3 := blk_frozen hb 3
  clear h0 hb
  by_cases h1 : d.armed = 0
  · have hE := Aside0.mk (show d.fails = (false, d) by unfold DS.fails; rw [if_pos h1])
    have b1 : (d.armed == 0) = true := by rw [beq_iff_eq]; exact h1
    clear h1
    go_enter Try.func87, Try.ntmps87
    go_wp2
    go_ret
    exact ⟨by rw [hE.out]; rfl, by rw [hE.out]; exact H.out, Kp.refl S w⟩
  · have b1 : (d.armed == 0) = false := by rw [beq_eq_false_iff_ne]; exact h1
    have hgt : 1 ≤ d.armed := by omega
    have h2' := H.out.set (H.out.1.arm (n := d.armed - 1) (by omega) (by omega)) (i := 4) (u := .int .i64 (d.armed - 1)) (fun life => ⟨life, rfl⟩) rfl rfl rfl
    by_cases h2 : 1 < d.armed
    · have hE := Aside0.mk (show d.fails = (false, { d with armed := d.armed - 1 }) by unfold DS.fails; rw [if_neg h1, if_pos h2])
      have b2 : decide (0 < d.armed - 1) = true := by simp; omega
      have H2 := Aside0.mk h2'
      clear h1 h2'
      go_enter Try.func87, Try.ntmps87
      go_wp2
      go_ret
      exact ⟨by rw [hE.out]; rfl, by rw [hE.out]; exact H2.out, (Kp.refl S w).setCell (.inl H.out.2.1) _⟩
    · have hone : d.armed = 1 := by omega
      have hE := Aside0.mk (show d.fails = (true, { d with armed := 0, down := true, falls := d.falls + 1 }) by unfold DS.fails; rw [if_neg h1, if_neg h2])
      have hok : ({ d with armed := 0, down := true, falls := d.falls + 1 } : DS).Ok := ⟨H.out.1.len, H.out.1.pos, H.out.1.lim, H.out.1.safe, H.out.1.now, H.out.1.wr, Int.le_refl 0, by show (0 : Int) ≤ 9223372036854775807; decide, by show 0 ≤ d.falls + 1; omega⟩
      have H2 := Aside0.mk (show RAt (w.setCell ⟨g, 4, none⟩ (.int .i64 0)) S g { d with armed := 0 } vs vn vw by rw [hone] at h2'; exact h2')
      rw [hone] at c4
      clear h1 h2 h2' b1 hgt ha0 ha1 hone
      go_enter Try.func87, Try.ntmps87
      go_wp2
      go_ret
      refine ⟨by rw [hE.out]; rfl, ?_, (((Kp.refl S w).setCell (.inl H.out.2.1) _).setCell (.inl H.out.2.1) _).setCell (.inl H.out.2.1) _⟩
      rw [hE.out]
      have H3 := H2.out.set (i := 3) (u := .bool false) (d' := { d with armed := 0, down := true }) ⟨H.out.1.len, H.out.1.pos, H.out.1.lim, H.out.1.safe, H.out.1.now, H.out.1.wr, Int.le_refl 0, by show (0 : Int) ≤ 9223372036854775807; decide, H.out.1.falls0⟩ (fun life => ⟨life, rfl⟩) rfl rfl rfl
      exact H3.set (i := 5) hok (fun life => ⟨_, rfl⟩) rfl rfl rfl
set_option maxRecDepth 100000 in
theorem rup_calls (w : World) (S : Nat → Prop) (g : Nat) (d : DS) (vs vn vw : Value) (h0 : RAt w S g d vs vn vw) :
    Calls Try.prog 43 #[.pointer (some ⟨g, 0, none⟩)] w fun e w' => e = .returned (.bool (!d.down)) ∧ Drawn0 w w' := by
  obtain ⟨life, hb⟩ := h0.2.2.1
  have c3 : w.cell? ⟨g, 3, none⟩ = some (.bool (!d.down)) := (blk_cell hb 3).trans rfl
  clear h0 hb
  go_enter Try.func43, Try.ntmps43
  go_wp2
  go_ret
  exact ⟨rfl, by repeat (first | exact Drawn0.refl _ | apply Drawn0.step)⟩
set_option maxRecDepth 100000 in
theorem rsectors_calls (w : World) (S : Nat → Prop) (g : Nat) (d : DS) (vs vn vw : Value) (h0 : RAt w S g d vs vn vw) :
    Calls Try.prog 45 #[.pointer (some ⟨g, 0, none⟩)] w fun e w' => e = .returned (.int .i64 (d.now.length : Int)) ∧ Drawn0 w w' := by
  obtain ⟨A, c, rfl⟩ := h0.2.2.2.1.slice
  obtain ⟨life, hb⟩ := h0.2.2.1
  have c0 : w.cell? ⟨g, 0, none⟩ = some (.slice A d.safe.length c) := (blk_cell hb 0).trans rfl
  rw [h0.1.len] at c0
  clear h0 hb
  go_enter Try.func45, Try.ntmps45
  go_wp2
  go_ret
  exact ⟨rfl, by repeat (first | exact Drawn0.refl _ | apply Drawn0.step)⟩
set_option maxHeartbeats 4000000 in
set_option maxRecDepth 100000 in
theorem rarm_calls (w : World) (S : Nat → Prop) (g : Nat) (d : DS) (vs vn vw : Value) (n : Int) (h0 : RAt w S g d vs vn vw) (hn : n ≤ 9223372036854775807) :
    Calls Try.prog 39 #[.pointer (some ⟨g, 0, none⟩), .int .i64 n] w fun e w' => e = .returned (.tuple #[]) ∧ RAt w' S g { d with armed := if n < 0 then 0 else n } vs vn vw ∧ Kp S w w' := by
  have H := Aside0.mk h0
  obtain ⟨life, hb⟩ := h0.2.2.1
  have c4 : w.cell? ⟨g, 4, none⟩ = some (.int .i64 d.armed) := (blk_cell hb 4).trans rfl
  have f4 := blk_frozen hb 4
  clear h0 hb
  by_cases h1 : n < 0
  · have b1 : decide (n < 0) = true := by simp; omega
    go_enter Try.func39, Try.ntmps39
    go_wp2
    go_end0
    have hm : max n 0 = 0 := by omega
    exact ⟨rfl, H.out.set (H.out.1.arm (n := 0) (by omega) (by omega)) (fun life => ⟨life, by rw [hm]; rfl⟩) rfl rfl rfl, (Kp.refl S w).setCell (.inl H.out.2.1) _⟩
  · have b1 : decide (n < 0) = false := by simp; omega
    go_enter Try.func39, Try.ntmps39
    go_wp2
    go_end0
    have hm : max n 0 = n := by omega
    exact ⟨rfl, H.out.set (H.out.1.arm (n := n) (by omega) (by omega)) (fun life => ⟨life, by rw [hm]; rfl⟩) rfl rfl rfl, (Kp.refl S w).setCell (.inl H.out.2.1) _⟩
/-- What is read. -/
def DS.read (d : DS) (i : Int) : ByteArray × Int := if d.check i = 0 then (strOfNums (d.now.getD i.toNat []), 0) else (⟨#[]⟩, d.check i)
set_option maxHeartbeats 4000000 in
set_option maxRecDepth 100000 in
theorem rread_calls (w : World) (S : Nat → Prop) (g : Nat) (d : DS) (vs vn vw : Value) (i : Int) (h0 : RAt w S g d vs vn vw) :
    Calls Try.prog 37 #[.pointer (some ⟨g, 0, none⟩), .int .i64 i] w fun e w' => e = .returned (.tuple #[.string (d.read i).1, .int .i64 (d.read i).2]) ∧ Drawn0 w w' := by
  have hl := h0.1.lim
  have hpos := h0.1.pos
  obtain ⟨gn, c, cur, rfl, _, hgn, hnc, _, hcs, htk⟩ := h0.2.2.2.2.1.form hpos
  obtain ⟨life, hb⟩ := h0.2.2.1
  have c3 : w.cell? ⟨g, 3, none⟩ = some (.bool (!d.down)) := (blk_cell hb 3).trans rfl
  have c1 : w.cell? ⟨g, 1, none⟩ = some (.slice (some ⟨gn, 0, none⟩) d.now.length c) := (blk_cell hb 1).trans rfl
  have hcell : ∀ (j : Nat) (b : List Int), d.now[j]? = some b → w.cell? ⟨gn, j, none⟩ = some (sstr b) := by
    intro j b hj
    rw [blk_cell hgn, ← Array.getElem?_toList]
    have := strs_get hj
    rw [← htk, List.getElem?_take] at this
    split at this
    · exact this
    · cases this
  clear h0 hb
  cases hd : d.down with
  | true =>
    have hch : d.check i = 91 := by unfold DS.check; rw [if_pos hd]
    have hE := Aside0.mk (show d.read i = (⟨#[]⟩, 91) by unfold DS.read; rw [if_neg (by rw [hch]; decide), hch])
    rw [hd] at c3
    clear hcell
    go_enter Try.func37, Try.ntmps37
    go_wp2
    go_ret2
    exact ⟨by rw [hE.out]; rfl, by repeat (first | exact Drawn0.refl _ | apply Drawn0.step)⟩
  | false =>
    rw [hd] at c3
    by_cases h1 : i < 0
    · have hch : d.check i = 1 := by unfold DS.check; rw [if_neg (by simp [hd]), if_pos (.inl h1)]
      have hE := Aside0.mk (show d.read i = (⟨#[]⟩, 1) by unfold DS.read; rw [if_neg (by rw [hch]; decide), hch])
      have b1 : decide (i < 0) = true := by simp; omega
      clear hcell
      go_enter Try.func37, Try.ntmps37
      go_wp2
      go_ret2
      exact ⟨by rw [hE.out]; rfl, by repeat (first | exact Drawn0.refl _ | apply Drawn0.step)⟩
    · have b1 : decide (i < 0) = false := by simp; omega
      obtain ⟨j, rfl⟩ := Int.eq_ofNat_of_zero_le (show 0 ≤ i by omega)
      by_cases h2 : d.now.length ≤ j
      · have hch : d.check (j : Int) = 1 := by unfold DS.check; rw [if_neg (by simp [hd]), if_pos (.inr (by omega))]
        have hE := Aside0.mk (show d.read (j : Int) = (⟨#[]⟩, 1) by unfold DS.read; rw [if_neg (by rw [hch]; decide), hch])
        have b2 : decide ((d.now.length : Int) ≤ (j : Int)) = true := by simp; omega
        have b3 : decide (d.now.length ≤ j) = true := decide_eq_true h2
        clear hcell
        go_enter Try.func37, Try.ntmps37
        go_wp2
        go_ret2
        exact ⟨by rw [hE.out]; rfl, by repeat (first | exact Drawn0.refl _ | apply Drawn0.step)⟩
      · have hlt : j < d.now.length := by omega
        have hE := Aside0.mk (show d.read (j : Int) = (strOfNums (d.now.getD j []), 0) by unfold DS.read; rw [if_pos (by unfold DS.check; rw [if_neg (by simp [hd]), if_neg (by omega)]), Int.toNat_natCast])
        have b2 : decide ((d.now.length : Int) ≤ (j : Int)) = false := by simp; omega
        have b3 : decide (d.now.length ≤ j) = false := decide_eq_false h2
        have hltn : (j : Int) < (d.now.length : Int) := by omega
        have hc := hcell j (d.now.getD j []) (by rw [List.getD_eq_getElem?_getD, List.getElem?_eq_getElem hlt]; rfl)
        unfold sstr at hc
        clear hcell
        generalize strOfNums (d.now.getD j []) = sv at hc hE
        go_enter Try.func37, Try.ntmps37
        go_wp2
        go_ret2
        exact ⟨by rw [hE.out]; rfl, by repeat (first | exact Drawn0.refl _ | apply Drawn0.step)⟩
end Go.Proofs.Ytkedodmlbepfnaa.Lg

-- from the working text Rw
set_option linter.unusedSimpArgs false
set_option linter.unusedVariables false
namespace Go.Proofs.Ytkedodmlbepfnaa.Lg
open Go.RowKit Go.Proofs.YtkedodmlbepfnaaW.PrintWords Go.Proofs.YtkedodmlbepfnaaW.PrintLast Go.Proofs.YtkedodmlbepfnaaW.PrintMore Go.Proofs.Ytkedodmlbepfnaa.Rg
theorem str_bytes (s : ByteArray) : strOfNums (bytesOf s) = s := by
  apply ByteArray.ext
  apply Array.toList_inj.1
  simp only [strOfNums, bytesOf, List.map_map]
  rw [List.map_congr_left (g := id)]
  · simp
  · intro x _
    simp [Function.comp]
theorem sstr_bytes (s : ByteArray) : sstr (bytesOf s) = .string s := by unfold sstr; rw [str_bytes]
theorem info126 : (Try.prog.info? 126).map (fun i => (i.zero, i.size, i.bytes)) = some (some (.agg #[(.int .i64 0), (.string ⟨#[]⟩)]), 2, 24) := by kernel_rfl
theorem wpList_append126 {ops : Array Oper} {rest : List Oper} {o : Oper} {a : Act} {w : World} {Q : Exit → Act → World → Prop} {S : Nat → Prop} (hgd : o.guard = none) (s x : Operand) (ho : o.op = .call { callee := .builtin .append, args := #[s, x], argTypes := #[116, 116] })
    {v : Value} {n gl : Nat} {xs cs : List Value} (hs : a.eval s = v) (hx : a.eval x = .slice (some ⟨gl, 0, none⟩) 1 1) (h : Own w S 126 2 v n xs) (hl : w.heap[gl]? = some (.cells cs.toArray 126 (0, 0))) (hc : cs.length = 2) (h1 : ∀ u ∈ cs, u.oneCell' = true) (hn : n ≤ 1000000)
    (hk : ∀ v' w', Own w' (Nw S w) 126 2 v' (n + 1) (xs ++ cs) → w.grownBy w' v.ownBlock → wpList Try.prog ops Q rest (a.put o.dst v') w') : wpList Try.prog ops Q (o :: rest) a w := by
  obtain ⟨i0, hi, hz0, hz1, hz2⟩ := info_parts info126
  obtain ⟨v', w', hrun, hown, hg, _, hb⟩ := run_append_own_at (P := Try.prog) w 0 116 o.type 126 i0 _ 2 24 Try.underlying116 hi hz0 hz1 hz2 rfl (by omega) v n xs h.1 ⟨gl, 0, none⟩ 1 1 cs (by omega)
    (by
      intro j u hu
      rw [Addr.add_mid, Nat.zero_add, blk_cell hl j, List.getElem?_toArray]
      exact hu) h1 (by simp only [maxLen]; omega) (by omega) (Nat.zero_le _)
  refine wpList_plain hgd fun K hK => ?_
  unfold Oper.wp execOp
  simp only [ho, resolve, invoke, builtin, Sem.run_bind, Sem.run_pure, Result.andThen_ok, List.map_toArray, List.map_cons, List.map_nil, hs, hx, hrun]
  refine hK _ _ (hk v' w' ⟨hown, fun k hk => ?_⟩ hg)
  rcases hb with hb | hb
  · exact .inl (h.2 k (hb ▸ hk))
  · rw [hb] at hk
    injection hk with hk
    exact .inr (by omega)
theorem RAt.now {w : World} {S : Nat → Prop} {g gn c i : Nat} {d : DS} {vs vw : Value} {b : List Int} (h : RAt w S g d vs (.slice (some ⟨gn, 0, none⟩) d.now.length c) vw) (hi : i < d.now.length) (hb : Sect b) :
    RAt (w.setCell ⟨gn, i, none⟩ (sstr b)) S g { d with now := d.now.set i b } vs (.slice (some ⟨gn, 0, none⟩) d.now.length c) vw := by
  obtain ⟨h1, h2, ⟨life, h3⟩, h4, h5, h6, h7⟩ := h
  obtain ⟨gn', c', cur, hv, hSn, hgn, _⟩ := h5.form (by omega)
  injection hv with ha _ hc
  injection ha with ha
  injection ha with ha
  subst ha
  have hne : gn ≠ g := fun e => by rw [e, h3] at hgn; injection hgn with hgn; injection hgn with _ hgn _; cases hgn
  refine ⟨h1.setNow i b hb, h2, ⟨life, (Below.heap_setCell _ _ _ _ (fun e => hne e.symm)).trans h3⟩, h4.setCell ?_ _, ?_, h6.setCell (h6.type_ne hgn (by decide)) _, h7⟩
  · rcases h7 with h7 | h7
    · rw [h7]; simp
    · exact h7
  · show Own _ S 9 1 _ (d.now.set i b).length (strs (d.now.set i b))
    rw [List.length_set, ← strs_set]
    exact h5.cell (by omega) _
theorem RAt.push {w W : World} {S : Nat → Prop} {g : Nat} {d : DS} {vs vn vw v' : Value} {x : Int × List Int} (h : RAt w S g d vs vn vw) (ho : Own W (Nw S w) 126 2 v' (d.wr.length + 1) (wstrs d.wr ++ wstr x)) (hg : w.grownBy W vw.ownBlock)
    (hok : ({ d with wr := d.wr ++ [x] } : DS).Ok) : RAt (W.setCell ⟨g, 2, none⟩ v') (Nw S w) g { d with wr := d.wr ++ [x] } vs vn v' ∧ Kp S w (W.setCell ⟨g, 2, none⟩ v') := by
  obtain ⟨h1, h2, ⟨life, h3⟩, h4, h5, h6, h7⟩ := h
  have hb : W.heap[g]? = some (.cells #[vs, vn, vw, .bool (!d.down), .int .i64 d.armed, .int .i64 life] 118 (0, 0)) := (hg.block g (blk_lt h3) (fun e => h6.type_ne h3 (by decide) e.symm)).trans h3
  have hs1 : ∀ k, S k → Nw S w k := fun k hk => .inl hk
  have h4' := (h4.grown hg (h4.apart h6 (by decide))).mono hs1
  have h5' := (h5.grown hg (h5.apart h6 (by decide))).mono hs1
  refine ⟨⟨hok, .inl h2, ⟨life, by rw [blk_set hb]; rfl⟩, h4'.setCell (h4'.type_ne hb (by decide)) _, h5'.setCell (h5'.type_ne hb (by decide)) _, ?_, h7⟩, ?_⟩
  · show Own _ _ 126 2 v' (d.wr ++ [x]).length (wstrs (d.wr ++ [x]))
    rw [List.length_append, List.length_singleton, wstrs_snoc]
    exact ho.setCell (ho.type_ne hb (by decide)) _
  · exact ((Kp.refl S w).of_grown hg (fun k e => .inl (h6.2 k e))).setCell (.inl h2) _
def RWr (w : World) (S : Nat → Prop) (g : Nat) (d : DS) (i : Int) (s : ByteArray) (e : Ending) (w' : World) : Prop := ∃ vs' vn' vw', e = .returned (.int .i64 (d.write i s).1) ∧ RAt w' (Nw S w) g (d.write i s).2 vs' vn' vw' ∧ Kp S w w'
set_option maxHeartbeats 8000000 in
set_option maxRecDepth 100000 in
theorem rwrite_calls (w : World) (S : Nat → Prop) (g : Nat) (d : DS) (vs vn vw : Value) (i : Int) (s : ByteArray) (h0 : RAt w S g d vs vn vw) (hl : d.wr.length ≤ 1000000) :
    Calls Try.prog 33 #[.pointer (some ⟨g, 0, none⟩), .int .i64 i, .string s] w (RWr w S g d i s) := by
  have H := Aside0.mk h0
  have hlim := h0.1.lim
  have hpos := h0.1.pos
  obtain ⟨gn, c, cur, rfl, hSn, hgn, hnc, _, hcs, htk⟩ := h0.2.2.2.2.1.form hpos
  obtain ⟨life, hb⟩ := h0.2.2.1
  have c3 : w.cell? ⟨g, 3, none⟩ = some (.bool (!d.down)) := (blk_cell hb 3).trans rfl
  have c1 : w.cell? ⟨g, 1, none⟩ = some (.slice (some ⟨gn, 0, none⟩) d.now.length c) := (blk_cell hb 1).trans rfl
  have hcell : ∀ (j : Nat), j < d.now.length → ∃ u, w.cell? ⟨gn, j, none⟩ = some u := by
    intro j hj
    rw [blk_cell hgn]
    exact ⟨_, Array.getElem?_eq_getElem (by rw [hcs]; omega)⟩
  have hfr : ∀ j, w.frozen? ⟨gn, j, none⟩ = false := fun j => blk_frozen hgn j
  have HSn := Aside0.mk hSn
  clear h0 hb htk hcs hgn hSn
  have hbad : (hch : d.check i ≠ 0 ∨ s.size ≠ 64) → d.write i s = (if d.check i ≠ 0 then d.check i else 1, d) := by
    intro hch
    unfold DS.write
    by_cases h : d.check i ≠ 0
    · rw [if_pos h, if_pos h]
    · rw [if_neg h, if_neg h, if_pos (hch.resolve_left h)]
  cases hd : d.down with
  | true =>
    have hch : d.check i = 91 := by unfold DS.check; rw [if_pos hd]
    have hE := Aside0.mk (hbad (.inl (by rw [hch]; decide)))
    have hC := Aside0.mk hch
    rw [hd] at c3
    clear hcell hfr hbad hch
    go_enter Try.func33, Try.ntmps33
    go_wp2
    go_ret
    exact ⟨_, _, _, by rw [hE.out, hC.out]; rfl, by rw [hE.out]; exact H.out.mono fun k hk => .inl hk, Kp.refl S w⟩
  | false =>
    rw [hd] at c3
    by_cases h1 : i < 0
    · have hch : d.check i = 1 := by unfold DS.check; rw [if_neg (by simp [hd]), if_pos (.inl h1)]
      have hE := Aside0.mk (hbad (.inl (by rw [hch]; decide)))
      have hC := Aside0.mk hch
      have b1 : decide (i < 0) = true := by simp; omega
      clear hcell hfr hbad hch
      go_enter Try.func33, Try.ntmps33
      go_wp2
      go_ret
      exact ⟨_, _, _, by rw [hE.out, hC.out]; rfl, by rw [hE.out]; exact H.out.mono fun k hk => .inl hk, Kp.refl S w⟩
    · have b1 : decide (i < 0) = false := by simp; omega
      obtain ⟨j, rfl⟩ := Int.eq_ofNat_of_zero_le (show 0 ≤ i by omega)
      by_cases h2 : d.now.length ≤ j
      · have hch : d.check (j : Int) = 1 := by unfold DS.check; rw [if_neg (by simp [hd]), if_pos (.inr (by omega))]
        have hE := Aside0.mk (hbad (.inl (by rw [hch]; decide)))
        have hC := Aside0.mk hch
        have b2 : decide ((d.now.length : Int) ≤ (j : Int)) = true := by simp; omega
        have b3 : decide (d.now.length ≤ j) = true := decide_eq_true h2
        clear hcell hfr hbad hch
        go_enter Try.func33, Try.ntmps33
        go_wp2
        go_ret
        exact ⟨_, _, _, by rw [hE.out, hC.out]; rfl, by rw [hE.out]; exact H.out.mono fun k hk => .inl hk, Kp.refl S w⟩
      · have hlt : j < d.now.length := by omega
        have hch : d.check (j : Int) = 0 := by unfold DS.check; rw [if_neg (by simp [hd]), if_neg (by omega)]
        have b2 : decide ((d.now.length : Int) ≤ (j : Int)) = false := by simp; omega
        have b3 : decide (d.now.length ≤ j) = false := decide_eq_false h2
        by_cases hs : s.size = 64
        · have b4 : ((s.size : Int) == 64) = true := by rw [beq_iff_eq]; omega
          have b5 : (s.size == 64) = true := by rw [beq_iff_eq]; exact hs
          have b6 : ((s.size : Int) != 64) = false := by rw [bne, b4]; rfl
          have b7 : (s.size != 64) = false := by rw [bne, b5]; rfl
          have hE := Aside0.mk (show d.write (j : Int) s = (if (d.put j (bytesOf s)).fails.1 = true then 91 else 0, (d.put j (bytesOf s)).fails.2) by unfold DS.write; rw [if_neg (by simp [hch]), if_neg (by simp [hs]), Int.toNat_natCast])
          have HS := Aside0.mk (bytes_sect hs)
          have hltn : (j : Int) < (d.now.length : Int) := by omega
          obtain ⟨u0, hu0⟩ := hcell j hlt
          have hfj := hfr j
          have H1 := Aside0.mk (H.out.now hlt HS.out)
          rw [sstr_bytes] at H1
          have K1 := Aside0.mk ((Kp.refl S w).setCell (p := ⟨gn, j, none⟩) (.inl HSn.out) (.string s))
          obtain ⟨life2, hb2⟩ := H1.out.2.2.1
          have e2 : (w.setCell ⟨gn, j, none⟩ (.string s)).cell? ⟨g, 2, none⟩ = some vw := (blk_cell hb2 2).trans rfl
          have e2f := blk_frozen hb2 2
          have HOK := Aside0.mk (H.out.1.put hlt HS.out)
          have HLn := Aside0.mk hl
          have HNew : Aside0 (((w.setCell ⟨gn, j, none⟩ (.string s)).alloc (.cells #[.int .i64 (j : Int), .string s] 126)).heap[w.heap.size]? = some (.cells [.int .i64 (j : Int), .string s].toArray 126 (0, 0))) := Aside0.mk (by have h := blk_new (w.setCell ⟨gn, j, none⟩ (.string s)) (.cells #[.int .i64 (j : Int), .string s] 126); rw [show (w.setCell ⟨gn, j, none⟩ (.string s)).heap.size = w.heap.size by simp] at h; exact h)
          have HOw := Aside0.mk (H1.out.below (below_alloc (Below.refl _ _) (.cells #[.int .i64 (j : Int), .string s] 126))).2.2.2.2.2.1
          have HBg := Aside0.mk (((below_alloc (Below.refl _ (w.setCell ⟨gn, j, none⟩ (.string s))) (.cells #[.int .i64 (j : Int), .string s] 126)).block g (blk_lt hb2)).trans hb2)
          have HR1 := Aside0.mk (H1.out.below (below_alloc (Below.refl _ _) (.cells #[.int .i64 (j : Int), .string s] 126)))
          have K2 : Aside0 (Kp S w ((w.setCell ⟨gn, j, none⟩ (.string s)).alloc (.cells #[.int .i64 (j : Int), .string s] 126))) := Aside0.mk (K1.out.below (below_alloc (Below.refl _ _) _))
          clear hcell hfr hbad hch hb2 hs
          cases hff : (d.put j (bytesOf s)).fails.1 with
          | true =>
            have HFF := Aside0.mk hff
            clear hff
            go_enter Try.func33, Try.ntmps33
            go_wp2_with (first
              | (at_builtin; refine wpList_append126 (v := vw) (cs := [.int .i64 (j : Int), .string s]) rfl _ _ rfl rfl rfl HOw.out HNew.out rfl (by intro u hu; simp only [List.mem_cons, List.not_mem_nil, or_false] at hu; rcases hu with rfl | rfl <;> rfl) HLn.out ?_; intro v' w2 hown hg; obtain ⟨A', c', rfl⟩ := hown.slice; have hz := (hg.block g (blk_lt HBg.out) (fun e => HOw.out.type_ne HBg.out (by decide) e.symm)).trans HBg.out; have z0 : w2.cell? ⟨g, 2, none⟩ = some vw := (blk_cell hz 2).trans rfl; have z1 := blk_frozen hz 2; have HP := Aside0.mk (RAt.push (x := ((j : Int), bytesOf s)) HR1.out (by rw [show wstr ((j : Int), bytesOf s) = [.int .i64 (j : Int), .string s] from by unfold wstr; rw [sstr_bytes]]; exact hown) hg HOK.out); clear hown hg hz)
              | (go_at_call 87; have k1_ := HP.out.1; (with_reducible refine (rcounts_calls _ _ g _ _ _ _ k1_).mono ?_); clear k1_; rintro e w3 ⟨rfl, hr, hk⟩; have HR3 := Aside0.mk hr; have HK3 := Aside0.mk hk; clear hr hk; simp only [show ({ ({ d with now := d.now.set j (bytesOf s) } : DS) with wr := d.wr ++ [((j : Int), bytesOf s)] } : DS) = d.put j (bytesOf s) from rfl, HFF.out]))
            go_ret
            have hnw : ∀ k, Nw S ((w.setCell ⟨gn, j, none⟩ (.string s)).alloc (.cells #[.int .i64 (j : Int), .string s] 126)) k → Nw S w k := fun k hk => hk.elim .inl (fun h => .inr (Nat.le_trans K2.out.size h))
            refine ⟨_, _, _, by rw [hE.out, HFF.out]; rfl, by rw [hE.out]; exact HR3.out.mono hnw, (K2.out.trans (HP.out.2.mono fun k hk => .inl hk)).trans (HK3.out.mono hnw)⟩
          | false =>
            have HFF := Aside0.mk hff
            clear hff
            go_enter Try.func33, Try.ntmps33
            go_wp2_with (first
              | (at_builtin; refine wpList_append126 (v := vw) (cs := [.int .i64 (j : Int), .string s]) rfl _ _ rfl rfl rfl HOw.out HNew.out rfl (by intro u hu; simp only [List.mem_cons, List.not_mem_nil, or_false] at hu; rcases hu with rfl | rfl <;> rfl) HLn.out ?_; intro v' w2 hown hg; obtain ⟨A', c', rfl⟩ := hown.slice; have hz := (hg.block g (blk_lt HBg.out) (fun e => HOw.out.type_ne HBg.out (by decide) e.symm)).trans HBg.out; have z0 : w2.cell? ⟨g, 2, none⟩ = some vw := (blk_cell hz 2).trans rfl; have z1 := blk_frozen hz 2; have HP := Aside0.mk (RAt.push (x := ((j : Int), bytesOf s)) HR1.out (by rw [show wstr ((j : Int), bytesOf s) = [.int .i64 (j : Int), .string s] from by unfold wstr; rw [sstr_bytes]]; exact hown) hg HOK.out); clear hown hg hz)
              | (go_at_call 87; have k1_ := HP.out.1; (with_reducible refine (rcounts_calls _ _ g _ _ _ _ k1_).mono ?_); clear k1_; rintro e w3 ⟨rfl, hr, hk⟩; have HR3 := Aside0.mk hr; have HK3 := Aside0.mk hk; clear hr hk; simp only [show ({ ({ d with now := d.now.set j (bytesOf s) } : DS) with wr := d.wr ++ [((j : Int), bytesOf s)] } : DS) = d.put j (bytesOf s) from rfl, HFF.out]))
            go_ret
            have hnw : ∀ k, Nw S ((w.setCell ⟨gn, j, none⟩ (.string s)).alloc (.cells #[.int .i64 (j : Int), .string s] 126)) k → Nw S w k := fun k hk => hk.elim .inl (fun h => .inr (Nat.le_trans K2.out.size h))
            refine ⟨_, _, _, by rw [hE.out, HFF.out]; rfl, by rw [hE.out]; exact HR3.out.mono hnw, (K2.out.trans (HP.out.2.mono fun k hk => .inl hk)).trans (HK3.out.mono hnw)⟩
        · have b4 : ((s.size : Int) == 64) = false := by rw [beq_eq_false_iff_ne]; omega
          have b5 : (s.size == 64) = false := by rw [beq_eq_false_iff_ne]; exact hs
          have b6 : ((s.size : Int) != 64) = true := by rw [bne, b4]; rfl
          have b7 : (s.size != 64) = true := by rw [bne, b5]; rfl
          have hE := Aside0.mk (hbad (.inr hs))
          have hC := Aside0.mk hch
          clear hcell hfr hbad hch hs
          go_enter Try.func33, Try.ntmps33
          go_wp2
          go_ret
          exact ⟨_, _, _, by rw [hE.out, hC.out]; rfl, by rw [hE.out]; exact H.out.mono fun k hk => .inl hk, Kp.refl S w⟩
end Go.Proofs.Ytkedodmlbepfnaa.Lg

-- from the working text Rs
set_option linter.unusedSimpArgs false
set_option linter.unusedVariables false
namespace Go.Proofs.Ytkedodmlbepfnaa.Lg
open Go.RowKit Go.Proofs.YtkedodmlbepfnaaW.PrintWords Go.Proofs.YtkedodmlbepfnaaW.PrintLast Go.Proofs.YtkedodmlbepfnaaW.PrintMore Go.Proofs.Ytkedodmlbepfnaa.Rg
/-- A write becomes safe. -/
def ap (ss : List (List Int)) (x : Int × List Int) : List (List Int) := ss.set x.1.toNat x.2
/-- What is read is what is safe, with the writes that are not. -/
def DS.Inv (d : DS) : Prop := d.now = d.wr.foldl ap d.safe
theorem ap_length (ss : List (List Int)) (ws : List (Int × List Int)) : (ws.foldl ap ss).length = ss.length := by
  induction ws generalizing ss with
  | nil => rfl
  | cons x ws ih => rw [List.foldl_cons, ih]; exact List.length_set
theorem DS.Ok.withSafe {d : DS} (h : d.Ok) {ss : List (List Int)} (hl : ss.length = d.safe.length) (hs : ∀ s ∈ ss, Sect s) : ({ d with safe := ss } : DS).Ok :=
  ⟨hl.trans h.len, h.pos, h.lim, hs, h.now, h.wr, h.armed0, h.armed1, h.falls0⟩
theorem RAt.safe {w : World} {S : Nat → Prop} {g gs c i : Nat} {d : DS} {vn vw : Value} {b : List Int} (h : RAt w S g d (.slice (some ⟨gs, 0, none⟩) d.safe.length c) vn vw) (hi : i < d.safe.length) (hb : Sect b) :
    RAt (w.setCell ⟨gs, i, none⟩ (sstr b)) S g { d with safe := d.safe.set i b } (.slice (some ⟨gs, 0, none⟩) d.safe.length c) vn vw := by
  obtain ⟨h1, h2, ⟨life, h3⟩, h4, h5, h6, h7⟩ := h
  obtain ⟨gs', c', cur, hv, hSn, hgs, _⟩ := h4.form (by omega)
  injection hv with ha _ hc
  injection ha with ha
  injection ha with ha
  subst ha
  have hne : gs ≠ g := fun e => by rw [e, h3] at hgs; injection hgs with hgs; injection hgs with _ hgs _; cases hgs
  refine ⟨h1.withSafe List.length_set (fun s hs => ?_), h2, ⟨life, (Below.heap_setCell _ _ _ _ (fun e => hne e.symm)).trans h3⟩, ?_, h5.setCell ?_ _, h6.setCell (h6.type_ne hgs (by decide)) _, h7⟩
  · rcases List.mem_or_eq_of_mem_set hs with h1' | h1'
    · exact h1.safe s h1'
    · subst h1'; exact hb
  · show Own _ S 9 1 _ (d.safe.set i b).length (strs (d.safe.set i b))
    rw [List.length_set, ← strs_set]
    exact h4.cell (by omega) _
  · rcases h7 with h7 | h7
    · simp [Value.ownBlock] at h7
    · exact fun e => h7 e.symm
/-- Cells of a row of one's own. -/
theorem Own.cellsAt {w : World} {S : Nat → Prop} {e : TypeId} {size n g c : Nat} {xs : List Value} (h : Own w S e size (.slice (some ⟨g, 0, none⟩) n c) n xs) (i : Nat) (u : Value) (hi : xs[i]? = some u) : w.cell? ⟨g, i, none⟩ = some u ∧ w.frozen? ⟨g, i, none⟩ = false := by
  have hlt := (List.getElem?_eq_some_iff.1 hi).1
  have hx := h.1.1
  have h1 := h.1.cellAt i (by rw [← hx]; exact hlt)
  exact ⟨h1.trans hi, h.1.frozenAt i⟩
/-- The numbers in a write. -/
theorem DS.Ok.nth {d : DS} (h : d.Ok) {j : Nat} (hj : j < d.wr.length) : ∃ (a : Nat) (b : List Int), d.wr[j] = ((a : Int), b) ∧ a < d.now.length ∧ Sect b := by
  obtain ⟨h1, h2, h3⟩ := h.wr d.wr[j] (List.getElem_mem hj)
  obtain ⟨a, ha⟩ := Int.eq_ofNat_of_zero_le h1
  exact ⟨a, d.wr[j].2, by rw [← ha], by omega, h3⟩
theorem RAt.wiped {w : World} {S : Nat → Prop} {g : Nat} {d : DS} {vs vn vw : Value} (h : RAt w S g d vs vn vw) : RAt (w.setCell ⟨g, 2, none⟩ (.slice none 0 0)) S g { d with wr := [] } vs vn (.slice none 0 0) := by
  obtain ⟨h1, h2, ⟨life, h3⟩, h4, h5, h6, h7⟩ := h
  exact ⟨⟨h1.len, h1.pos, h1.lim, h1.safe, h1.now, (fun x hx => by cases hx), h1.armed0, h1.armed1, h1.falls0⟩, h2, ⟨life, by rw [blk_set h3]; rfl⟩, h4.setCell (h4.type_ne h3 (by decide)) _, h5.setCell (h5.type_ne h3 (by decide)) _, Own.nil _ _ _ _, h7⟩
def RSy (w : World) (S : Nat → Prop) (g : Nat) (d : DS) (e : Ending) (w' : World) : Prop := ∃ vs' vn' vw', e = .returned (.int .i64 d.sync.1) ∧ RAt w' (Nw S w) g d.sync.2 vs' vn' vw' ∧ Kp S w w'
theorem DS.fails_same (d : DS) : d.fails.2.safe = d.safe ∧ d.fails.2.now = d.now ∧ d.fails.2.wr = d.wr := by
  unfold DS.fails
  split
  · exact ⟨rfl, rfl, rfl⟩
  · split <;> exact ⟨rfl, rfl, rfl⟩
set_option maxHeartbeats 8000000 in
set_option maxRecDepth 100000 in
theorem rsync_calls (w : World) (S : Nat → Prop) (g : Nat) (d : DS) (vs vn vw : Value) (h0 : RAt w S g d vs vn vw) (hl : d.wr.length ≤ 1000000) (hinv : d.Inv) :
    Calls Try.prog 35 #[.pointer (some ⟨g, 0, none⟩)] w (RSy w S g d) := by
  have H := Aside0.mk h0
  obtain ⟨life, hb⟩ := h0.2.2.1
  have c3 : w.cell? ⟨g, 3, none⟩ = some (.bool (!d.down)) := (blk_cell hb 3).trans rfl
  clear h0 hb
  cases hd : d.down with
  | true =>
    have hE := Aside0.mk (show d.sync = (91, d) by unfold DS.sync; rw [if_pos hd])
    rw [hd] at c3
    go_enter Try.func35, Try.ntmps35
    go_wp2
    go_ret
    exact ⟨_, _, _, by rw [hE.out]; rfl, by rw [hE.out]; exact H.out.mono fun k hk => .inl hk, Kp.refl S w⟩
  | false =>
    rw [hd] at c3
    cases hff : d.fails.1 with
    | true =>
      have hE := Aside0.mk (show d.sync = (91, d.fails.2) by unfold DS.sync; rw [if_neg (by simp [hd]), if_pos hff])
      have HFF := Aside0.mk hff
      clear hff
      go_enter Try.func35, Try.ntmps35
      go_wp2_with (go_at_call 87; (with_reducible refine (rcounts_calls _ _ g _ _ _ _ H.out).mono ?_); rintro e w3 ⟨rfl, hr, hk⟩; have HR3 := Aside0.mk hr; have HK3 := Aside0.mk hk; clear hr hk; simp only [HFF.out])
      go_ret
      exact ⟨_, _, _, by rw [hE.out]; rfl, by rw [hE.out]; exact HR3.out.mono fun k hk => .inl hk, HK3.out⟩
    | false =>
      have hE := Aside0.mk (show d.sync = (0, { d.fails.2 with safe := d.fails.2.now, wr := [] }) by unfold DS.sync; rw [if_neg (by simp [hd]), if_neg (by simp [hff])])
      have HFF := Aside0.mk hff
      have HInv := Aside0.mk (show d.fails.2.Inv by unfold DS.Inv; obtain ⟨e1, e2, e3⟩ := d.fails_same; rw [e1, e2, e3]; exact hinv)
      have HL := Aside0.mk (show d.fails.2.wr.length ≤ 1000000 by obtain ⟨e1, e2, e3⟩ := d.fails_same; rw [e3]; exact hl)
      clear hff hinv hl
      go_enter Try.func35, Try.ntmps35
      go_wp2_with (go_at_call 87; (with_reducible refine (rcounts_calls _ _ g _ _ _ _ H.out).mono ?_); rintro e w3 ⟨rfl, hr, hk⟩; have HR3 := Aside0.mk hr; have HK3 := Aside0.mk hk; clear hr hk; simp only [HFF.out])
      clear H HFF c3
      generalize d.fails.2 = d2 at HR3 HInv HL hE
      obtain ⟨A0, cs, rfl⟩ := HR3.out.2.2.2.1.slice
      obtain ⟨gs, cs', cur, hvs, _⟩ := HR3.out.2.2.2.1.form (by have := HR3.out.1.pos; have := HR3.out.1.len; omega)
      injection hvs with ha _ hc2
      subst ha hc2
      have HOk2 := Aside0.mk HR3.out.1
      go_loopw [3] (fun v w' => ∃ j : Nat, v = .int .i64 (j : Int) ∧ j ≤ d2.wr.length ∧ Aside0 (RAt w' S g { d2 with safe := (d2.wr.take j).foldl ap d2.safe } (.slice (some ⟨gs, 0, none⟩) d2.safe.length cs) vn vw) ∧ Aside0 (Kp S w w')) (fun v _ => d2.wr.length - (intOf v).toNat)
      case atStart => exact ⟨0, rfl, Nat.zero_le _, HR3, HK3⟩
      case round =>
        obtain ⟨j, rfl, hj, HA, HK⟩ := hrel
        obtain ⟨lifeA, hbA⟩ := HA.out.2.2.1
        have c0 : wr.cell? ⟨g, 0, none⟩ = some (.slice (some ⟨gs, 0, none⟩) d2.safe.length cs) := (blk_cell hbA 0).trans rfl
        have c2 : wr.cell? ⟨g, 2, none⟩ = some vw := (blk_cell hbA 2).trans rfl
        have f2 := blk_frozen hbA 2
        clear hbA HR3 HK3
        by_cases hlt : j < d2.wr.length
        · have hOW : Own wr S 126 2 vw d2.wr.length (wstrs d2.wr) := HA.out.2.2.2.2.2.1
          obtain ⟨gw, cw, curw, hvw, _⟩ := hOW.form (by omega)
          subst hvw
          obtain ⟨a, b, hab, han, hbs⟩ := HOk2.out.nth hlt
          have hget : d2.wr[j]? = some ((a : Int), b) := by rw [List.getElem?_eq_getElem hlt, hab]
          have hwg := wstrs_get d2.wr j _ hget
          obtain ⟨k0, _⟩ := hOW.cellsAt (j * 2) _ hwg.1
          obtain ⟨k1, _⟩ := hOW.cellsAt (j * 2 + 1) _ hwg.2
          have has : a < d2.safe.length := by rw [HOk2.out.len]; exact han
          have hsl : ((d2.wr.take j).foldl ap d2.safe).length = d2.safe.length := ap_length _ _
          obtain ⟨b0, hsg⟩ : ∃ b0, ((d2.wr.take j).foldl ap d2.safe)[a]? = some b0 := ⟨_, List.getElem?_eq_getElem (by rw [hsl]; exact has)⟩
          have hOwnS : Own wr S 9 1 (.slice (some ⟨gs, 0, none⟩) ((d2.wr.take j).foldl ap d2.safe).length cs) ((d2.wr.take j).foldl ap d2.safe).length (strs ((d2.wr.take j).foldl ap d2.safe)) := by rw [hsl]; have h := HA.out.2.2.2.1; rw [show ({ d2 with safe := (d2.wr.take j).foldl ap d2.safe } : DS).safe.length = d2.safe.length from hsl] at h; exact h
          obtain ⟨k2, k3⟩ := hOwnS.cellsAt a _ (strs_get hsg)
          have HNext : Aside0 (RAt (wr.setCell ⟨gs, a, none⟩ (sstr b)) S g { d2 with safe := (d2.wr.take (j + 1)).foldl ap d2.safe } (.slice (some ⟨gs, 0, none⟩) d2.safe.length cs) vn (.slice (some ⟨gw, 0, none⟩) d2.wr.length cw)) := by
            have h := HA.out
            rw [show Value.slice (some ⟨gs, 0, none⟩) d2.safe.length cs = Value.slice (some ⟨gs, 0, none⟩) ({ d2 with safe := (d2.wr.take j).foldl ap d2.safe } : DS).safe.length cs from by rw [show ({ d2 with safe := (d2.wr.take j).foldl ap d2.safe } : DS).safe.length = d2.safe.length from hsl]] at h
            have h2 := h.safe (i := a) (b := b) (by rw [show ({ d2 with safe := (d2.wr.take j).foldl ap d2.safe } : DS).safe.length = d2.safe.length from hsl]; exact has) hbs
            rw [show ({ d2 with safe := (d2.wr.take j).foldl ap d2.safe } : DS).safe.length = d2.safe.length from hsl] at h2
            rw [show (d2.wr.take (j + 1)).foldl ap d2.safe = ((d2.wr.take j).foldl ap d2.safe).set a b from by rw [List.take_succ_eq_append_getElem hlt, List.foldl_append, hab]; rfl]
            exact Aside0.mk h2
          have hSgs := hOwnS.2 gs rfl
          have HKN : Aside0 (Kp S w (wr.setCell ⟨gs, a, none⟩ (sstr b))) := Aside0.mk (HK.out.setCell (p := ⟨gs, a, none⟩) (.inl hSgs) _)
          have l1 : (j : Int) < (d2.wr.length : Int) := by omega
          have l2 : (a : Int) < (d2.safe.length : Int) := by omega
          have l3 : decide ((j : Int) < (d2.wr.length : Int)) = true := decide_eq_true l1
          have l4 : decide (j < d2.wr.length) = true := decide_eq_true hlt
          unfold sstr at k1 k2 HNext HKN
          clear hab hget hwg hsg hOwnS hsl hSgs hbs hOW
          go_wp2
          go_region
          go_wp2
          refine ⟨⟨j + 1, by congr 1, by omega, ⟨HNext.out.below (below_drew (Below.refl _ _))⟩, ⟨HKN.out.below (below_drew (Below.refl _ _))⟩⟩, ?_⟩
          simp [intOf]
          omega
        · have l3 : decide ((j : Int) < (d2.wr.length : Int)) = false := decide_eq_false (by omega)
          have l4 : decide (j < d2.wr.length) = false := decide_eq_false hlt
          have hje : j = d2.wr.length := by omega
          have hOW : Own wr S 126 2 vw d2.wr.length (wstrs d2.wr) := HA.out.2.2.2.2.2.1
          obtain ⟨Aw, cw, hvw⟩ := hOW.slice
          subst hvw
          clear hOW
          have HFin := Aside0.mk HA.out.wiped
          have HKF := Aside0.mk (HK.out.setCell (p := ⟨g, 2, none⟩) (.inl HA.out.2.1) (.slice none 0 0))
          have hsafe : (d2.wr.take j).foldl ap d2.safe = d2.now := by rw [hje, List.take_length]; exact HInv.out.symm
          have HS := Aside0.mk hsafe
          clear hje hsafe
          go_wp2
          go_ret
          have h := HFin.out
          rw [HS.out] at h
          exact ⟨_, _, _, by rw [hE.out]; rfl, by rw [hE.out]; exact h.mono fun k hk => .inl hk, HKF.out⟩
end Go.Proofs.Ytkedodmlbepfnaa.Lg
