/- Contracts of the ledger's functions (part 3): what each of them answers and leaves, merged by program out of the session's working texts. No condition beyond those that stand in each. -/
import Derived.Test.YtkedodmlbepfnaaM2
-- from the working text Pt
set_option linter.unusedSimpArgs false
set_option linter.unusedVariables false
namespace Go.Proofs.Ytkedodmlbepfnaa.Lg
open Go.RowKit Go.Proofs.YtkedodmlbepfnaaW.PrintWords Go.Proofs.YtkedodmlbepfnaaW.PrintLast Go.Proofs.YtkedodmlbepfnaaW.PrintMore Go.Proofs.Ytkedodmlbepfnaa.Rg
theorem append23 {w : World} {S : Nat → Prop} {v : Value} {n : Nat} {xs cs : List Value} {gl : Nat} (ty : TypeId) (h : Own w S 23 3 v n xs) (hl : w.heap[gl]? = some (.cells cs.toArray 23 (0, 0))) (hc : cs.length = 3) (h1 : ∀ u ∈ cs, u.oneCell' = true) (hn : n ≤ 1000000) :
    ∃ v' w', (Builtin.append_ #[24, 24] ty #[v, .slice (some ⟨gl, 0, none⟩) 1 1]).run Try.prog w = .ok v' w' ∧ Own w' (Nw S w) 23 3 v' (n + 1) (xs ++ cs) ∧ w.grownBy w' v.ownBlock := by
  obtain ⟨i0, hi, hz0, hz1, hz2⟩ := info_parts info23
  obtain ⟨v', w', hrun, hown, hg, _, hb⟩ := run_append_own_at (P := Try.prog) w 0 24 ty 23 i0 _ 3 32 Try.underlying24 hi hz0 hz1 hz2 rfl (by omega) v n xs h.1 ⟨gl, 0, none⟩ 1 1 cs (by omega)
    (by
      intro j u hu
      rw [Addr.add_mid, Nat.zero_add, blk_cell hl j, List.getElem?_toArray]
      exact hu) h1 (by simp only [maxLen]; omega) (by omega) (Nat.zero_le _)
  refine ⟨v', w', hrun, ⟨hown, fun k hk => ?_⟩, hg⟩
  rcases hb with hb | hb
  · exact .inl (h.2 k (hb ▸ hk))
  · rw [hb] at hk
    injection hk with hk
    exact .inr (by omega)
theorem append23_ {ops : Array Oper} {Q : Exit → Act → World → Prop} {oi : Oper} {N : Option Tmp} {a : Act} {w : World} {K : Act → World → Prop} {S : Nat → Prop} {s x : Operand} {v : Value} {n gl : Nat} {xs cs : List Value} (hw : Region.wanted oi (yielded ops a.tmps) = true) (hN : oi.dst = N)
    (hop : oi.op = .call { callee := .builtin .append, args := #[s, x], argTypes := #[24, 24] })
    (hs : a.eval s = v) (hx : a.eval x = .slice (some ⟨gl, 0, none⟩) 1 1) (h : Own w S 23 3 v n xs) (hl : w.heap[gl]? = some (.cells cs.toArray 23 (0, 0))) (hc : cs.length = 3) (h1 : ∀ u ∈ cs, u.oneCell' = true) (hn : n ≤ 1000000)
    (hk : ∀ v' w', Own w' (Nw S w) 23 3 v' (n + 1) (xs ++ cs) → w.grownBy w' v.ownBlock → K (a.put N v') w') : if Region.wanted oi (yielded ops a.tmps) = true then Oper.wp Try.prog oi a w K Q else K (a.put N undef) w := by
  obtain ⟨v', w', hrun, ho, hg⟩ := append23 oi.type h hl hc h1 hn
  refine value_ hw hN ?_ (hk v' w' ho hg)
  unfold execOp
  simp only [hop, resolve, invoke, builtin, Sem.run_bind, Sem.run_pure, Result.andThen_ok, List.map_toArray, List.map_cons, List.map_nil, hs, hx, hrun]
theorem size24 : (Try.prog.info? 24).map (·.size) = some 1 := by kernel_rfl
theorem sectors_calls23 (a b : Int) (s : ByteArray) (w : World) (hs : s.size ≤ 2400) :
    Calls Try.prog 142 #[.agg #[.int .i64 a, .int .i64 b, .string s]] w fun e w' => e = .returned (.int .i64 ((1 + (s.size + 6) / 64 : Nat) : Int)) ∧ Below w.heap.size w w' := by
  have hz : (strOfNums [a % 256, b % 256]).size = 2 := by rw [strOfNums_size]; rfl
  have hsz : (strOfNums [a % 256, b % 256] ++ s).size = s.size + 2 := by rw [ByteArray.size_append, hz]; omega
  refine ledger_sectors.calls a b s _ w ?_
  unfold ledger_sectors.f ledger_payload.f ledger_count.f
  rw [Option.bind_some, if_pos (by omega), Option.bind_some, Option.bind_some, hsz]
  congr 1
  have h1 : wrap64 (((s.size + 2 : Nat) : Int) + 4) = ((s.size + 6 : Nat) : Int) := by unfold wrap64; omega
  rw [h1]
  have h2 : Int.tdiv ((s.size + 6 : Nat) : Int) 64 = (((s.size + 6) / 64 : Nat) : Int) := rfl
  rw [h2]
  have h3 : wrap64 ((((s.size + 6) / 64 : Nat)) : Int) = (((s.size + 6) / 64 : Nat) : Int) := by unfold wrap64; omega
  rw [h3]
  unfold wrap64; omega
def putRel (gb : Nat) (e0 : Value) (a no : Int) (s : ByteArray) : Nat → Value → World → Prop
  | 0, v, _ => v = .pointer (some ⟨gb, 1, none⟩)
  | 1, v, _ => v = .pointer (some ⟨gb, 1, none⟩)
  | 2, v, _ => v = .pointer (some ⟨gb, 1, none⟩)
  | 3, v, _ => v = e0
  | 4, v, _ => v = .agg #[.int .i64 a, .int .i64 no, .string s]
  | 5, v, w => ∃ gl, v = .slice (some ⟨gl, 0, none⟩) 1 1 ∧ w.heap[gl]? = some (.cells [.int .i64 a, .int .i64 no, .string s].toArray 23 (0, 0))
  | 7, v, _ => v = .pointer (some ⟨gb, 1, none⟩)
  | _, _, _ => True
def putSt (gb : Nat) : Nat → Value → Prop
  | 0, v => v = .pointer (some ⟨gb, 1, none⟩)
  | 7, v => v = .pointer (some ⟨gb, 1, none⟩)
  | _, _ => True
theorem putRel_stable (gb : Nat) (e0 : Value) (a no : Int) (s : ByteArray) (j : Nat) (v : Value) (w w' : World) (h : putRel gb e0 a no s j v w) (hb : Below w.heap.size w w') : putRel gb e0 a no s j v w' := by
  revert h
  unfold putRel
  split <;> intro h <;> first | exact h | (obtain ⟨gl, h1, h2⟩ := h; exact ⟨gl, h1, (hb.block gl (blk_lt h2)).trans h2⟩)
theorem putRel_st (gb : Nat) (e0 : Value) (a no : Int) (s : ByteArray) (j : Nat) (v : Value) (w : World) (h : putRel gb e0 a no s j v w) : putSt gb j v := by
  unfold putSt
  split <;> first | exact h | trivial
/-- Behind the append, and behind the store. -/
def PutMid (w : World) (Se : Nat → Prop) (gb gd gx : Nat) (e0 : Value) (used falls : Int) (nE : Nat) (ys : List Value) (a no : Int) (s : ByteArray) (v : Value) (W : World) : Prop :=
  BookAt W gb gd e0 used falls ∧ Own W (Nw Se w) 23 3 v nE ys ∧ Kp Se w W ∧ W.heap[gx]? = some (.cells #[.int .i64 a, .int .i64 no, .string s] 23 (0, 0))
def PutEnd (w : World) (Se : Nat → Prop) (gb gd gx : Nat) (used falls : Int) (nE : Nat) (ys : List Value) (a no : Int) (s : ByteArray) (W : World) : Prop :=
  ∃ e1, BookAt W gb gd e1 used falls ∧ Own W (Nw Se w) 23 3 e1 nE ys ∧ Kp (fun k => Se k ∨ k = gb) w W ∧ W.heap[gx]? = some (.cells #[.int .i64 a, .int .i64 no, .string s] 23 (0, 0))
theorem PutMid.store {w W : World} {Se : Nat → Prop} {gb gd gx nE : Nat} {e0 v : Value} {used falls a no : Int} {ys : List Value} {s : ByteArray} (h : PutMid w Se gb gd gx e0 used falls nE ys a no s v W) :
    PutEnd w Se gb gd gx used falls nE ys a no s (W.setCell ⟨gb, 1, none⟩ v) := by
  obtain ⟨h1, h2, h3, h4⟩ := h
  have h1' : W.heap[gb]? = some (.cells (bookCells e0 used gd falls) 95 (0, 0)) := h1
  refine ⟨v, ?_, h2.setCell (h2.type_ne h1' (by decide)) v, (h3.mono fun k hk => .inl hk).setCell (.inl (.inr rfl)) v, ?_⟩
  · unfold BookAt
    rw [blk_set h1']
    rfl
  · refine (Below.heap_setCell _ _ _ _ (fun e => ?_)).trans h4
    rw [e] at h4
    simp only at h4
    rw [h1'] at h4
    injection h4 with h4
    injection h4 with _ h4 _
    cases h4
def put5Rel (gb cnt : Nat) (used a no : Int) (s : ByteArray) : Nat → Value → World → Prop
  | 0, v, _ => v = .pointer (some ⟨gb, 0, none⟩)
  | 1, v, _ => v = .pointer (some ⟨gb, 0, none⟩)
  | 2, v, _ => v = .pointer (some ⟨gb, 9, none⟩)
  | 3, v, _ => v = .int .i64 used
  | 4, v, _ => v = .agg #[.int .i64 a, .int .i64 no, .string s]
  | 5, v, _ => v = .int .i64 (cnt : Int)
  | 6, v, _ => v = .int .i64 (used + (cnt : Int))
  | 7, v, _ => v = .pointer (some ⟨gb, 0, none⟩)
  | 8, v, _ => v = .pointer (some ⟨gb, 9, none⟩)
  | _, _, _ => True
theorem size3 : (Try.prog.info? 3).map (·.size) = some 1 := by kernel_rfl
set_option maxRecDepth 100000 in
theorem store3_ {ops : Array Oper} {Q : Exit → Act → World → Prop} {oi : Oper} {a : Act} {w : World} {K : Act → World → Prop} {g i : Nat} {y : Int} {x p : Operand} {u : Value} (hw : Region.wanted oi (yielded ops a.tmps) = true) (hN : oi.dst = none) (hop : oi.op = .store 3 p x) (hp : a.eval p = .pointer (some ⟨g, i, none⟩)) (hx : a.eval x = .int .i64 y) (hc : w.cell? ⟨g, i, none⟩ = some u) (hf : w.frozen? ⟨g, i, none⟩ = false)
    (hk : K a (w.setCell ⟨g, i, none⟩ (.int .i64 y))) : if Region.wanted oi (yielded ops a.tmps) = true then Oper.wp Try.prog oi a w K Q else K (a.put none undef) w := by
  refine skip_ hw hN ?_ hk
  unfold execOp
  simp only [hop, hp, hx]
  go_simp
theorem PutEnd.store {w W W1 : World} {Se : Nat → Prop} {gb gd gx nE : Nat} {used falls a no : Int} {ys : List Value} {s : ByteArray} (h : PutEnd w Se gb gd gx used falls nE ys a no s W) (hB : Below W.heap.size W W1) (y : Int) :
    ∃ e1, BookAt (W1.setCell ⟨gb, 9, none⟩ (.int .i64 y)) gb gd e1 y falls ∧ Own (W1.setCell ⟨gb, 9, none⟩ (.int .i64 y)) (Nw Se w) 23 3 e1 nE ys ∧ Kp (fun k => Se k ∨ k = gb) w (W1.setCell ⟨gb, 9, none⟩ (.int .i64 y)) := by
  obtain ⟨e1, h1, h2, h3, h4⟩ := h
  have h1' : W1.heap[gb]? = some (.cells (bookCells e1 used gd falls) 95 (0, 0)) := h1.below hB
  refine ⟨e1, ?_, (own_later h2 hB).setCell ((own_later h2 hB).type_ne h1' (by decide)) _, (h3.below hB).setCell (.inl (.inr rfl)) _⟩
  unfold BookAt
  rw [blk_set h1']
  rfl
set_option maxHeartbeats 8000000 in
set_option maxRecDepth 100000 in
theorem putA_calls (w : World) (Se : Nat → Prop) (gb gd nE : Nat) (e0 : Value) (used falls : Int) (xs : List Value) (s : ByteArray) (hb : BookAt w gb gd e0 used falls) (ho : Own w Se 23 3 e0 nE xs) (hn : nE ≤ 60) (hs : s.size ≤ 2400) (hu : 0 ≤ used) (hu2 : used ≤ 4096) (hSe : ∀ k, Se k → k < w.heap.size) :
    Calls Try.prog 144 #[.pointer (some ⟨gb, 0, none⟩), .agg #[.int .i64 0, .int .i64 (nE : Int), .string s]] w fun e w' => e = .returned (.tuple #[]) ∧ ∃ e1, BookAt w' gb gd e1 (used + ((1 + (s.size + 6) / 64 : Nat) : Int)) falls ∧ Own w' (Nw Se w) 23 3 e1 (nE + 1) (xs ++ [.int .i64 0, .int .i64 (nE : Int), .string s]) ∧ Kp (fun k => Se k ∨ k = gb) w w' := by
  obtain ⟨A, c, rfl⟩ := ho.slice
  have hlt := blk_lt hb
  have hX := blk_new w (.cells #[.int .i64 0, .int .i64 (nE : Int), .string s] 23)
  have hB1 : Below w.heap.size w (w.alloc (.cells #[.int .i64 0, .int .i64 (nE : Int), .string s] 23)) := below_alloc (Below.refl _ _) _
  have c1 : (w.alloc (.cells #[.int .i64 0, .int .i64 (nE : Int), .string s] 23)).cell? ⟨gb, 1, none⟩ = some (.slice A nE c) := (blk_cell (hb.below hB1) 1).trans rfl
  have HBk := Aside0.mk (hb.below hB1)
  have HO := Aside0.mk (own_later ho hB1)
  have HX := Aside0.mk hX
  have HKp := Aside0.mk (Kp.of_below Se hB1)
  have HXne : Aside0 (¬ Se w.heap.size) := Aside0.mk fun h => Nat.lt_irrefl _ (hSe _ h)
  have HN : Aside0 (nE ≤ 1000000) := Aside0.mk (by omega)
  clear hb ho hX hB1 hSe
  go_enter Try.func144, Try.ntmps144
  go_wp2
  go_region
  all_goals go_wp2
  all_goals (try go_region)
  all_goals go_wp2
  generalize hWW : (w.alloc (.cells #[.int .i64 0, .int .i64 (nE : Int), .string s] 23)).drew.drew = W0
  have hb2 : Below (w.alloc (.cells #[.int .i64 0, .int .i64 (nE : Int), .string s] 23)).heap.size (w.alloc (.cells #[.int .i64 0, .int .i64 (nE : Int), .string s] 23)) W0 := by rw [← hWW]; exact below_drew (below_drew (Below.refl _ _))
  have HBk' := Aside0.mk (HBk.out.below hb2)
  have HO' := Aside0.mk (own_later HO.out hb2)
  have HX' := Aside0.mk ((hb2.block _ (blk_lt HX.out)).trans HX.out)
  have HKp' := Aside0.mk (HKp.out.below hb2)
  clear HBk HO HX HKp hb2 hWW c1
  have HBk := HBk'
  have HO := HO'
  have HX := HX'
  have HKp := HKp'
  clear HBk' HO' HX' HKp'
  refine rg4_ 6 8 [0, 1, 2, 3, 4, 5, 6, 7, 8] [0, 7] [(0, 18), (1, 19), (2, 20), (3, 21), (4, 22), (5, 23), (6, 24), (7, 25)] (bitsOf (rtab .any (opsOf Try.f144 3)).2) (putRel gb (.slice A nE c) 0 (nE : Int) s) (putSt gb) (PutMid w Se gb gd (w.heap.size) (.slice A nE c) used falls (nE + 1) (xs ++ [.int .i64 0, .int .i64 (nE : Int), .string s]) 0 (nE : Int) s) (fun _ W => PutEnd w Se gb gd (w.heap.size) used falls (nE + 1) (xs ++ [.int .i64 0, .int .i64 (nE : Int), .string s]) 0 (nE : Int) s W) (by kernel_rfl) rfl (by kernel_rfl) rfl (by kernel_rfl) (putRel_stable _ _ _ _ _) (putRel_st _ _ _ _ _) ?steps ?h1 ?h2 ?rend
  case steps =>
    refine steps4_loose rfl (fun a1 w1 hn hd => ⟨_, rfl, fun K hK => ?_⟩) ?_
    · have e4 := eval_of ((hn 4 rfl).trans rfl)
      refine value_ (v := .pointer (some ⟨gb, 1, none⟩)) (w1 := w1) rfl rfl ?_ (hK _ (fun _ => rfl))
      clear hd hn hK
      simp only [execOp, Option.map_some, Option.map_none, List.map_toArray, List.map_cons, List.map_nil, List.getElem_toArray, List.getElem_cons_zero, List.getElem_cons_succ, e4]
      clear e4
      go_simp
    refine steps4_cons rfl (fun a1 w1 hB hsz hdf hn hd => ⟨_, rfl, fun K hK => ?_⟩) ?_
    · have e4 := eval_of ((hn 4 rfl).trans rfl)
      refine value_ (v := .pointer (some ⟨gb, 1, none⟩)) (w1 := w1) rfl rfl ?_ (hK _ _ (Below.refl _ _) rfl)
      clear hd hn hK
      simp only [execOp, Option.map_some, Option.map_none, List.map_toArray, List.map_cons, List.map_nil, List.getElem_toArray, List.getElem_cons_zero, List.getElem_cons_succ, e4]
      clear e4
      go_simp
    refine steps4_cons rfl (fun a1 w1 hB hsz hdf hn hd => ⟨_, rfl, fun K hK => ?_⟩) ?_
    · obtain ⟨v19, h19, rfl⟩ := hd 1 19 rfl (by kernel_rfl)
      have e19 := eval_of h19
      clear h19
      refine value_ (v := .pointer (some ⟨gb, 1, none⟩)) (w1 := w1) rfl rfl ?_ (hK _ _ (Below.refl _ _) rfl)
      clear hd hn hK
      simp only [execOp, Option.map_some, Option.map_none, List.map_toArray, List.map_cons, List.map_nil, List.getElem_toArray, List.getElem_cons_zero, List.getElem_cons_succ, e19]
      clear e19
      go_simp
    refine steps4_cons rfl (fun a1 w1 hB hsz hdf hn hd => ⟨_, rfl, fun K hK => ?_⟩) ?_
    · obtain ⟨v20, h20, rfl⟩ := hd 2 20 rfl (by kernel_rfl)
      have e20 := eval_of h20
      clear h20
      refine value_ (v := .slice A nE c) (w1 := w1) rfl rfl ?_ (hK _ _ (Below.refl _ _) rfl)
      clear hd hn hK
      simp only [execOp, Option.map_some, Option.map_none, List.map_toArray, List.map_cons, List.map_nil, List.getElem_toArray, List.getElem_cons_zero, List.getElem_cons_succ, e20]
      clear e20
      have hq : w1.cell? ⟨gb, 1, none⟩ = some (.slice A nE c) := (blk_cell (HBk.out.below hB) 1).trans rfl
      clear hB
      go_simp
    refine steps4_cons rfl (fun a1 w1 hB hsz hdf hn hd => ⟨_, rfl, fun K hK => ?_⟩) ?_
    · have e3 := eval_of ((hn 3 rfl).trans rfl)
      refine value_ (v := .agg #[.int .i64 0, .int .i64 (nE : Int), .string s]) (w1 := w1) rfl rfl ?_ (hK _ _ (Below.refl _ _) rfl)
      clear hd hn hK
      simp only [execOp, Option.map_some, Option.map_none, List.map_toArray, List.map_cons, List.map_nil, List.getElem_toArray, List.getElem_cons_zero, List.getElem_cons_succ, e3]
      clear e3
      have hbx := (hB.block w.heap.size (blk_lt HX.out)).trans HX.out
      have hx0 : w1.cell? ⟨w.heap.size, 0, none⟩ = some (.int .i64 0) := (blk_cell hbx 0).trans rfl
      have hx1 : w1.cell? ⟨w.heap.size, 1, none⟩ = some (.int .i64 (nE : Int)) := (blk_cell hbx 1).trans rfl
      have hx2 : w1.cell? ⟨w.heap.size, 2, none⟩ = some (.string s) := (blk_cell hbx 2).trans rfl
      clear hB hbx
      go_simp
    refine steps4_cons rfl (fun a1 w1 hB hsz hdf hn hd => ⟨_, rfl, fun K hK => ?_⟩) ?_
    · obtain ⟨v22, h22, rfl⟩ := hd 4 22 rfl (by kernel_rfl)
      have e22 := eval_of h22
      clear h22
      refine value_ (v := .slice (some ⟨w1.heap.size, 0, none⟩) 1 1) (w1 := w1.alloc (.cells [.int .i64 0, .int .i64 (nE : Int), .string s].toArray 23)) rfl rfl ?_ (hK _ _ (below_alloc (Below.refl _ _) _) ⟨_, rfl, blk_new _ _⟩)
      clear hd hn hK
      simp only [execOp, Option.map_some, Option.map_none, List.map_toArray, List.map_cons, List.map_nil, List.getElem_toArray, List.getElem_cons_zero, List.getElem_cons_succ, e22]
      clear e22
      go_simp
    refine steps4_m1 ?_
    refine steps4_loose rfl (fun a1 w1 hn hd => ⟨_, rfl, fun K hK => ?_⟩) ?_
    · obtain ⟨v18, h18, rfl⟩ := hd 0 18 rfl (by kernel_rfl)
      have e18 := eval_of h18
      clear h18
      refine value_ (v := .pointer (some ⟨gb, 1, none⟩)) (w1 := w1) rfl rfl ?_ (hK _ (fun _ => rfl))
      clear hd hn hK
      simp only [execOp, Option.map_some, Option.map_none, List.map_toArray, List.map_cons, List.map_nil, List.getElem_toArray, List.getElem_cons_zero, List.getElem_cons_succ, e18]
      clear e18
      go_simp
    refine steps4_m2 ?_
    exact steps4_nil
  case h1 =>
    intro a1 w1 hB hn hd
    obtain ⟨v21, h21, q21⟩ := hd 3 21 rfl (by kernel_rfl)
    obtain ⟨v23, h23, gl, rfl, hgl⟩ := hd 5 23 rfl (by kernel_rfl)
    have e21 : v21 = .slice A nE c := q21
    subst e21
    have e1 := eval_of h21
    have e2 := eval_of h23
    refine ⟨_, rfl, fun K hK => ?_⟩
    refine append23_ rfl rfl rfl e1 e2 (own_later HO.out hB) hgl rfl (by intro u hu; simp only [List.mem_cons, List.not_mem_nil, or_false] at hu; rcases hu with rfl | rfl | rfl <;> rfl) HN.out (fun v' w' hown hg => ?_)
    refine hK _ _ ⟨?_, hown.mono fun k hk => hk.elim (fun h => .inl h) (fun h => .inr (Nat.le_trans HKp.out.size (Nat.le_trans hB.size h))), (HKp.out.below hB).of_grown hg (fun k e => .inl (HO.out.2 k e)), ?_⟩
    · have hbb := HBk.out.below hB
      exact (hg.block gb (blk_lt hbb) (fun e => (own_later HO.out hB).type_ne hbb (by decide) e.symm)).trans hbb
    · have hbx := (hB.block w.heap.size (blk_lt HX.out)).trans HX.out
      exact (hg.block w.heap.size (blk_lt hbx) (fun e => HXne.out (HO.out.2 _ e.symm))).trans hbx
  case h2 =>
    intro a1 w1 hn hd hp
    obtain ⟨v25, h25, q25⟩ := hd 7 25 rfl (by kernel_rfl)
    have e25 : v25 = .pointer (some ⟨gb, 1, none⟩) := q25
    subst e25
    obtain ⟨v', hp1, ht⟩ := hp
    have e1 := eval_of h25
    have e2 := eval_of (ht 24 rfl)
    refine ⟨_, rfl, fun K hK => ?_⟩
    obtain ⟨A', c', rfl⟩ := hp1.2.1.slice
    exact store_ rfl rfl rfl e1 e2 ((blk_cell hp1.1 1).trans rfl) (blk_frozen hp1.1 1) Try.underlying24 size24 (hK undef _ hp1.store)
  case rend =>
    intro vals w1 hp _
    simp only [fill, Act.put, List.setIfInBounds_toArray, List.set_cons_zero, List.set_cons_succ]
    have HP := Aside0.mk hp
    clear hp
    go_wp2
    obtain ⟨e1, hB1, hO1, hK1, hX1⟩ := HP.out
    refine rg5_ 9 [0, 1, 2, 3, 4, 5, 6, 7, 8, 9] [(0, 33), (1, 34), (2, 35), (3, 36), (4, 37), (5, 38), (6, 39), (7, 40), (8, 41)] (bitsOf (rtab .any (opsOf Try.f144 5)).2) (put5Rel gb (1 + (s.size + 6) / 64) used 0 (nE : Int) s) (fun _ W => ∃ e1, BookAt W gb gd e1 (used + ((1 + (s.size + 6) / 64 : Nat) : Int)) falls ∧ Own W (Nw Se w) 23 3 e1 (nE + 1) (xs ++ [.int .i64 0, .int .i64 (nE : Int), .string s]) ∧ Kp (fun k => Se k ∨ k = gb) w W) (by kernel_rfl) rfl (by kernel_rfl) rfl (by kernel_rfl) (fun j v w w' h _ => by revert h; unfold put5Rel; split <;> exact id) ?steps5 ?h15 ?rend5
    case steps5 =>
      refine steps5_cons (fun a1 w2 hB hsz hdf hn hd => ⟨_, rfl, fun K hK => ?_⟩) ?_
      · have e0 := eval_of ((hn 0 rfl).trans rfl)
        refine value_ (v := .pointer (some ⟨gb, 0, none⟩)) (w1 := w2) rfl rfl ?_ (hK _ _ (Below.refl _ _) rfl)
        clear hd hn hK
        simp only [execOp, Option.map_some, Option.map_none, List.map_toArray, List.map_cons, List.map_nil, List.getElem_toArray, List.getElem_cons_zero, List.getElem_cons_succ, e0]
        clear e0
        go_simp
      refine steps5_cons (fun a1 w2 hB hsz hdf hn hd => ⟨_, rfl, fun K hK => ?_⟩) ?_
      · obtain ⟨v33, h33, rfl⟩ := hd 0 33 rfl (by kernel_rfl)
        have e33 := eval_of h33
        clear h33
        refine value_ (v := .pointer (some ⟨gb, 0, none⟩)) (w1 := w2) rfl rfl ?_ (hK _ _ (Below.refl _ _) rfl)
        clear hd hn hK
        simp only [execOp, Option.map_some, Option.map_none, List.map_toArray, List.map_cons, List.map_nil, List.getElem_toArray, List.getElem_cons_zero, List.getElem_cons_succ, e33]
        clear e33
        go_simp
      refine steps5_cons (fun a1 w2 hB hsz hdf hn hd => ⟨_, rfl, fun K hK => ?_⟩) ?_
      · obtain ⟨v34, h34, rfl⟩ := hd 1 34 rfl (by kernel_rfl)
        have e34 := eval_of h34
        clear h34
        refine value_ (v := .pointer (some ⟨gb, 9, none⟩)) (w1 := w2) rfl rfl ?_ (hK _ _ (Below.refl _ _) rfl)
        clear hd hn hK
        simp only [execOp, Option.map_some, Option.map_none, List.map_toArray, List.map_cons, List.map_nil, List.getElem_toArray, List.getElem_cons_zero, List.getElem_cons_succ, e34]
        clear e34
        go_simp
      refine steps5_cons (fun a1 w2 hB hsz hdf hn hd => ⟨_, rfl, fun K hK => ?_⟩) ?_
      · obtain ⟨v35, h35, rfl⟩ := hd 2 35 rfl (by kernel_rfl)
        have e35 := eval_of h35
        clear h35
        refine value_ (v := .int .i64 used) (w1 := w2) rfl rfl ?_ (hK _ _ (Below.refl _ _) rfl)
        clear hd hn hK
        simp only [execOp, Option.map_some, Option.map_none, List.map_toArray, List.map_cons, List.map_nil, List.getElem_toArray, List.getElem_cons_zero, List.getElem_cons_succ, e35]
        clear e35
        have hq : w2.cell? ⟨gb, 9, none⟩ = some (.int .i64 used) := (blk_cell (hB1.below hB) 9).trans rfl
        clear hB
        go_simp
      refine steps5_cons (fun a1 w2 hB hsz hdf hn hd => ⟨_, rfl, fun K hK => ?_⟩) ?_
      · have e3 := eval_of ((hn 3 rfl).trans rfl)
        refine value_ (v := .agg #[.int .i64 0, .int .i64 (nE : Int), .string s]) (w1 := w2) rfl rfl ?_ (hK _ _ (Below.refl _ _) rfl)
        clear hd hn hK
        simp only [execOp, Option.map_some, Option.map_none, List.map_toArray, List.map_cons, List.map_nil, List.getElem_toArray, List.getElem_cons_zero, List.getElem_cons_succ, e3]
        clear e3
        have hbx := (hB.block _ (blk_lt hX1)).trans hX1
        have hx0 : w2.cell? ⟨w.heap.size, 0, none⟩ = some (.int .i64 0) := (blk_cell hbx 0).trans rfl
        have hx1 : w2.cell? ⟨w.heap.size, 1, none⟩ = some (.int .i64 (nE : Int)) := (blk_cell hbx 1).trans rfl
        have hx2 : w2.cell? ⟨w.heap.size, 2, none⟩ = some (.string s) := (blk_cell hbx 2).trans rfl
        clear hB hbx
        go_simp
      refine steps5_cons (fun a1 w2 hB hsz hdf hn hd => ⟨_, rfl, fun K hK => ?_⟩) ?_
      · obtain ⟨v37, h37, rfl⟩ := hd 4 37 rfl (by kernel_rfl)
        have e37 := eval_of h37
        clear h37
        refine goes_ Try.func142 (by kernel_rfl) rfl #[.agg #[.int .i64 0, .int .i64 (nE : Int), .string s]] (by rfl) rfl rfl (by simp only [List.map_toArray, List.map_cons, List.map_nil, e37]) ?_
        refine (sectors_calls23 0 (nE : Int) s _ hs).mono ?_
        rintro e w3 ⟨rfl, hbw⟩
        exact ⟨_, rfl, hK _ _ hbw rfl⟩
      refine steps5_cons (fun a1 w2 hB hsz hdf hn hd => ⟨_, rfl, fun K hK => ?_⟩) ?_
      · obtain ⟨v36, h36, rfl⟩ := hd 3 36 rfl (by kernel_rfl)
        have e36 := eval_of h36
        clear h36
        obtain ⟨v38, h38, rfl⟩ := hd 5 38 rfl (by kernel_rfl)
        have e38 := eval_of h38
        clear h38
        refine value_ (v := .int .i64 (used + ((1 + (s.size + 6) / 64 : Nat) : Int))) (w1 := w2) rfl rfl ?_ (hK _ _ (Below.refl _ _) rfl)
        clear hd hn hK
        simp only [execOp, Option.map_some, Option.map_none, List.map_toArray, List.map_cons, List.map_nil, List.getElem_toArray, List.getElem_cons_zero, List.getElem_cons_succ, e36, e38]
        clear e36 e38
        have hq : IntKind.i64.wrap (used + ((1 + (s.size + 6) / 64 : Nat) : Int)) = used + ((1 + (s.size + 6) / 64 : Nat) : Int) := by rw [i64_w]; unfold wrap64; omega
        generalize ((1 + (s.size + 6) / 64 : Nat) : Int) = cc at hq ⊢
        clear hB
        go_simp
      refine steps5_cons (fun a1 w2 hB hsz hdf hn hd => ⟨_, rfl, fun K hK => ?_⟩) ?_
      · obtain ⟨v33, h33, rfl⟩ := hd 0 33 rfl (by kernel_rfl)
        have e33 := eval_of h33
        clear h33
        refine value_ (v := .pointer (some ⟨gb, 0, none⟩)) (w1 := w2) rfl rfl ?_ (hK _ _ (Below.refl _ _) rfl)
        clear hd hn hK
        simp only [execOp, Option.map_some, Option.map_none, List.map_toArray, List.map_cons, List.map_nil, List.getElem_toArray, List.getElem_cons_zero, List.getElem_cons_succ, e33]
        clear e33
        go_simp
      refine steps5_cons (fun a1 w2 hB hsz hdf hn hd => ⟨_, rfl, fun K hK => ?_⟩) ?_
      · obtain ⟨v40, h40, rfl⟩ := hd 7 40 rfl (by kernel_rfl)
        have e40 := eval_of h40
        clear h40
        refine value_ (v := .pointer (some ⟨gb, 9, none⟩)) (w1 := w2) rfl rfl ?_ (hK _ _ (Below.refl _ _) rfl)
        clear hd hn hK
        simp only [execOp, Option.map_some, Option.map_none, List.map_toArray, List.map_cons, List.map_nil, List.getElem_toArray, List.getElem_cons_zero, List.getElem_cons_succ, e40]
        clear e40
        go_simp
      refine steps5_m ?_
      exact steps5_nil
    case h15 =>
      intro a1 w2 hB hn hd
      obtain ⟨v39, h39, q39⟩ := hd 6 39 rfl (by kernel_rfl)
      have e39 : v39 = .int .i64 (used + ((1 + (s.size + 6) / 64 : Nat) : Int)) := q39
      subst e39
      obtain ⟨v41, h41, q41⟩ := hd 8 41 rfl (by kernel_rfl)
      have e41 : v41 = .pointer (some ⟨gb, 9, none⟩) := q41
      subst e41
      refine ⟨_, rfl, fun K hK => ?_⟩
      exact store3_ rfl rfl rfl (eval_of h41) (eval_of h39) ((blk_cell (hB1.below hB) 9).trans rfl) (blk_frozen (hB1.below hB) 9) (hK undef _ (HP.out.store hB _))
    case rend5 =>
      intro vals2 w2 hp2
      simp only [fill, Act.put, List.setIfInBounds_toArray, List.set_cons_zero, List.set_cons_succ]
      have HP2 := Aside0.mk hp2
      clear hp2
      go_wp2
      go_end0
      exact ⟨rfl, HP2.out⟩
end Go.Proofs.Ytkedodmlbepfnaa.Lg

-- from the working text Bw
set_option linter.unusedSimpArgs false
set_option linter.unusedVariables false
namespace Go.Proofs.Ytkedodmlbepfnaa.Lg
open Go.RowKit Go.Proofs.YtkedodmlbepfnaaW.PrintWords Go.Proofs.YtkedodmlbepfnaaW.PrintLast Go.Proofs.YtkedodmlbepfnaaW.PrintMore Go.Proofs.Ytkedodmlbepfnaa.Rg
/-- A block of a disk's. -/
def TY (w : World) (k : Nat) : Prop := ∃ cs t z, w.heap[k]? = some (.cells cs t z) ∧ (t = 115 ∨ t = 122 ∨ t = 124)
theorem TY.not {w : World} {k : Nat} {cs : Array Value} {t : TypeId} {z : Nat × Nat} (h : w.heap[k]? = some (.cells cs t z)) (h1 : t ≠ 115) (h2 : t ≠ 122) (h3 : t ≠ 124) : ¬ TY w k := by
  rintro ⟨cs', t', z', h', ht⟩
  rw [h] at h'
  injection h' with h'
  injection h' with _ h' _
  subst h'
  rcases ht with ht | ht | ht
  · exact h1 ht
  · exact h2 ht
  · exact h3 ht
theorem Own.typed {w : World} {S : Nat → Prop} {e : TypeId} {size n : Nat} {v : Value} {xs : List Value} (h : Own w S e size v n xs) (he : e = 115 ∨ e = 122 ∨ e = 124) : Own w (fun i => S i ∧ TY w i) e size v n xs := by
  refine ⟨h.1, fun k hk => ⟨h.2 k hk, ?_⟩⟩
  obtain ⟨c, hc⟩ := own_typed h.1 k hk
  exact ⟨_, _, _, hc, he⟩
theorem GD.typed {w : World} {S : Nat → Prop} {g n k : Nat} {f : Int} (h : GD w S g n f k) : GD w (fun i => S i ∧ TY w i) g n f k := by
  obtain ⟨d, vs, vn, vw, ⟨h1, h2, h3, h4, h5, h6, h7⟩, hr⟩ := h
  exact ⟨d, vs, vn, vw, ⟨h1, ⟨h2, _, _, _, h3, .inl rfl⟩, h3, h4.typed (.inr (.inl rfl)), h5.typed (.inr (.inl rfl)), h6.typed (.inr (.inr rfl)), h7⟩, hr⟩
/-- The one block of a row. -/
theorem Own.exact {w : World} {S : Nat → Prop} {e : TypeId} {size n : Nat} {v : Value} {xs : List Value} (h : Own w S e size v n xs) : Own w (fun k => v.ownBlock = some k) e size v n xs := ⟨h.1, fun _ hk => hk⟩
/-- A book with its disk and its first office's entries, all newer than base. -/
def BK (base : Nat) (w : World) (gb gd n : Nat) (e0 : Value) (used f : Int) (nE : Nat) (xs : List Value) (k : Nat) : Prop :=
  base ≤ gb ∧ BookAt w gb gd e0 used f ∧ GD w (fun i => base ≤ i) gd n f k ∧ Own w (fun i => base ≤ i) 23 3 e0 nE xs
theorem BK.below {base gb gd n nE k : Nat} {w w1 : World} {e0 : Value} {used f : Int} {xs : List Value} (h : BK base w gb gd n e0 used f nE xs k) (hb : Below w.heap.size w w1) : BK base w1 gb gd n e0 used f nE xs k :=
  ⟨h.1, h.2.1.below hb, h.2.2.1.below hb, own_later h.2.2.2 hb⟩
/-- What is neither a disk's nor a book's nor entries stands. -/
def Kv (w W : World) : Prop := ∀ (k : Nat) (cs : Array Value) (t : TypeId), t ≠ 115 → t ≠ 122 → t ≠ 124 → t ≠ 23 → t ≠ 95 → w.heap[k]? = some (Obj.cells cs t (0, 0)) → W.heap[k]? = some (Obj.cells cs t (0, 0))
theorem Kv.of_below {w W : World} (h : Below w.heap.size w W) : Kv w W := fun k cs t _ _ _ _ _ hk => (h.block k (blk_lt hk)).trans hk
theorem Kv.trans {w W W' : World} (h : Kv w W) (h' : Kv W W') : Kv w W' := fun k cs t a b c d e hk => h' k cs t a b c d e (h k cs t a b c d e hk)
/-- A record is written. -/
theorem BK.record {base gb gd n nE k : Nat} {w : World} {e0 : Value} {used : Nat} {f a b : Int} {xs : List Value} (h : BK base w gb gd n e0 used f nE xs k) (hbase : base ≤ w.heap.size) (s : ByteArray) (hf : f ≤ 1000000) (hn : n ≤ 4096) (hk : k ≤ 100) (hs : s.size ≤ 2400) (hat : used + 1 + (s.size + 6) / 64 ≤ n) :
    Calls Try.prog 143 #[.pointer (some ⟨gd, 0, none⟩), .int .i64 (used : Int), .agg #[.int .i64 a, .int .i64 b, .string s]] w fun e w' => e = .returned (.tuple #[]) ∧ BK base w' gb gd n e0 used f nE xs 0 ∧ Below base w w' ∧ (∀ (k : Nat) (cs : Array Value), w.heap[k]? = some (Obj.cells cs 23 (0, 0)) → w'.heap[k]? = some (Obj.cells cs 23 (0, 0))) ∧ Kv w w' := by
  obtain ⟨h1, h2, h3, h4⟩ := h
  have h2' : w.heap[gb]? = some (.cells (bookCells e0 used gd f) 95 (0, 0)) := h2
  refine (record_calls w _ gd n k used f a b s h3.typed hf hn hk hs hat).mono ?_
  rintro e w' ⟨rfl, hd, hkp⟩
  refine ⟨rfl, ⟨h1, (hkp.block gb (blk_lt h2') (fun h => TY.not h2' (by decide) (by decide) (by decide) h.2)).trans h2', hd.mono fun i hi => hi.elim (fun h => h.1) (fun h => Nat.le_trans hbase h), ?_⟩, hkp.to_below (fun i hi => hi.1) hbase, fun k cs hcs => (hkp.block k (blk_lt hcs) (fun h => TY.not hcs (by decide) (by decide) (by decide) h.2)).trans hcs, fun k cs t a b c _ _ h => (hkp.block k (blk_lt h) (fun hS => TY.not h a b c hS.2)).trans h⟩
  refine (h4.exact.kp hkp fun i hi hlt hS => ?_).mono fun i hi => h4.2 i hi
  obtain ⟨c, hc⟩ := own_typed h4.1 i hi
  exact TY.not hc (by decide) (by decide) (by decide) hS.2
/-- An entry is laid behind the others. -/
theorem BK.putA {base gb gd n nE k : Nat} {w : World} {e0 : Value} {used f : Int} {xs : List Value} (h : BK base w gb gd n e0 used f nE xs k) (hbase : base ≤ w.heap.size) (s : ByteArray) (hn : nE ≤ 60) (hs : s.size ≤ 2400) (hu : 0 ≤ used) (hu2 : used ≤ 4096) :
    Calls Try.prog 144 #[.pointer (some ⟨gb, 0, none⟩), .agg #[.int .i64 0, .int .i64 (nE : Int), .string s]] w fun e w' => e = .returned (.tuple #[]) ∧ ∃ e1, BK base w' gb gd n e1 (used + ((1 + (s.size + 6) / 64 : Nat) : Int)) f (nE + 1) (xs ++ [.int .i64 0, .int .i64 (nE : Int), .string s]) k ∧ Below base w w' ∧ Kv w w' := by
  obtain ⟨h1, h2, h3, h4⟩ := h
  have h2' : w.heap[gb]? = some (.cells (bookCells e0 used gd f) 95 (0, 0)) := h2
  refine (putA_calls w _ gb gd nE e0 used f xs s h2 h4.exact hn hs hu hu2 (fun i hi => by obtain ⟨c, hc⟩ := own_typed h4.1 i hi; exact blk_lt hc)).mono ?_
  rintro e w' ⟨rfl, e1, hb, ho, hkp⟩
  have hle : ∀ i, (e0.ownBlock = some i ∨ i = gb) → base ≤ i := fun i hi => hi.elim (fun h => h4.2 i h) (fun h => h ▸ h1)
  refine ⟨rfl, e1, ⟨h1, hb, (h3.typed.kp hkp fun i hi hlt hS => ?_).mono fun i hi => hi.1, ho.mono fun i hi => hi.elim (fun h => h4.2 i h) (fun h => Nat.le_trans hbase h)⟩, hkp.to_below hle hbase, fun k cs t _ _ _ d e h => (hkp.block k (blk_lt h) (fun hS => hS.elim (fun h1 => by obtain ⟨c, hc⟩ := own_typed h4.1 k h1; rw [h] at hc; injection hc with hc; injection hc with _ hc _; exact d hc) (fun h1 => by subst h1; rw [h] at h2'; injection h2' with h2'; injection h2' with _ h2' _; exact e h2'))).trans h⟩
  rcases hS with hS | hS
  · obtain ⟨c, hc⟩ := own_typed h4.1 i hS
    exact TY.not hc (by decide) (by decide) (by decide) hi.2
  · subst hS
    exact TY.not h2' (by decide) (by decide) (by decide) hi.2
def w3Rel (gb gd : Nat) (used a no : Int) (s : ByteArray) : Nat → Value → World → Prop
  | 0, v, _ => v = .pointer (some ⟨gb, 0, none⟩)
  | 1, v, _ => v = .pointer (some ⟨gb, 0, none⟩)
  | 2, v, _ => v = .pointer (some ⟨gb, 10, none⟩)
  | 3, v, _ => v = .pointer (some ⟨gd, 0, none⟩)
  | 4, v, _ => v = .pointer (some ⟨gb, 0, none⟩)
  | 5, v, _ => v = .pointer (some ⟨gb, 0, none⟩)
  | 6, v, _ => v = .pointer (some ⟨gb, 0, none⟩)
  | 7, v, _ => v = .pointer (some ⟨gb, 9, none⟩)
  | 8, v, _ => v = .int .i64 used
  | 9, v, _ => v = .agg #[.int .i64 a, .int .i64 no, .string s]
  | _, _, _ => True
def w4Rel (gb : Nat) (a no : Int) (s : ByteArray) : Nat → Value → World → Prop
  | 0, v, _ => v = .pointer (some ⟨gb, 0, none⟩)
  | 1, v, _ => v = .pointer (some ⟨gb, 0, none⟩)
  | 2, v, _ => v = .pointer (some ⟨gb, 0, none⟩)
  | 3, v, _ => v = .agg #[.int .i64 a, .int .i64 no, .string s]
  | _, _, _ => True
set_option maxHeartbeats 8000000 in
set_option maxRecDepth 100000 in
theorem bwriteA_calls (base : Nat) (w : World) (gb gd n nE k used : Nat) (e0 : Value) (f : Int) (xs : List Value) (s : ByteArray) (h : BK base w gb gd n e0 (used : Int) f nE xs k) (hbase : base ≤ w.heap.size) (hf : f ≤ 1000000) (hn4 : n ≤ 4096) (hk : k ≤ 100) (hnE : nE ≤ 60) (hs : s.size ≤ 2400) (hat : used + 1 + (s.size + 6) / 64 ≤ n) :
    Calls Try.prog 113 #[.pointer (some ⟨gb, 0, none⟩), .agg #[.int .i64 0, .int .i64 (nE : Int), .string s]] w fun e w' => e = .returned (.tuple #[]) ∧ ∃ e1, BK base w' gb gd n e1 ((used : Int) + ((1 + (s.size + 6) / 64 : Nat) : Int)) f (nE + 1) (xs ++ [.int .i64 0, .int .i64 (nE : Int), .string s]) 0 ∧ Below base w w' ∧ Kv w w' := by
  have hB1 : Below w.heap.size w (w.alloc (.cells #[.int .i64 0, .int .i64 (nE : Int), .string s] 23)) := below_alloc (Below.refl _ _) _
  have HBK := Aside0.mk (h.below hB1)
  have HBe : Aside0 (Below base w (w.alloc (.cells #[.int .i64 0, .int .i64 (nE : Int), .string s] 23))) := Aside0.mk (hB1.mono hbase)
  have HX := Aside0.mk (blk_new w (.cells #[.int .i64 0, .int .i64 (nE : Int), .string s] 23))
  have HBs := Aside0.mk (Nat.le_trans hbase hB1.size)
  have bg : decide ((n : Int) - (used : Int) < ((1 + (s.size + 6) / 64 : Nat) : Int)) = false := by simp; omega
  have HKv := Aside0.mk (Kv.of_below hB1)
  have hur : (used : Int) ≤ (n : Int) := by omega
  clear h hB1 hbase
  generalize hgx : w.heap.size = gx at HX
  generalize hcc : ((1 + (s.size + 6) / 64 : Nat) : Int) = cc at bg
  go_enter Try.func113, Try.ntmps113
  go_wp2_with (first
    | (go_at_call 142; (with_reducible refine (sectors_calls23 _ _ _ _ hs).mono ?_); rintro e w1 ⟨rfl, hb⟩; rw [hcc]; have n1_ := Aside0.mk (HBK.out.below hb); have n2_ := Aside0.mk (HBe.out.trans (hb.mono HBs.out)); have n3_ := Aside0.mk ((hb.block _ (blk_lt HX.out)).trans HX.out); have n4_ := Aside0.mk (Nat.le_trans HBs.out hb.size); have n5_ := Aside0.mk (HKv.out.trans (Kv.of_below hb)); clear HBK HBe HX HBs HKv hb; have HBK := n1_; have HBe := n2_; have HX := n3_; have HBs := n4_; have HKv := n5_; clear n1_ n2_ n3_ n4_ n5_)
    | (go_at_call 60; have k1_ := HBK.out.2.1; have k2_ := HBK.out.2.2.1; (with_reducible refine (room_calls _ _ _ _ _ _ _ _ _ _ k1_ k2_ (Int.natCast_nonneg _) hur hn4).mono ?_); clear k1_ k2_; rintro e w1 ⟨rfl, hb⟩; have n1_ := Aside0.mk (HBK.out.below hb); have n2_ := Aside0.mk (HBe.out.trans (hb.mono HBs.out)); have n3_ := Aside0.mk ((hb.block _ (blk_lt HX.out)).trans HX.out); have n4_ := Aside0.mk (Nat.le_trans HBs.out hb.size); have n5_ := Aside0.mk (HKv.out.trans (Kv.of_below hb)); clear HBK HBe HX HBs HKv hb; have HBK := n1_; have HBe := n2_; have HX := n3_; have HBs := n4_; have HKv := n5_; clear n1_ n2_ n3_ n4_ n5_))
  refine rg5_ 10 [0, 1, 2, 3, 4, 5, 6, 7, 8, 9, 10] [(0, 10), (1, 11), (2, 12), (3, 13), (4, 14), (5, 15), (6, 16), (7, 17), (8, 18), (9, 19), (10, 20)] (bitsOf (rtab .any (opsOf Try.f113 3)).2) (w3Rel gb gd (used : Int) 0 (nE : Int) s) (fun _ W => BK base W gb gd n e0 (used : Int) f nE xs 0 ∧ Below base w W ∧ W.heap[gx]? = some (.cells #[.int .i64 0, .int .i64 (nE : Int), .string s] 23 (0, 0)) ∧ base ≤ W.heap.size ∧ Kv w W) (by kernel_rfl) rfl (by kernel_rfl) rfl (by kernel_rfl) (fun j v w w' h _ => by revert h; unfold w3Rel; split <;> exact id) ?stA ?h1A ?reA
  case stA =>
    refine steps5_cons (fun a1 w2 hB hsz hdf hn hd => ⟨_, rfl, fun K hK => ?_⟩) ?_
    · have e0 := eval_of ((hn 0 rfl).trans rfl)
      refine value_ (v := .pointer (some ⟨gb, 0, none⟩)) (w1 := w2) rfl rfl ?_ (hK _ _ (Below.refl _ _) rfl)
      clear hd hn hK
      simp only [execOp, Option.map_some, Option.map_none, List.map_toArray, List.map_cons, List.map_nil, List.getElem_toArray, List.getElem_cons_zero, List.getElem_cons_succ, e0]
      clear e0
      go_simp
    refine steps5_cons (fun a1 w2 hB hsz hdf hn hd => ⟨_, rfl, fun K hK => ?_⟩) ?_
    · obtain ⟨v10, h10, rfl⟩ := hd 0 10 rfl (by kernel_rfl)
      have e10 := eval_of h10
      clear h10
      refine value_ (v := .pointer (some ⟨gb, 0, none⟩)) (w1 := w2) rfl rfl ?_ (hK _ _ (Below.refl _ _) rfl)
      clear hd hn hK
      simp only [execOp, Option.map_some, Option.map_none, List.map_toArray, List.map_cons, List.map_nil, List.getElem_toArray, List.getElem_cons_zero, List.getElem_cons_succ, e10]
      clear e10
      go_simp
    refine steps5_cons (fun a1 w2 hB hsz hdf hn hd => ⟨_, rfl, fun K hK => ?_⟩) ?_
    · obtain ⟨v11, h11, rfl⟩ := hd 1 11 rfl (by kernel_rfl)
      have e11 := eval_of h11
      clear h11
      refine value_ (v := .pointer (some ⟨gb, 10, none⟩)) (w1 := w2) rfl rfl ?_ (hK _ _ (Below.refl _ _) rfl)
      clear hd hn hK
      simp only [execOp, Option.map_some, Option.map_none, List.map_toArray, List.map_cons, List.map_nil, List.getElem_toArray, List.getElem_cons_zero, List.getElem_cons_succ, e11]
      clear e11
      go_simp
    refine steps5_cons (fun a1 w2 hB hsz hdf hn hd => ⟨_, rfl, fun K hK => ?_⟩) ?_
    · obtain ⟨v12, h12, rfl⟩ := hd 2 12 rfl (by kernel_rfl)
      have e12 := eval_of h12
      clear h12
      refine value_ (v := .pointer (some ⟨gd, 0, none⟩)) (w1 := w2) rfl rfl ?_ (hK _ _ (Below.refl _ _) rfl)
      clear hd hn hK
      simp only [execOp, Option.map_some, Option.map_none, List.map_toArray, List.map_cons, List.map_nil, List.getElem_toArray, List.getElem_cons_zero, List.getElem_cons_succ, e12]
      clear e12
      have hq : w2.cell? ⟨gb, 10, none⟩ = some (.pointer (some ⟨gd, 0, none⟩)) := (blk_cell (HBK.out.2.1.below hB) 10).trans rfl
      clear hB
      go_simp
    refine steps5_cons (fun a1 w2 hB hsz hdf hn hd => ⟨_, rfl, fun K hK => ?_⟩) ?_
    · have e0 := eval_of ((hn 0 rfl).trans rfl)
      refine value_ (v := .pointer (some ⟨gb, 0, none⟩)) (w1 := w2) rfl rfl ?_ (hK _ _ (Below.refl _ _) rfl)
      clear hd hn hK
      simp only [execOp, Option.map_some, Option.map_none, List.map_toArray, List.map_cons, List.map_nil, List.getElem_toArray, List.getElem_cons_zero, List.getElem_cons_succ, e0]
      clear e0
      go_simp
    refine steps5_cons (fun a1 w2 hB hsz hdf hn hd => ⟨_, rfl, fun K hK => ?_⟩) ?_
    · obtain ⟨v14, h14, rfl⟩ := hd 4 14 rfl (by kernel_rfl)
      have e14 := eval_of h14
      clear h14
      refine value_ (v := .pointer (some ⟨gb, 0, none⟩)) (w1 := w2) rfl rfl ?_ (hK _ _ (Below.refl _ _) rfl)
      clear hd hn hK
      simp only [execOp, Option.map_some, Option.map_none, List.map_toArray, List.map_cons, List.map_nil, List.getElem_toArray, List.getElem_cons_zero, List.getElem_cons_succ, e14]
      clear e14
      go_simp
    refine steps5_cons (fun a1 w2 hB hsz hdf hn hd => ⟨_, rfl, fun K hK => ?_⟩) ?_
    · obtain ⟨v15, h15, rfl⟩ := hd 5 15 rfl (by kernel_rfl)
      have e15 := eval_of h15
      clear h15
      refine value_ (v := .pointer (some ⟨gb, 0, none⟩)) (w1 := w2) rfl rfl ?_ (hK _ _ (Below.refl _ _) rfl)
      clear hd hn hK
      simp only [execOp, Option.map_some, Option.map_none, List.map_toArray, List.map_cons, List.map_nil, List.getElem_toArray, List.getElem_cons_zero, List.getElem_cons_succ, e15]
      clear e15
      go_simp
    refine steps5_cons (fun a1 w2 hB hsz hdf hn hd => ⟨_, rfl, fun K hK => ?_⟩) ?_
    · obtain ⟨v16, h16, rfl⟩ := hd 6 16 rfl (by kernel_rfl)
      have e16 := eval_of h16
      clear h16
      refine value_ (v := .pointer (some ⟨gb, 9, none⟩)) (w1 := w2) rfl rfl ?_ (hK _ _ (Below.refl _ _) rfl)
      clear hd hn hK
      simp only [execOp, Option.map_some, Option.map_none, List.map_toArray, List.map_cons, List.map_nil, List.getElem_toArray, List.getElem_cons_zero, List.getElem_cons_succ, e16]
      clear e16
      go_simp
    refine steps5_cons (fun a1 w2 hB hsz hdf hn hd => ⟨_, rfl, fun K hK => ?_⟩) ?_
    · obtain ⟨v17, h17, rfl⟩ := hd 7 17 rfl (by kernel_rfl)
      have e17 := eval_of h17
      clear h17
      refine value_ (v := .int .i64 (used : Int)) (w1 := w2) rfl rfl ?_ (hK _ _ (Below.refl _ _) rfl)
      clear hd hn hK
      simp only [execOp, Option.map_some, Option.map_none, List.map_toArray, List.map_cons, List.map_nil, List.getElem_toArray, List.getElem_cons_zero, List.getElem_cons_succ, e17]
      clear e17
      have hq : w2.cell? ⟨gb, 9, none⟩ = some (.int .i64 (used : Int)) := (blk_cell (HBK.out.2.1.below hB) 9).trans rfl
      clear hB
      go_simp
    refine steps5_cons (fun a1 w2 hB hsz hdf hn hd => ⟨_, rfl, fun K hK => ?_⟩) ?_
    · have e3 := eval_of ((hn 3 rfl).trans rfl)
      refine value_ (v := .agg #[.int .i64 0, .int .i64 (nE : Int), .string s]) (w1 := w2) rfl rfl ?_ (hK _ _ (Below.refl _ _) rfl)
      clear hd hn hK
      simp only [execOp, Option.map_some, Option.map_none, List.map_toArray, List.map_cons, List.map_nil, List.getElem_toArray, List.getElem_cons_zero, List.getElem_cons_succ, e3]
      clear e3
      have hbx := (hB.block _ (blk_lt HX.out)).trans HX.out
      have hx0 : w2.cell? ⟨gx, 0, none⟩ = some (.int .i64 0) := (blk_cell hbx 0).trans rfl
      have hx1 : w2.cell? ⟨gx, 1, none⟩ = some (.int .i64 (nE : Int)) := (blk_cell hbx 1).trans rfl
      have hx2 : w2.cell? ⟨gx, 2, none⟩ = some (.string s) := (blk_cell hbx 2).trans rfl
      clear hB hbx
      go_simp
    refine steps5_m ?_
    exact steps5_nil
  case h1A =>
    intro a1 w2 hB hn hd
    obtain ⟨v13, h13, q13⟩ := hd 3 13 rfl (by kernel_rfl)
    have e13 : v13 = .pointer (some ⟨gd, 0, none⟩) := q13
    subst e13
    have e13 := eval_of h13
    obtain ⟨v18, h18, q18⟩ := hd 8 18 rfl (by kernel_rfl)
    have e18 : v18 = .int .i64 (used : Int) := q18
    subst e18
    have e18 := eval_of h18
    obtain ⟨v19, h19, q19⟩ := hd 9 19 rfl (by kernel_rfl)
    have e19 : v19 = .agg #[.int .i64 0, .int .i64 (nE : Int), .string s] := q19
    subst e19
    have e19 := eval_of h19
    refine ⟨_, rfl, fun K hK => ?_⟩
    refine goes_ Try.func143 (by kernel_rfl) rfl #[.pointer (some ⟨gd, 0, none⟩), .int .i64 (used : Int), .agg #[.int .i64 0, .int .i64 (nE : Int), .string s]] (by rfl) rfl rfl (by simp only [List.map_toArray, List.map_cons, List.map_nil, e13, e18, e19]) ?_
    refine ((HBK.out.below hB).record (Nat.le_trans HBs.out hB.size) s hf hn4 hk hs hat).mono ?_
    rintro e w5 ⟨rfl, hbk, hbe, hkeep, hkv⟩
    exact ⟨_, rfl, hK _ _ ⟨hbk, (HBe.out.trans (hB.mono HBs.out)).trans hbe, hkeep _ _ ((hB.block _ (blk_lt HX.out)).trans HX.out), Nat.le_trans (Nat.le_trans HBs.out hB.size) hbe.size, (HKv.out.trans (Kv.of_below hB)).trans hkv⟩⟩
  case reA =>
    intro vals2 w4 hp2
    simp only [fill, Act.put, List.setIfInBounds_toArray, List.set_cons_zero, List.set_cons_succ]
    clear HBK HBe HX HBs HKv
    obtain ⟨hbk4, hbe4, hx4, hbs4, hkv4⟩ := hp2
    have HKv := Aside0.mk hkv4
    have HBK := Aside0.mk hbk4
    have HBe := Aside0.mk hbe4
    have HX := Aside0.mk hx4
    have HBs := Aside0.mk hbs4
    clear hbk4 hbe4 hx4 hbs4 hkv4
    go_wp2
    refine rg5_ 4 [0, 1, 2, 3, 4] [(0, 21), (1, 22), (2, 23), (3, 24), (4, 25)] (bitsOf (rtab .any (opsOf Try.f113 4)).2) (w4Rel gb 0 (nE : Int) s) (fun _ W => ∃ e1, BK base W gb gd n e1 ((used : Int) + ((1 + (s.size + 6) / 64 : Nat) : Int)) f (nE + 1) (xs ++ [.int .i64 0, .int .i64 (nE : Int), .string s]) 0 ∧ Below base w W ∧ Kv w W) (by kernel_rfl) rfl (by kernel_rfl) rfl (by kernel_rfl) (fun j v w w' h _ => by revert h; unfold w4Rel; split <;> exact id) ?stB ?h1B ?reB
    case stB =>
      refine steps5_cons (fun a1 w2 hB hsz hdf hn hd => ⟨_, rfl, fun K hK => ?_⟩) ?_
      · have e0 := eval_of ((hn 0 rfl).trans rfl)
        refine value_ (v := .pointer (some ⟨gb, 0, none⟩)) (w1 := w2) rfl rfl ?_ (hK _ _ (Below.refl _ _) rfl)
        clear hd hn hK
        simp only [execOp, Option.map_some, Option.map_none, List.map_toArray, List.map_cons, List.map_nil, List.getElem_toArray, List.getElem_cons_zero, List.getElem_cons_succ, e0]
        clear e0
        go_simp
      refine steps5_cons (fun a1 w2 hB hsz hdf hn hd => ⟨_, rfl, fun K hK => ?_⟩) ?_
      · obtain ⟨v21, h21, rfl⟩ := hd 0 21 rfl (by kernel_rfl)
        have e21 := eval_of h21
        clear h21
        refine value_ (v := .pointer (some ⟨gb, 0, none⟩)) (w1 := w2) rfl rfl ?_ (hK _ _ (Below.refl _ _) rfl)
        clear hd hn hK
        simp only [execOp, Option.map_some, Option.map_none, List.map_toArray, List.map_cons, List.map_nil, List.getElem_toArray, List.getElem_cons_zero, List.getElem_cons_succ, e21]
        clear e21
        go_simp
      refine steps5_cons (fun a1 w2 hB hsz hdf hn hd => ⟨_, rfl, fun K hK => ?_⟩) ?_
      · obtain ⟨v22, h22, rfl⟩ := hd 1 22 rfl (by kernel_rfl)
        have e22 := eval_of h22
        clear h22
        refine value_ (v := .pointer (some ⟨gb, 0, none⟩)) (w1 := w2) rfl rfl ?_ (hK _ _ (Below.refl _ _) rfl)
        clear hd hn hK
        simp only [execOp, Option.map_some, Option.map_none, List.map_toArray, List.map_cons, List.map_nil, List.getElem_toArray, List.getElem_cons_zero, List.getElem_cons_succ, e22]
        clear e22
        go_simp
      refine steps5_cons (fun a1 w2 hB hsz hdf hn hd => ⟨_, rfl, fun K hK => ?_⟩) ?_
      · have e3 := eval_of ((hn 3 rfl).trans rfl)
        refine value_ (v := .agg #[.int .i64 0, .int .i64 (nE : Int), .string s]) (w1 := w2) rfl rfl ?_ (hK _ _ (Below.refl _ _) rfl)
        clear hd hn hK
        simp only [execOp, Option.map_some, Option.map_none, List.map_toArray, List.map_cons, List.map_nil, List.getElem_toArray, List.getElem_cons_zero, List.getElem_cons_succ, e3]
        clear e3
        have hbx := (hB.block _ (blk_lt HX.out)).trans HX.out
        have hx0 : w2.cell? ⟨gx, 0, none⟩ = some (.int .i64 0) := (blk_cell hbx 0).trans rfl
        have hx1 : w2.cell? ⟨gx, 1, none⟩ = some (.int .i64 (nE : Int)) := (blk_cell hbx 1).trans rfl
        have hx2 : w2.cell? ⟨gx, 2, none⟩ = some (.string s) := (blk_cell hbx 2).trans rfl
        clear hB hbx
        go_simp
      refine steps5_m ?_
      exact steps5_nil
    case h1B =>
      intro a1 w2 hB hn hd
      obtain ⟨v23, h23, q23⟩ := hd 2 23 rfl (by kernel_rfl)
      have e23 : v23 = .pointer (some ⟨gb, 0, none⟩) := q23
      subst e23
      have e23 := eval_of h23
      obtain ⟨v24, h24, q24⟩ := hd 3 24 rfl (by kernel_rfl)
      have e24 : v24 = .agg #[.int .i64 0, .int .i64 (nE : Int), .string s] := q24
      subst e24
      have e24 := eval_of h24
      refine ⟨_, rfl, fun K hK => ?_⟩
      refine goes_ Try.func144 (by kernel_rfl) rfl #[.pointer (some ⟨gb, 0, none⟩), .agg #[.int .i64 0, .int .i64 (nE : Int), .string s]] (by rfl) rfl rfl (by simp only [List.map_toArray, List.map_cons, List.map_nil, e23, e24]) ?_
      refine ((HBK.out.below hB).putA (Nat.le_trans HBs.out hB.size) s hnE hs (by omega) (by omega)).mono ?_
      rintro e w5 ⟨rfl, e1, hbk, hbe, hkv⟩
      exact ⟨_, rfl, hK _ _ ⟨e1, hbk, (HBe.out.trans (hB.mono HBs.out)).trans hbe, (HKv.out.trans (Kv.of_below hB)).trans hkv⟩⟩
    case reB =>
      intro vals3 w5 hp3
      simp only [fill, Act.put, List.setIfInBounds_toArray, List.set_cons_zero, List.set_cons_succ]
      have HP3 := Aside0.mk hp3
      clear hp3
      go_wp2
      go_end0
      exact ⟨rfl, hcc ▸ HP3.out⟩
end Go.Proofs.Ytkedodmlbepfnaa.Lg

-- from the working text Pb
set_option linter.unusedSimpArgs false
set_option linter.unusedVariables false
namespace Go.Proofs.Ytkedodmlbepfnaa.Lg
open Go.RowKit Go.Proofs.YtkedodmlbepfnaaW.PrintWords Go.Proofs.YtkedodmlbepfnaaW.PrintLast Go.Proofs.YtkedodmlbepfnaaW.PrintMore Go.Proofs.Ytkedodmlbepfnaa.Rg
/-- One cell of a row of one's own is written. -/
theorem Own.cell {w : World} {S : Nat → Prop} {e : TypeId} {size n g c i : Nat} {xs : List Value} (h : Own w S e size (.slice (some ⟨g, 0, none⟩) n c) n xs) (hi : i < n * size) (u : Value) : Own (w.setCell ⟨g, i, none⟩ u) S e size (.slice (some ⟨g, 0, none⟩) n c) n (xs.set i u) := by
  rcases h.1.2 with ⟨h2, _⟩ | ⟨g', cap, cur, hv, hb, hh, hnc, hcm, hcs, ht⟩
  · cases h2
  · injection hv with ha _ hc
    injection ha with ha
    injection ha with ha
    subst ha
    subst hc
    have hle : n * size ≤ cur.toList.length := by
      have := Nat.mul_le_mul_right size hnc
      rw [Array.length_toList]; omega
    have hk := h.patch (o := i) (b := [u]) hh (by simp; omega)
    rw [setCell_eq_setRow w g i cur e (0, 0) u hh]
    have e1 : (Lg.patch cur.toList i [u]).toArray = cur.setIfInBounds i u := by
      apply Array.toList_inj.1
      rw [Array.toList_setIfInBounds]
      simp only [Lg.patch, List.length_singleton, List.append_assoc, List.singleton_append]
      rw [List.set_eq_take_append_cons_drop, if_pos (by omega)]
    have e2 : Lg.patch xs i [u] = xs.set i u := by
      simp only [Lg.patch, List.length_singleton, List.append_assoc, List.singleton_append]
      rw [List.set_eq_take_append_cons_drop, if_pos (by rw [← ht, List.length_take]; omega)]
    rw [e1, e2] at hk
    exact hk
set_option maxHeartbeats 8000000 in
set_option maxRecDepth 100000 in
theorem putB_calls (w : World) (Se : Nat → Prop) (gb gd nE : Nat) (e0 : Value) (used falls : Int) (y0 y1 y2 : Value) (ys : List Value) (s : ByteArray) (hb : BookAt w gb gd e0 used falls) (ho : Own w Se 23 3 e0 nE (y0 :: y1 :: y2 :: ys)) (hn1 : 1 ≤ nE) (hn : nE ≤ 60) (hs : s.size ≤ 2400) (hu : 0 ≤ used) (hu2 : used ≤ 4096) (hSe : ∀ k, Se k → k < w.heap.size) :
    Calls Try.prog 144 #[.pointer (some ⟨gb, 0, none⟩), .agg #[.int .i64 0, .int .i64 0, .string s]] w fun e w' => e = .returned (.tuple #[]) ∧ ∃ e1, BookAt w' gb gd e1 (used + ((1 + (s.size + 6) / 64 : Nat) : Int)) falls ∧ Own w' (Nw Se w) 23 3 e1 nE (.int .i64 0 :: .int .i64 0 :: .string s :: ys) ∧ Kp (fun k => Se k ∨ k = gb) w w' := by
  obtain ⟨gE, c, cur, rfl, hSE, hcur, hnc, _, hcs, htk⟩ := ho.form hn1
  have hlt := blk_lt hb
  have hX := blk_new w (.cells #[.int .i64 0, .int .i64 0, .string s] 23)
  have hB1 : Below w.heap.size w (w.alloc (.cells #[.int .i64 0, .int .i64 0, .string s] 23)) := below_alloc (Below.refl _ _) _
  have c1 : (w.alloc (.cells #[.int .i64 0, .int .i64 0, .string s] 23)).cell? ⟨gb, 1, none⟩ = some (.slice (some ⟨gE, 0, none⟩) nE c) := (blk_cell (hb.below hB1) 1).trans rfl
  have hcell : ∀ (i : Nat) (u : Value), (y0 :: y1 :: y2 :: ys)[i]? = some u → cur[i]? = some u := by
    intro i u hi
    rw [← htk, List.getElem?_take] at hi
    split at hi
    · rw [← Array.getElem?_toList]; exact hi
    · cases hi
  have hcur1 := (hB1.block gE (blk_lt hcur)).trans hcur
  have d0 : (w.alloc (.cells #[.int .i64 0, .int .i64 0, .string s] 23)).cell? ⟨gE, 0, none⟩ = some y0 := (blk_cell hcur1 0).trans (hcell 0 y0 rfl)
  have d1 : (w.alloc (.cells #[.int .i64 0, .int .i64 0, .string s] 23)).cell? ⟨gE, 1, none⟩ = some y1 := (blk_cell hcur1 1).trans (hcell 1 y1 rfl)
  have d2 : (w.alloc (.cells #[.int .i64 0, .int .i64 0, .string s] 23)).cell? ⟨gE, 2, none⟩ = some y2 := (blk_cell hcur1 2).trans (hcell 2 y2 rfl)
  have f0 := blk_frozen hcur1 0
  have f1 := blk_frozen hcur1 1
  have f2 := blk_frozen hcur1 2
  have bE : ((0 : Int) == (nE : Int)) = false := by rw [beq_eq_false_iff_ne]; omega
  have bL : decide ((0 : Int) < (nE : Int)) = true := by simp; omega
  have hgx : gE ≠ w.heap.size := fun h => by have := blk_lt hcur; omega
  have HBk := Aside0.mk (hb.below hB1)
  have HO := Aside0.mk (own_later ho hB1)
  have HX := Aside0.mk hX
  have HKp := Aside0.mk (Kp.of_below Se hB1)
  have HS := Aside0.mk hSE
  have HN : Aside0 (1 ≤ nE) := Aside0.mk hn1
  have HCT := Aside0.mk hcur1
  clear hb ho hX hB1 hSe hcur hcell htk hcs hcur1
  go_enter Try.func144, Try.ntmps144
  go_wp2
  go_region
  all_goals go_wp2
  all_goals (try go_region)
  all_goals go_wp2
  all_goals (try go_region)
  have HP : Aside0 (PutEnd w Se gb gd w.heap.size used falls nE (.int .i64 0 :: .int .i64 0 :: .string s :: ys) 0 0 s ((((w.alloc (.cells #[.int .i64 0, .int .i64 0, .string s] 23)).setCell ⟨gE, 0, none⟩ (.int .i64 0)).setCell ⟨gE, 1, none⟩ (.int .i64 0)).setCell ⟨gE, 2, none⟩ (.string s)).drew.drew.drew) := by
    have hX0 := HX.out
    have hB0 := HBk.out
    have hne : gE ≠ gb := fun h => by
      have h1 := HCT.out
      have h2 : (w.alloc (.cells #[.int .i64 0, .int .i64 0, .string s] 23)).heap[gb]? = some (.cells (bookCells _ used gd falls) 95 (0, 0)) := hB0
      rw [h, h2] at h1
      injection h1 with h1
      injection h1 with _ h1 _
      cases h1
    have hbl : ∀ k, k ≠ gE → ((((w.alloc (.cells #[.int .i64 0, .int .i64 0, .string s] 23)).setCell ⟨gE, 0, none⟩ (.int .i64 0)).setCell ⟨gE, 1, none⟩ (.int .i64 0)).setCell ⟨gE, 2, none⟩ (.string s)).heap[k]? = (w.alloc (.cells #[.int .i64 0, .int .i64 0, .string s] 23)).heap[k]? := fun k hk =>
      (Below.heap_setCell _ ⟨gE, 2, none⟩ _ k (fun e => hk e)).trans ((Below.heap_setCell _ ⟨gE, 1, none⟩ _ k (fun e => hk e)).trans (Below.heap_setCell _ ⟨gE, 0, none⟩ _ k (fun e => hk e)))
    have hN := HN.out
    have hdr : Below ((((w.alloc (.cells #[.int .i64 0, .int .i64 0, .string s] 23)).setCell ⟨gE, 0, none⟩ (.int .i64 0)).setCell ⟨gE, 1, none⟩ (.int .i64 0)).setCell ⟨gE, 2, none⟩ (.string s)).heap.size _ ((((w.alloc (.cells #[.int .i64 0, .int .i64 0, .string s] 23)).setCell ⟨gE, 0, none⟩ (.int .i64 0)).setCell ⟨gE, 1, none⟩ (.int .i64 0)).setCell ⟨gE, 2, none⟩ (.string s)).drew.drew.drew := below_drew (below_drew (below_drew (Below.refl _ _)))
    refine Aside0.mk ⟨_, BookAt.below ((hbl gb (Ne.symm hne)).trans hB0) hdr, own_later ((((HO.out.cell (i := 0) (by omega) (.int .i64 0)).cell (i := 1) (by omega) (.int .i64 0)).cell (i := 2) (by omega) (.string s)).mono fun k hk => .inl hk) hdr, ?_, (hdr.block _ (blk_lt ((hbl _ (Ne.symm hgx)).trans hX0))).trans ((hbl _ (Ne.symm hgx)).trans hX0)⟩
    exact ((((HKp.out.setCell (p := ⟨gE, 0, none⟩) (.inl HS.out) _).setCell (p := ⟨gE, 1, none⟩) (.inl HS.out) _).setCell (p := ⟨gE, 2, none⟩) (.inl HS.out) _).mono fun k hk => .inl hk).below hdr
  revert HP
  generalize ((((w.alloc (.cells #[.int .i64 0, .int .i64 0, .string s] 23)).setCell ⟨gE, 0, none⟩ (.int .i64 0)).setCell ⟨gE, 1, none⟩ (.int .i64 0)).setCell ⟨gE, 2, none⟩ (.string s)).drew.drew.drew = W1
  intro HP
  clear HX HBk HKp HO HCT HS c1 d0 d1 d2 f0 f1 f2 bE bL
  go_wp2
  obtain ⟨e1, hB1, hO1, hK1, hX1⟩ := HP.out
  refine rg5_ 9 [0, 1, 2, 3, 4, 5, 6, 7, 8, 9] [(0, 33), (1, 34), (2, 35), (3, 36), (4, 37), (5, 38), (6, 39), (7, 40), (8, 41)] (bitsOf (rtab .any (opsOf Try.f144 5)).2) (put5Rel gb (1 + (s.size + 6) / 64) used 0 0 s) (fun _ W => ∃ e1, BookAt W gb gd e1 (used + ((1 + (s.size + 6) / 64 : Nat) : Int)) falls ∧ Own W (Nw Se w) 23 3 e1 nE (.int .i64 0 :: .int .i64 0 :: .string s :: ys) ∧ Kp (fun k => Se k ∨ k = gb) w W) (by kernel_rfl) rfl (by kernel_rfl) rfl (by kernel_rfl) (fun j v w w' h _ => by revert h; unfold put5Rel; split <;> exact id) ?steps5 ?h15 ?rend5
  case steps5 =>
    refine steps5_cons (fun a1 w2 hB hsz hdf hn hd => ⟨_, rfl, fun K hK => ?_⟩) ?_
    · have e0 := eval_of ((hn 0 rfl).trans rfl)
      refine value_ (v := .pointer (some ⟨gb, 0, none⟩)) (w1 := w2) rfl rfl ?_ (hK _ _ (Below.refl _ _) rfl)
      clear hd hn hK
      simp only [execOp, Option.map_some, Option.map_none, List.map_toArray, List.map_cons, List.map_nil, List.getElem_toArray, List.getElem_cons_zero, List.getElem_cons_succ, e0]
      clear e0
      go_simp
    refine steps5_cons (fun a1 w2 hB hsz hdf hn hd => ⟨_, rfl, fun K hK => ?_⟩) ?_
    · obtain ⟨v33, h33, rfl⟩ := hd 0 33 rfl (by kernel_rfl)
      have e33 := eval_of h33
      clear h33
      refine value_ (v := .pointer (some ⟨gb, 0, none⟩)) (w1 := w2) rfl rfl ?_ (hK _ _ (Below.refl _ _) rfl)
      clear hd hn hK
      simp only [execOp, Option.map_some, Option.map_none, List.map_toArray, List.map_cons, List.map_nil, List.getElem_toArray, List.getElem_cons_zero, List.getElem_cons_succ, e33]
      clear e33
      go_simp
    refine steps5_cons (fun a1 w2 hB hsz hdf hn hd => ⟨_, rfl, fun K hK => ?_⟩) ?_
    · obtain ⟨v34, h34, rfl⟩ := hd 1 34 rfl (by kernel_rfl)
      have e34 := eval_of h34
      clear h34
      refine value_ (v := .pointer (some ⟨gb, 9, none⟩)) (w1 := w2) rfl rfl ?_ (hK _ _ (Below.refl _ _) rfl)
      clear hd hn hK
      simp only [execOp, Option.map_some, Option.map_none, List.map_toArray, List.map_cons, List.map_nil, List.getElem_toArray, List.getElem_cons_zero, List.getElem_cons_succ, e34]
      clear e34
      go_simp
    refine steps5_cons (fun a1 w2 hB hsz hdf hn hd => ⟨_, rfl, fun K hK => ?_⟩) ?_
    · obtain ⟨v35, h35, rfl⟩ := hd 2 35 rfl (by kernel_rfl)
      have e35 := eval_of h35
      clear h35
      refine value_ (v := .int .i64 used) (w1 := w2) rfl rfl ?_ (hK _ _ (Below.refl _ _) rfl)
      clear hd hn hK
      simp only [execOp, Option.map_some, Option.map_none, List.map_toArray, List.map_cons, List.map_nil, List.getElem_toArray, List.getElem_cons_zero, List.getElem_cons_succ, e35]
      clear e35
      have hq : w2.cell? ⟨gb, 9, none⟩ = some (.int .i64 used) := (blk_cell (hB1.below hB) 9).trans rfl
      clear hB
      go_simp
    refine steps5_cons (fun a1 w2 hB hsz hdf hn hd => ⟨_, rfl, fun K hK => ?_⟩) ?_
    · have e3 := eval_of ((hn 3 rfl).trans rfl)
      refine value_ (v := .agg #[.int .i64 0, .int .i64 0, .string s]) (w1 := w2) rfl rfl ?_ (hK _ _ (Below.refl _ _) rfl)
      clear hd hn hK
      simp only [execOp, Option.map_some, Option.map_none, List.map_toArray, List.map_cons, List.map_nil, List.getElem_toArray, List.getElem_cons_zero, List.getElem_cons_succ, e3]
      clear e3
      have hbx := (hB.block _ (blk_lt hX1)).trans hX1
      have hx0 : w2.cell? ⟨w.heap.size, 0, none⟩ = some (.int .i64 0) := (blk_cell hbx 0).trans rfl
      have hx1 : w2.cell? ⟨w.heap.size, 1, none⟩ = some (.int .i64 0) := (blk_cell hbx 1).trans rfl
      have hx2 : w2.cell? ⟨w.heap.size, 2, none⟩ = some (.string s) := (blk_cell hbx 2).trans rfl
      clear hB hbx
      go_simp
    refine steps5_cons (fun a1 w2 hB hsz hdf hn hd => ⟨_, rfl, fun K hK => ?_⟩) ?_
    · obtain ⟨v37, h37, rfl⟩ := hd 4 37 rfl (by kernel_rfl)
      have e37 := eval_of h37
      clear h37
      refine goes_ Try.func142 (by kernel_rfl) rfl #[.agg #[.int .i64 0, .int .i64 0, .string s]] (by rfl) rfl rfl (by simp only [List.map_toArray, List.map_cons, List.map_nil, e37]) ?_
      refine (sectors_calls23 0 0 s _ hs).mono ?_
      rintro e w3 ⟨rfl, hbw⟩
      exact ⟨_, rfl, hK _ _ hbw rfl⟩
    refine steps5_cons (fun a1 w2 hB hsz hdf hn hd => ⟨_, rfl, fun K hK => ?_⟩) ?_
    · obtain ⟨v36, h36, rfl⟩ := hd 3 36 rfl (by kernel_rfl)
      have e36 := eval_of h36
      clear h36
      obtain ⟨v38, h38, rfl⟩ := hd 5 38 rfl (by kernel_rfl)
      have e38 := eval_of h38
      clear h38
      refine value_ (v := .int .i64 (used + ((1 + (s.size + 6) / 64 : Nat) : Int))) (w1 := w2) rfl rfl ?_ (hK _ _ (Below.refl _ _) rfl)
      clear hd hn hK
      simp only [execOp, Option.map_some, Option.map_none, List.map_toArray, List.map_cons, List.map_nil, List.getElem_toArray, List.getElem_cons_zero, List.getElem_cons_succ, e36, e38]
      clear e36 e38
      have hq : IntKind.i64.wrap (used + ((1 + (s.size + 6) / 64 : Nat) : Int)) = used + ((1 + (s.size + 6) / 64 : Nat) : Int) := by rw [i64_w]; unfold wrap64; omega
      generalize ((1 + (s.size + 6) / 64 : Nat) : Int) = cc at hq ⊢
      clear hB
      go_simp
    refine steps5_cons (fun a1 w2 hB hsz hdf hn hd => ⟨_, rfl, fun K hK => ?_⟩) ?_
    · obtain ⟨v33, h33, rfl⟩ := hd 0 33 rfl (by kernel_rfl)
      have e33 := eval_of h33
      clear h33
      refine value_ (v := .pointer (some ⟨gb, 0, none⟩)) (w1 := w2) rfl rfl ?_ (hK _ _ (Below.refl _ _) rfl)
      clear hd hn hK
      simp only [execOp, Option.map_some, Option.map_none, List.map_toArray, List.map_cons, List.map_nil, List.getElem_toArray, List.getElem_cons_zero, List.getElem_cons_succ, e33]
      clear e33
      go_simp
    refine steps5_cons (fun a1 w2 hB hsz hdf hn hd => ⟨_, rfl, fun K hK => ?_⟩) ?_
    · obtain ⟨v40, h40, rfl⟩ := hd 7 40 rfl (by kernel_rfl)
      have e40 := eval_of h40
      clear h40
      refine value_ (v := .pointer (some ⟨gb, 9, none⟩)) (w1 := w2) rfl rfl ?_ (hK _ _ (Below.refl _ _) rfl)
      clear hd hn hK
      simp only [execOp, Option.map_some, Option.map_none, List.map_toArray, List.map_cons, List.map_nil, List.getElem_toArray, List.getElem_cons_zero, List.getElem_cons_succ, e40]
      clear e40
      go_simp
    refine steps5_m ?_
    exact steps5_nil
  case h15 =>
    intro a1 w2 hB hn hd
    obtain ⟨v39, h39, q39⟩ := hd 6 39 rfl (by kernel_rfl)
    have e39 : v39 = .int .i64 (used + ((1 + (s.size + 6) / 64 : Nat) : Int)) := q39
    subst e39
    obtain ⟨v41, h41, q41⟩ := hd 8 41 rfl (by kernel_rfl)
    have e41 : v41 = .pointer (some ⟨gb, 9, none⟩) := q41
    subst e41
    refine ⟨_, rfl, fun K hK => ?_⟩
    exact store3_ rfl rfl rfl (eval_of h41) (eval_of h39) ((blk_cell (hB1.below hB) 9).trans rfl) (blk_frozen (hB1.below hB) 9) (hK undef _ (HP.out.store hB _))
  case rend5 =>
    intro vals2 w2 hp2
    simp only [fill, Act.put, List.setIfInBounds_toArray, List.set_cons_zero, List.set_cons_succ]
    have HP2 := Aside0.mk hp2
    clear hp2
    go_wp2
    go_end0
    exact ⟨rfl, HP2.out⟩
end Go.Proofs.Ytkedodmlbepfnaa.Lg

-- from the working text Bv
set_option linter.unusedSimpArgs false
set_option linter.unusedVariables false
namespace Go.Proofs.Ytkedodmlbepfnaa.Lg
open Go.RowKit Go.Proofs.YtkedodmlbepfnaaW.PrintWords Go.Proofs.YtkedodmlbepfnaaW.PrintLast Go.Proofs.YtkedodmlbepfnaaW.PrintMore Go.Proofs.Ytkedodmlbepfnaa.Rg
/-- What is neither a disk's nor a book's nor entries. -/
def Out (o : Obj) : Prop := ∀ cs t z, o = Obj.cells cs t z → t ≠ 115 ∧ t ≠ 122 ∧ t ≠ 124 ∧ t ≠ 23 ∧ t ≠ 95
theorem Out.map (es : Array MapEntry) (c : Nat) : Out (.map es c) := fun _ _ _ h => by cases h
theorem Out.cells {cs : Array Value} {t : TypeId} {z : Nat × Nat} (h1 : t ≠ 115) (h2 : t ≠ 122) (h3 : t ≠ 124) (h4 : t ≠ 23) (h5 : t ≠ 95) : Out (.cells cs t z) := fun _ _ _ h => by
  injection h with _ h _
  subst h
  exact ⟨h1, h2, h3, h4, h5⟩
/-- It stands. -/
def Ku (w W : World) : Prop := ∀ (k : Nat) (o : Obj), Out o → w.heap[k]? = some o → W.heap[k]? = some o
theorem Obj.lt {w : World} {k : Nat} {o : Obj} (h : w.heap[k]? = some o) : k < w.heap.size := by
  rcases Array.getElem?_eq_some_iff.1 h with ⟨h, _⟩
  exact h
theorem Ku.of_below {w W : World} (h : Below w.heap.size w W) : Ku w W := fun k o _ hk => (h.block k (Obj.lt hk)).trans hk
theorem Ku.trans {w W W' : World} (h : Ku w W) (h' : Ku W W') : Ku w W' := fun k o a hk => h' k o a (h k o a hk)
theorem TY.out {w : World} {k : Nat} {o : Obj} (h : w.heap[k]? = some o) (ho : Out o) : ¬ TY w k := by
  rintro ⟨cs', t', z', h', ht⟩
  rw [h] at h'
  injection h' with h'
  obtain ⟨h1, h2, h3, _, _⟩ := ho _ _ _ h'
  rcases ht with ht | ht | ht
  · exact h1 ht
  · exact h2 ht
  · exact h3 ht
/-- A record is written. -/
theorem BK.recordU {base gb gd n nE k : Nat} {w : World} {e0 : Value} {used : Nat} {f a b : Int} {xs : List Value} (h : BK base w gb gd n e0 used f nE xs k) (hbase : base ≤ w.heap.size) (s : ByteArray) (hf : f ≤ 1000000) (hn : n ≤ 4096) (hk : k ≤ 100) (hs : s.size ≤ 2400) (hat : used + 1 + (s.size + 6) / 64 ≤ n) :
    Calls Try.prog 143 #[.pointer (some ⟨gd, 0, none⟩), .int .i64 (used : Int), .agg #[.int .i64 a, .int .i64 b, .string s]] w fun e w' => e = .returned (.tuple #[]) ∧ BK base w' gb gd n e0 used f nE xs 0 ∧ Below base w w' ∧ (∀ (k : Nat) (cs : Array Value), w.heap[k]? = some (Obj.cells cs 23 (0, 0)) → w'.heap[k]? = some (Obj.cells cs 23 (0, 0))) ∧ Ku w w' := by
  obtain ⟨h1, h2, h3, h4⟩ := h
  have h2' : w.heap[gb]? = some (.cells (bookCells e0 used gd f) 95 (0, 0)) := h2
  refine (record_calls w _ gd n k used f a b s h3.typed hf hn hk hs hat).mono ?_
  rintro e w' ⟨rfl, hd, hkp⟩
  refine ⟨rfl, ⟨h1, (hkp.block gb (blk_lt h2') (fun h => TY.not h2' (by decide) (by decide) (by decide) h.2)).trans h2', hd.mono fun i hi => hi.elim (fun h => h.1) (fun h => Nat.le_trans hbase h), ?_⟩, hkp.to_below (fun i hi => hi.1) hbase, fun k cs hcs => (hkp.block k (blk_lt hcs) (fun h => TY.not hcs (by decide) (by decide) (by decide) h.2)).trans hcs, fun k o ho h => (hkp.block k (Obj.lt h) (fun hS => TY.out h ho hS.2)).trans h⟩
  refine (h4.exact.kp hkp fun i hi hlt hS => ?_).mono fun i hi => h4.2 i hi
  obtain ⟨c, hc⟩ := own_typed h4.1 i hi
  exact TY.not hc (by decide) (by decide) (by decide) hS.2
/-- The first entry is replaced. -/
theorem BK.putB {base gb gd n nE k : Nat} {w : World} {e0 : Value} {used f : Int} {y0 y1 y2 : Value} {ys : List Value} (h : BK base w gb gd n e0 used f nE (y0 :: y1 :: y2 :: ys) k) (hbase : base ≤ w.heap.size) (s : ByteArray) (hn1 : 1 ≤ nE) (hn : nE ≤ 60) (hs : s.size ≤ 2400) (hu : 0 ≤ used) (hu2 : used ≤ 4096) :
    Calls Try.prog 144 #[.pointer (some ⟨gb, 0, none⟩), .agg #[.int .i64 0, .int .i64 0, .string s]] w fun e w' => e = .returned (.tuple #[]) ∧ ∃ e1, BK base w' gb gd n e1 (used + ((1 + (s.size + 6) / 64 : Nat) : Int)) f nE (.int .i64 0 :: .int .i64 0 :: .string s :: ys) k ∧ Below base w w' ∧ Ku w w' := by
  obtain ⟨h1, h2, h3, h4⟩ := h
  have h2' : w.heap[gb]? = some (.cells (bookCells e0 used gd f) 95 (0, 0)) := h2
  refine (putB_calls w _ gb gd nE e0 used f y0 y1 y2 ys s h2 h4.exact hn1 hn hs hu hu2 (fun i hi => by obtain ⟨c, hc⟩ := own_typed h4.1 i hi; exact blk_lt hc)).mono ?_
  rintro e w' ⟨rfl, e1, hb, ho, hkp⟩
  have hle : ∀ i, (e0.ownBlock = some i ∨ i = gb) → base ≤ i := fun i hi => hi.elim (fun h => h4.2 i h) (fun h => h ▸ h1)
  refine ⟨rfl, e1, ⟨h1, hb, (h3.typed.kp hkp fun i hi hlt hS => ?_).mono fun i hi => hi.1, ho.mono fun i hi => hi.elim (fun h => h4.2 i h) (fun h => Nat.le_trans hbase h)⟩, hkp.to_below hle hbase, fun k o hO h => (hkp.block k (Obj.lt h) (fun hS => hS.elim (fun h1 => by obtain ⟨c, hc⟩ := own_typed h4.1 k h1; rw [h] at hc; injection hc with hc; exact (hO _ _ _ hc).2.2.2.1 rfl) (fun h1 => by subst h1; rw [h] at h2'; injection h2' with h2'; exact (hO _ _ _ h2').2.2.2.2 rfl))).trans h⟩
  rcases hS with hS | hS
  · obtain ⟨c, hc⟩ := own_typed h4.1 i hS
    exact TY.not hc (by decide) (by decide) (by decide) hi.2
  · subst hS
    exact TY.not h2' (by decide) (by decide) (by decide) hi.2
set_option maxHeartbeats 8000000 in
set_option maxRecDepth 100000 in
theorem bwriteB_calls (base : Nat) (w : World) (gb gd n nE k used : Nat) (e0 : Value) (f : Int) (y0 y1 y2 : Value) (ys : List Value) (s : ByteArray) (h : BK base w gb gd n e0 (used : Int) f nE (y0 :: y1 :: y2 :: ys) k) (hbase : base ≤ w.heap.size) (hf : f ≤ 1000000) (hn4 : n ≤ 4096) (hk : k ≤ 100) (hn1 : 1 ≤ nE) (hnE : nE ≤ 60) (hs : s.size ≤ 2400) (hat : used + 1 + (s.size + 6) / 64 ≤ n) :
    Calls Try.prog 113 #[.pointer (some ⟨gb, 0, none⟩), .agg #[.int .i64 0, .int .i64 0, .string s]] w fun e w' => e = .returned (.tuple #[]) ∧ ∃ e1, BK base w' gb gd n e1 ((used : Int) + ((1 + (s.size + 6) / 64 : Nat) : Int)) f nE (.int .i64 0 :: .int .i64 0 :: .string s :: ys) 0 ∧ Below base w w' ∧ Ku w w' := by
  have hB1 : Below w.heap.size w (w.alloc (.cells #[.int .i64 0, .int .i64 0, .string s] 23)) := below_alloc (Below.refl _ _) _
  have HBK := Aside0.mk (h.below hB1)
  have HBe : Aside0 (Below base w (w.alloc (.cells #[.int .i64 0, .int .i64 0, .string s] 23))) := Aside0.mk (hB1.mono hbase)
  have HX := Aside0.mk (blk_new w (.cells #[.int .i64 0, .int .i64 0, .string s] 23))
  have HBs := Aside0.mk (Nat.le_trans hbase hB1.size)
  have bg : decide ((n : Int) - (used : Int) < ((1 + (s.size + 6) / 64 : Nat) : Int)) = false := by simp; omega
  have HKu := Aside0.mk (Ku.of_below hB1)
  have hur : (used : Int) ≤ (n : Int) := by omega
  clear h hB1 hbase
  generalize hgx : w.heap.size = gx at HX
  generalize hcc : ((1 + (s.size + 6) / 64 : Nat) : Int) = cc at bg
  go_enter Try.func113, Try.ntmps113
  go_wp2_with (first
    | (go_at_call 142; (with_reducible refine (sectors_calls23 _ _ _ _ hs).mono ?_); rintro e w1 ⟨rfl, hb⟩; rw [hcc]; have n1_ := Aside0.mk (HBK.out.below hb); have n2_ := Aside0.mk (HBe.out.trans (hb.mono HBs.out)); have n3_ := Aside0.mk ((hb.block _ (blk_lt HX.out)).trans HX.out); have n4_ := Aside0.mk (Nat.le_trans HBs.out hb.size); have n5_ := Aside0.mk (HKu.out.trans (Ku.of_below hb)); clear HBK HBe HX HBs HKu hb; have HBK := n1_; have HBe := n2_; have HX := n3_; have HBs := n4_; have HKu := n5_; clear n1_ n2_ n3_ n4_ n5_)
    | (go_at_call 60; have k1_ := HBK.out.2.1; have k2_ := HBK.out.2.2.1; (with_reducible refine (room_calls _ _ _ _ _ _ _ _ _ _ k1_ k2_ (Int.natCast_nonneg _) hur hn4).mono ?_); clear k1_ k2_; rintro e w1 ⟨rfl, hb⟩; have n1_ := Aside0.mk (HBK.out.below hb); have n2_ := Aside0.mk (HBe.out.trans (hb.mono HBs.out)); have n3_ := Aside0.mk ((hb.block _ (blk_lt HX.out)).trans HX.out); have n4_ := Aside0.mk (Nat.le_trans HBs.out hb.size); have n5_ := Aside0.mk (HKu.out.trans (Ku.of_below hb)); clear HBK HBe HX HBs HKu hb; have HBK := n1_; have HBe := n2_; have HX := n3_; have HBs := n4_; have HKu := n5_; clear n1_ n2_ n3_ n4_ n5_))
  refine rg5_ 10 [0, 1, 2, 3, 4, 5, 6, 7, 8, 9, 10] [(0, 10), (1, 11), (2, 12), (3, 13), (4, 14), (5, 15), (6, 16), (7, 17), (8, 18), (9, 19), (10, 20)] (bitsOf (rtab .any (opsOf Try.f113 3)).2) (w3Rel gb gd (used : Int) 0 0 s) (fun _ W => BK base W gb gd n e0 (used : Int) f nE (y0 :: y1 :: y2 :: ys) 0 ∧ Below base w W ∧ W.heap[gx]? = some (.cells #[.int .i64 0, .int .i64 0, .string s] 23 (0, 0)) ∧ base ≤ W.heap.size ∧ Ku w W) (by kernel_rfl) rfl (by kernel_rfl) rfl (by kernel_rfl) (fun j v w w' h _ => by revert h; unfold w3Rel; split <;> exact id) ?stA ?h1A ?reA
  case stA =>
    refine steps5_cons (fun a1 w2 hB hsz hdf hn hd => ⟨_, rfl, fun K hK => ?_⟩) ?_
    · have e0 := eval_of ((hn 0 rfl).trans rfl)
      refine value_ (v := .pointer (some ⟨gb, 0, none⟩)) (w1 := w2) rfl rfl ?_ (hK _ _ (Below.refl _ _) rfl)
      clear hd hn hK
      simp only [execOp, Option.map_some, Option.map_none, List.map_toArray, List.map_cons, List.map_nil, List.getElem_toArray, List.getElem_cons_zero, List.getElem_cons_succ, e0]
      clear e0
      go_simp
    refine steps5_cons (fun a1 w2 hB hsz hdf hn hd => ⟨_, rfl, fun K hK => ?_⟩) ?_
    · obtain ⟨v10, h10, rfl⟩ := hd 0 10 rfl (by kernel_rfl)
      have e10 := eval_of h10
      clear h10
      refine value_ (v := .pointer (some ⟨gb, 0, none⟩)) (w1 := w2) rfl rfl ?_ (hK _ _ (Below.refl _ _) rfl)
      clear hd hn hK
      simp only [execOp, Option.map_some, Option.map_none, List.map_toArray, List.map_cons, List.map_nil, List.getElem_toArray, List.getElem_cons_zero, List.getElem_cons_succ, e10]
      clear e10
      go_simp
    refine steps5_cons (fun a1 w2 hB hsz hdf hn hd => ⟨_, rfl, fun K hK => ?_⟩) ?_
    · obtain ⟨v11, h11, rfl⟩ := hd 1 11 rfl (by kernel_rfl)
      have e11 := eval_of h11
      clear h11
      refine value_ (v := .pointer (some ⟨gb, 10, none⟩)) (w1 := w2) rfl rfl ?_ (hK _ _ (Below.refl _ _) rfl)
      clear hd hn hK
      simp only [execOp, Option.map_some, Option.map_none, List.map_toArray, List.map_cons, List.map_nil, List.getElem_toArray, List.getElem_cons_zero, List.getElem_cons_succ, e11]
      clear e11
      go_simp
    refine steps5_cons (fun a1 w2 hB hsz hdf hn hd => ⟨_, rfl, fun K hK => ?_⟩) ?_
    · obtain ⟨v12, h12, rfl⟩ := hd 2 12 rfl (by kernel_rfl)
      have e12 := eval_of h12
      clear h12
      refine value_ (v := .pointer (some ⟨gd, 0, none⟩)) (w1 := w2) rfl rfl ?_ (hK _ _ (Below.refl _ _) rfl)
      clear hd hn hK
      simp only [execOp, Option.map_some, Option.map_none, List.map_toArray, List.map_cons, List.map_nil, List.getElem_toArray, List.getElem_cons_zero, List.getElem_cons_succ, e12]
      clear e12
      have hq : w2.cell? ⟨gb, 10, none⟩ = some (.pointer (some ⟨gd, 0, none⟩)) := (blk_cell (HBK.out.2.1.below hB) 10).trans rfl
      clear hB
      go_simp
    refine steps5_cons (fun a1 w2 hB hsz hdf hn hd => ⟨_, rfl, fun K hK => ?_⟩) ?_
    · have e0 := eval_of ((hn 0 rfl).trans rfl)
      refine value_ (v := .pointer (some ⟨gb, 0, none⟩)) (w1 := w2) rfl rfl ?_ (hK _ _ (Below.refl _ _) rfl)
      clear hd hn hK
      simp only [execOp, Option.map_some, Option.map_none, List.map_toArray, List.map_cons, List.map_nil, List.getElem_toArray, List.getElem_cons_zero, List.getElem_cons_succ, e0]
      clear e0
      go_simp
    refine steps5_cons (fun a1 w2 hB hsz hdf hn hd => ⟨_, rfl, fun K hK => ?_⟩) ?_
    · obtain ⟨v14, h14, rfl⟩ := hd 4 14 rfl (by kernel_rfl)
      have e14 := eval_of h14
      clear h14
      refine value_ (v := .pointer (some ⟨gb, 0, none⟩)) (w1 := w2) rfl rfl ?_ (hK _ _ (Below.refl _ _) rfl)
      clear hd hn hK
      simp only [execOp, Option.map_some, Option.map_none, List.map_toArray, List.map_cons, List.map_nil, List.getElem_toArray, List.getElem_cons_zero, List.getElem_cons_succ, e14]
      clear e14
      go_simp
    refine steps5_cons (fun a1 w2 hB hsz hdf hn hd => ⟨_, rfl, fun K hK => ?_⟩) ?_
    · obtain ⟨v15, h15, rfl⟩ := hd 5 15 rfl (by kernel_rfl)
      have e15 := eval_of h15
      clear h15
      refine value_ (v := .pointer (some ⟨gb, 0, none⟩)) (w1 := w2) rfl rfl ?_ (hK _ _ (Below.refl _ _) rfl)
      clear hd hn hK
      simp only [execOp, Option.map_some, Option.map_none, List.map_toArray, List.map_cons, List.map_nil, List.getElem_toArray, List.getElem_cons_zero, List.getElem_cons_succ, e15]
      clear e15
      go_simp
    refine steps5_cons (fun a1 w2 hB hsz hdf hn hd => ⟨_, rfl, fun K hK => ?_⟩) ?_
    · obtain ⟨v16, h16, rfl⟩ := hd 6 16 rfl (by kernel_rfl)
      have e16 := eval_of h16
      clear h16
      refine value_ (v := .pointer (some ⟨gb, 9, none⟩)) (w1 := w2) rfl rfl ?_ (hK _ _ (Below.refl _ _) rfl)
      clear hd hn hK
      simp only [execOp, Option.map_some, Option.map_none, List.map_toArray, List.map_cons, List.map_nil, List.getElem_toArray, List.getElem_cons_zero, List.getElem_cons_succ, e16]
      clear e16
      go_simp
    refine steps5_cons (fun a1 w2 hB hsz hdf hn hd => ⟨_, rfl, fun K hK => ?_⟩) ?_
    · obtain ⟨v17, h17, rfl⟩ := hd 7 17 rfl (by kernel_rfl)
      have e17 := eval_of h17
      clear h17
      refine value_ (v := .int .i64 (used : Int)) (w1 := w2) rfl rfl ?_ (hK _ _ (Below.refl _ _) rfl)
      clear hd hn hK
      simp only [execOp, Option.map_some, Option.map_none, List.map_toArray, List.map_cons, List.map_nil, List.getElem_toArray, List.getElem_cons_zero, List.getElem_cons_succ, e17]
      clear e17
      have hq : w2.cell? ⟨gb, 9, none⟩ = some (.int .i64 (used : Int)) := (blk_cell (HBK.out.2.1.below hB) 9).trans rfl
      clear hB
      go_simp
    refine steps5_cons (fun a1 w2 hB hsz hdf hn hd => ⟨_, rfl, fun K hK => ?_⟩) ?_
    · have e3 := eval_of ((hn 3 rfl).trans rfl)
      refine value_ (v := .agg #[.int .i64 0, .int .i64 0, .string s]) (w1 := w2) rfl rfl ?_ (hK _ _ (Below.refl _ _) rfl)
      clear hd hn hK
      simp only [execOp, Option.map_some, Option.map_none, List.map_toArray, List.map_cons, List.map_nil, List.getElem_toArray, List.getElem_cons_zero, List.getElem_cons_succ, e3]
      clear e3
      have hbx := (hB.block _ (blk_lt HX.out)).trans HX.out
      have hx0 : w2.cell? ⟨gx, 0, none⟩ = some (.int .i64 0) := (blk_cell hbx 0).trans rfl
      have hx1 : w2.cell? ⟨gx, 1, none⟩ = some (.int .i64 0) := (blk_cell hbx 1).trans rfl
      have hx2 : w2.cell? ⟨gx, 2, none⟩ = some (.string s) := (blk_cell hbx 2).trans rfl
      clear hB hbx
      go_simp
    refine steps5_m ?_
    exact steps5_nil
  case h1A =>
    intro a1 w2 hB hn hd
    obtain ⟨v13, h13, q13⟩ := hd 3 13 rfl (by kernel_rfl)
    have e13 : v13 = .pointer (some ⟨gd, 0, none⟩) := q13
    subst e13
    have e13 := eval_of h13
    obtain ⟨v18, h18, q18⟩ := hd 8 18 rfl (by kernel_rfl)
    have e18 : v18 = .int .i64 (used : Int) := q18
    subst e18
    have e18 := eval_of h18
    obtain ⟨v19, h19, q19⟩ := hd 9 19 rfl (by kernel_rfl)
    have e19 : v19 = .agg #[.int .i64 0, .int .i64 0, .string s] := q19
    subst e19
    have e19 := eval_of h19
    refine ⟨_, rfl, fun K hK => ?_⟩
    refine goes_ Try.func143 (by kernel_rfl) rfl #[.pointer (some ⟨gd, 0, none⟩), .int .i64 (used : Int), .agg #[.int .i64 0, .int .i64 0, .string s]] (by rfl) rfl rfl (by simp only [List.map_toArray, List.map_cons, List.map_nil, e13, e18, e19]) ?_
    refine ((HBK.out.below hB).recordU (Nat.le_trans HBs.out hB.size) s hf hn4 hk hs hat).mono ?_
    rintro e w5 ⟨rfl, hbk, hbe, hkeep, hkv⟩
    exact ⟨_, rfl, hK _ _ ⟨hbk, (HBe.out.trans (hB.mono HBs.out)).trans hbe, hkeep _ _ ((hB.block _ (blk_lt HX.out)).trans HX.out), Nat.le_trans (Nat.le_trans HBs.out hB.size) hbe.size, (HKu.out.trans (Ku.of_below hB)).trans hkv⟩⟩
  case reA =>
    intro vals2 w4 hp2
    simp only [fill, Act.put, List.setIfInBounds_toArray, List.set_cons_zero, List.set_cons_succ]
    clear HBK HBe HX HBs HKu
    obtain ⟨hbk4, hbe4, hx4, hbs4, hkv4⟩ := hp2
    have HKu := Aside0.mk hkv4
    have HBK := Aside0.mk hbk4
    have HBe := Aside0.mk hbe4
    have HX := Aside0.mk hx4
    have HBs := Aside0.mk hbs4
    clear hbk4 hbe4 hx4 hbs4 hkv4
    go_wp2
    refine rg5_ 4 [0, 1, 2, 3, 4] [(0, 21), (1, 22), (2, 23), (3, 24), (4, 25)] (bitsOf (rtab .any (opsOf Try.f113 4)).2) (w4Rel gb 0 0 s) (fun _ W => ∃ e1, BK base W gb gd n e1 ((used : Int) + ((1 + (s.size + 6) / 64 : Nat) : Int)) f nE (.int .i64 0 :: .int .i64 0 :: .string s :: ys) 0 ∧ Below base w W ∧ Ku w W) (by kernel_rfl) rfl (by kernel_rfl) rfl (by kernel_rfl) (fun j v w w' h _ => by revert h; unfold w4Rel; split <;> exact id) ?stB ?h1B ?reB
    case stB =>
      refine steps5_cons (fun a1 w2 hB hsz hdf hn hd => ⟨_, rfl, fun K hK => ?_⟩) ?_
      · have e0 := eval_of ((hn 0 rfl).trans rfl)
        refine value_ (v := .pointer (some ⟨gb, 0, none⟩)) (w1 := w2) rfl rfl ?_ (hK _ _ (Below.refl _ _) rfl)
        clear hd hn hK
        simp only [execOp, Option.map_some, Option.map_none, List.map_toArray, List.map_cons, List.map_nil, List.getElem_toArray, List.getElem_cons_zero, List.getElem_cons_succ, e0]
        clear e0
        go_simp
      refine steps5_cons (fun a1 w2 hB hsz hdf hn hd => ⟨_, rfl, fun K hK => ?_⟩) ?_
      · obtain ⟨v21, h21, rfl⟩ := hd 0 21 rfl (by kernel_rfl)
        have e21 := eval_of h21
        clear h21
        refine value_ (v := .pointer (some ⟨gb, 0, none⟩)) (w1 := w2) rfl rfl ?_ (hK _ _ (Below.refl _ _) rfl)
        clear hd hn hK
        simp only [execOp, Option.map_some, Option.map_none, List.map_toArray, List.map_cons, List.map_nil, List.getElem_toArray, List.getElem_cons_zero, List.getElem_cons_succ, e21]
        clear e21
        go_simp
      refine steps5_cons (fun a1 w2 hB hsz hdf hn hd => ⟨_, rfl, fun K hK => ?_⟩) ?_
      · obtain ⟨v22, h22, rfl⟩ := hd 1 22 rfl (by kernel_rfl)
        have e22 := eval_of h22
        clear h22
        refine value_ (v := .pointer (some ⟨gb, 0, none⟩)) (w1 := w2) rfl rfl ?_ (hK _ _ (Below.refl _ _) rfl)
        clear hd hn hK
        simp only [execOp, Option.map_some, Option.map_none, List.map_toArray, List.map_cons, List.map_nil, List.getElem_toArray, List.getElem_cons_zero, List.getElem_cons_succ, e22]
        clear e22
        go_simp
      refine steps5_cons (fun a1 w2 hB hsz hdf hn hd => ⟨_, rfl, fun K hK => ?_⟩) ?_
      · have e3 := eval_of ((hn 3 rfl).trans rfl)
        refine value_ (v := .agg #[.int .i64 0, .int .i64 0, .string s]) (w1 := w2) rfl rfl ?_ (hK _ _ (Below.refl _ _) rfl)
        clear hd hn hK
        simp only [execOp, Option.map_some, Option.map_none, List.map_toArray, List.map_cons, List.map_nil, List.getElem_toArray, List.getElem_cons_zero, List.getElem_cons_succ, e3]
        clear e3
        have hbx := (hB.block _ (blk_lt HX.out)).trans HX.out
        have hx0 : w2.cell? ⟨gx, 0, none⟩ = some (.int .i64 0) := (blk_cell hbx 0).trans rfl
        have hx1 : w2.cell? ⟨gx, 1, none⟩ = some (.int .i64 0) := (blk_cell hbx 1).trans rfl
        have hx2 : w2.cell? ⟨gx, 2, none⟩ = some (.string s) := (blk_cell hbx 2).trans rfl
        clear hB hbx
        go_simp
      refine steps5_m ?_
      exact steps5_nil
    case h1B =>
      intro a1 w2 hB hn hd
      obtain ⟨v23, h23, q23⟩ := hd 2 23 rfl (by kernel_rfl)
      have e23 : v23 = .pointer (some ⟨gb, 0, none⟩) := q23
      subst e23
      have e23 := eval_of h23
      obtain ⟨v24, h24, q24⟩ := hd 3 24 rfl (by kernel_rfl)
      have e24 : v24 = .agg #[.int .i64 0, .int .i64 0, .string s] := q24
      subst e24
      have e24 := eval_of h24
      refine ⟨_, rfl, fun K hK => ?_⟩
      refine goes_ Try.func144 (by kernel_rfl) rfl #[.pointer (some ⟨gb, 0, none⟩), .agg #[.int .i64 0, .int .i64 0, .string s]] (by rfl) rfl rfl (by simp only [List.map_toArray, List.map_cons, List.map_nil, e23, e24]) ?_
      refine ((HBK.out.below hB).putB (Nat.le_trans HBs.out hB.size) s hn1 hnE hs (by omega) (by omega)).mono ?_
      rintro e w5 ⟨rfl, e1, hbk, hbe, hkv⟩
      exact ⟨_, rfl, hK _ _ ⟨e1, hbk, (HBe.out.trans (hB.mono HBs.out)).trans hbe, (HKu.out.trans (Ku.of_below hB)).trans hkv⟩⟩
    case reB =>
      intro vals3 w5 hp3
      simp only [fill, Act.put, List.setIfInBounds_toArray, List.set_cons_zero, List.set_cons_succ]
      have HP3 := Aside0.mk hp3
      clear hp3
      go_wp2
      go_end0
      exact ⟨rfl, hcc ▸ HP3.out⟩
end Go.Proofs.Ytkedodmlbepfnaa.Lg

-- from the working text Ad
set_option linter.unusedSimpArgs false
set_option linter.unusedVariables false
namespace Go.Proofs.Ytkedodmlbepfnaa.Lg
open Go.RowKit Go.Proofs.YtkedodmlbepfnaaW.PrintWords Go.Proofs.YtkedodmlbepfnaaW.PrintLast Go.Proofs.YtkedodmlbepfnaaW.PrintMore Go.Proofs.Ytkedodmlbepfnaa.Rg
/-- A guarded operation whose guard is on. -/
theorem wanted_of {ops : Array Oper} {oi : Oper} {tmps : Array Value} {j : Nat} {b : Bool} {t : Tmp} (hg : oi.guard = some (j, b)) (hd : (ops[j]?).bind (·.dst) = some t) (ht : tmps[t]? = some (.bool b)) : Region.wanted oi (yielded ops tmps) = true := by
  have hy : yielded ops tmps j = some b := by
    unfold yielded
    rw [hd]
    simp [ht]
  simp [Region.wanted, hg, hy]
/-- A variable of another kind is written. -/
theorem BK.setVar {base gb gd n nE k b : Nat} {w : World} {e0 : Value} {used f : Int} {xs : List Value} {cs : Array Value} (h : BK base w gb gd n e0 used f nE xs k) (hb : w.heap[b]? = some (.cells cs 28 (0, 0))) (u : Value) : BK base (w.setCell ⟨b, 0, none⟩ u) gb gd n e0 used f nE xs k := by
  obtain ⟨h1, h2, h3, h4⟩ := h
  have h2' : w.heap[gb]? = some (.cells (bookCells e0 used gd f) 95 (0, 0)) := h2
  have hk : Kp (fun i => i = b) w (w.setCell ⟨b, 0, none⟩ u) := (Kp.refl (fun i => i = b) w).setCell (p := ⟨b, 0, none⟩) (.inl rfl) u
  refine ⟨h1, (hk.block gb (blk_lt h2') (fun e => ?_)).trans h2', (h3.typed.kp hk fun i hi _ e => ?_).mono fun i hi => hi.1, h4.setCell (h4.type_ne hb (by decide)) u⟩
  · subst e
    rw [hb] at h2'
    injection h2' with h2'
    injection h2' with _ h2' _
    cases h2'
  · subst e
    exact TY.not hb (by decide) (by decide) (by decide) hi.2
theorem check0_calls (no : Int) (s : ByteArray) (w : World) (h0 : 0 ≤ no) (h1 : no < 64) (hs : s.size ≤ 2400) :
    Calls Try.prog 16 #[.agg #[.int .i64 0, .int .i64 no, .string s]] w fun e w' => e = .returned (.int .i64 0) ∧ Below w.heap.size w w' := by
  refine ledger_CheckEntry.calls 0 no s 0 w ?_
  unfold ledger_CheckEntry.f
  rw [if_neg (by omega), if_neg (by omega), if_neg (by omega), if_neg (by omega), if_neg (by omega)]
def addRel (gb gx : Nat) (a no : Int) (s : ByteArray) : Nat → Value → World → Prop
  | 0, v, _ => v = .agg #[.int .i64 a, .int .i64 no, .string s]
  | 1, v, _ => v = .int .i64 0
  | 2, v, _ => v = .bool false
  | 3, v, _ => v = .bool false
  | 4, v, _ => v = .pointer (some ⟨gb, 0, none⟩)
  | 5, v, _ => v = .pointer (some ⟨gb, 0, none⟩)
  | 6, v, _ => v = .pointer (some ⟨gb, 0, none⟩)
  | 7, v, _ => v = .pointer (some ⟨gx, 0, none⟩)
  | 8, v, _ => v = .int .i64 a
  | 9, v, _ => v = .bool true
  | 10, v, _ => v = .bool false
  | 11, v, _ => v = .bool false
  | _, _, _ => True
set_option maxHeartbeats 8000000 in
set_option maxRecDepth 100000 in
theorem addA_calls (base : Nat) (w : World) (gb gd n nE k used : Nat) (e0 : Value) (f : Int) (xs : List Value) (s : ByteArray) (h : BK base w gb gd n e0 (used : Int) f nE xs k) (hbase : base ≤ w.heap.size) (hf : f ≤ 1000000) (hn4 : n ≤ 4096) (hk : k ≤ 100) (hnE : nE ≤ 60) (hs : s.size ≤ 2400) (hat : used + 1 + (s.size + 6) / 64 ≤ n) :
    Calls Try.prog 61 #[.pointer (some ⟨gb, 0, none⟩), .agg #[.int .i64 0, .int .i64 (nE : Int), .string s]] w fun e w' => e = .returned (.int .i64 0) ∧ ∃ e1, BK base w' gb gd n e1 ((used : Int) + ((1 + (s.size + 6) / 64 : Nat) : Int)) f (nE + 1) (xs ++ [.int .i64 0, .int .i64 (nE : Int), .string s]) 0 ∧ Below base w w' := by
  have hB1 : Below w.heap.size w ((w.alloc (.cells #[.int .i64 0, .int .i64 (nE : Int), .string s] 23)).alloc (.cells #[.int .i64 0] 28)) := below_alloc (below_alloc (Below.refl _ _) _) _
  have HBK := Aside0.mk (h.below hB1)
  have k1_ := HBK.out.2.1
  have k2_ := HBK.out.2.2.1
  have HX := Aside0.mk (blk_new1 w (.cells #[.int .i64 0, .int .i64 (nE : Int), .string s] 23) (.cells #[.int .i64 0] 28))
  have HE := Aside0.mk (blk_new2 w (.cells #[.int .i64 0, .int .i64 (nE : Int), .string s] 23) (.cells #[.int .i64 0] 28))
  have HBe := Aside0.mk (hB1.mono hbase)
  have HBs := Aside0.mk (Nat.le_trans hbase hB1.size)
  clear h hB1
  go_enter_defers Try.func61, Try.ntmps61
  go_wp2_with (go_at_call 111; (with_reducible refine (bup_calls _ _ _ _ _ _ _ _ _ k1_ k2_).mono ?_); rintro e w1 ⟨rfl, hb⟩)
  have HX' := Aside0.mk ((hb.block _ (blk_lt HX.out)).trans HX.out)
  have HBK' := Aside0.mk (HBK.out.below hb)
  have HE' := Aside0.mk ((hb.block _ (blk_lt HE.out)).trans HE.out)
  have HBe' := Aside0.mk (HBe.out.trans (hb.mono HBs.out))
  have HBs' := Aside0.mk (Nat.le_trans HBs.out hb.size)
  clear HX HBK HE HBe HBs k1_ k2_ hb
  have HX := HX'
  have HBK := HBK'
  have HE := HE'
  have HBe := HBe'
  have HBs := HBs'
  clear HX' HBK' HE' HBe' HBs'
  refine rg_ [0, 1, 2, 3, 4, 5, 6, 7, 8, 9, 10, 11] [(0, 8), (1, 9), (2, 10), (3, 11), (4, 12), (5, 13), (6, 14), (7, 15), (8, 16), (9, 17), (10, 18), (11, 19)] (bitsOf (rtab .any (opsOf Try.f61 3)).2) (addRel gb w.heap.size 0 (nE : Int) s) (by kernel_rfl) rfl (by kernel_rfl) rfl (by kernel_rfl) (fun j v w w' h _ => by revert h; unfold addRel; split <;> exact id) ?steps ?rend
  case steps =>
    refine steps_cons (fun a1 w2 hB hsz hdf hn hd => ⟨_, rfl, fun K hK => ?_⟩) ?_
    · have e3 := eval_of ((hn 3 rfl).trans rfl)
      refine value_ (v := .agg #[.int .i64 0, .int .i64 (nE : Int), .string s]) (w1 := w2) rfl rfl ?_ (hK _ _ (Below.refl _ _) rfl)
      clear hd hn hK
      simp only [execOp, Option.map_some, Option.map_none, List.map_toArray, List.map_cons, List.map_nil, List.getElem_toArray, List.getElem_cons_zero, List.getElem_cons_succ, e3]
      clear e3
      have hbx := (hB.block _ (blk_lt HX.out)).trans HX.out
      have hx0 : w2.cell? ⟨w.heap.size, 0, none⟩ = some (.int .i64 0) := (blk_cell hbx 0).trans rfl
      have hx1 : w2.cell? ⟨w.heap.size, 1, none⟩ = some (.int .i64 (nE : Int)) := (blk_cell hbx 1).trans rfl
      have hx2 : w2.cell? ⟨w.heap.size, 2, none⟩ = some (.string s) := (blk_cell hbx 2).trans rfl
      clear hB hbx
      go_simp
    refine steps_cons (fun a1 w2 hB hsz hdf hn hd => ⟨_, rfl, fun K hK => ?_⟩) ?_
    · obtain ⟨v8, h8, rfl⟩ := hd 0 8 rfl (by kernel_rfl)
      have e8 := eval_of h8
      clear h8
      refine goes_ Try.func16 (by kernel_rfl) rfl #[.agg #[.int .i64 0, .int .i64 (nE : Int), .string s]] (by rfl) rfl rfl (by simp only [List.map_toArray, List.map_cons, List.map_nil, e8]) ?_
      refine (check0_calls (nE : Int) s _ (by omega) (by omega) hs).mono ?_
      rintro e w3 ⟨rfl, hbw⟩
      exact ⟨_, rfl, hK _ _ hbw rfl⟩
    refine steps_cons (fun a1 w2 hB hsz hdf hn hd => ⟨_, rfl, fun K hK => ?_⟩) ?_
    · obtain ⟨v9, h9, rfl⟩ := hd 1 9 rfl (by kernel_rfl)
      have e9 := eval_of h9
      clear h9
      refine value_ (v := .bool false) (w1 := w2) rfl rfl ?_ (hK _ _ (Below.refl _ _) rfl)
      clear hd hn hK
      simp only [execOp, Option.map_some, Option.map_none, List.map_toArray, List.map_cons, List.map_nil, List.getElem_toArray, List.getElem_cons_zero, List.getElem_cons_succ, e9]
      clear e9
      go_simp
    refine steps_cons (fun a1 w2 hB hsz hdf hn hd => ⟨_, rfl, fun K hK => ?_⟩) ?_
    · obtain ⟨v10, h10, rfl⟩ := hd 2 10 rfl (by kernel_rfl)
      have e10 := eval_of h10
      clear h10
      refine value_ (v := .bool false) (w1 := w2) rfl rfl ?_ (hK _ _ (Below.refl _ _) rfl)
      clear hd hn hK
      simp only [execOp, Option.map_some, Option.map_none, List.map_toArray, List.map_cons, List.map_nil, List.getElem_toArray, List.getElem_cons_zero, List.getElem_cons_succ, e10]
      clear e10
      go_simp
    refine steps_cons (fun a1 w2 hB hsz hdf hn hd => ⟨_, rfl, fun K hK => ?_⟩) ?_
    · have e0 := eval_of ((hn 0 rfl).trans rfl)
      obtain ⟨v11g, h11g, q11g⟩ := hd 3 11 rfl (by kernel_rfl)
      have e11g : v11g = .bool false := q11g
      subst e11g
      refine value_ (v := .pointer (some ⟨gb, 0, none⟩)) (w1 := w2) (wanted_of (j := 3) (b := false) (t := 11) rfl rfl h11g) rfl ?_ (hK _ _ (Below.refl _ _) rfl)
      clear hd hn hK
      simp only [execOp, Option.map_some, Option.map_none, List.map_toArray, List.map_cons, List.map_nil, List.getElem_toArray, List.getElem_cons_zero, List.getElem_cons_succ, e0]
      clear e0
      go_simp
    refine steps_cons (fun a1 w2 hB hsz hdf hn hd => ⟨_, rfl, fun K hK => ?_⟩) ?_
    · obtain ⟨v12, h12, rfl⟩ := hd 4 12 rfl (by kernel_rfl)
      have e12 := eval_of h12
      clear h12
      obtain ⟨v11g, h11g, q11g⟩ := hd 3 11 rfl (by kernel_rfl)
      have e11g : v11g = .bool false := q11g
      subst e11g
      refine value_ (v := .pointer (some ⟨gb, 0, none⟩)) (w1 := w2) (wanted_of (j := 3) (b := false) (t := 11) rfl rfl h11g) rfl ?_ (hK _ _ (Below.refl _ _) rfl)
      clear hd hn hK
      simp only [execOp, Option.map_some, Option.map_none, List.map_toArray, List.map_cons, List.map_nil, List.getElem_toArray, List.getElem_cons_zero, List.getElem_cons_succ, e12]
      clear e12
      go_simp
    refine steps_cons (fun a1 w2 hB hsz hdf hn hd => ⟨_, rfl, fun K hK => ?_⟩) ?_
    · obtain ⟨v13, h13, rfl⟩ := hd 5 13 rfl (by kernel_rfl)
      have e13 := eval_of h13
      clear h13
      obtain ⟨v11g, h11g, q11g⟩ := hd 3 11 rfl (by kernel_rfl)
      have e11g : v11g = .bool false := q11g
      subst e11g
      refine value_ (v := .pointer (some ⟨gb, 0, none⟩)) (w1 := w2) (wanted_of (j := 3) (b := false) (t := 11) rfl rfl h11g) rfl ?_ (hK _ _ (Below.refl _ _) rfl)
      clear hd hn hK
      simp only [execOp, Option.map_some, Option.map_none, List.map_toArray, List.map_cons, List.map_nil, List.getElem_toArray, List.getElem_cons_zero, List.getElem_cons_succ, e13]
      clear e13
      go_simp
    refine steps_cons (fun a1 w2 hB hsz hdf hn hd => ⟨_, rfl, fun K hK => ?_⟩) ?_
    · have e3 := eval_of ((hn 3 rfl).trans rfl)
      obtain ⟨v11g, h11g, q11g⟩ := hd 3 11 rfl (by kernel_rfl)
      have e11g : v11g = .bool false := q11g
      subst e11g
      refine value_ (v := .pointer (some ⟨w.heap.size, 0, none⟩)) (w1 := w2) (wanted_of (j := 3) (b := false) (t := 11) rfl rfl h11g) rfl ?_ (hK _ _ (Below.refl _ _) rfl)
      clear hd hn hK
      simp only [execOp, Option.map_some, Option.map_none, List.map_toArray, List.map_cons, List.map_nil, List.getElem_toArray, List.getElem_cons_zero, List.getElem_cons_succ, e3]
      clear e3
      go_simp
    refine steps_cons (fun a1 w2 hB hsz hdf hn hd => ⟨_, rfl, fun K hK => ?_⟩) ?_
    · obtain ⟨v15, h15, rfl⟩ := hd 7 15 rfl (by kernel_rfl)
      have e15 := eval_of h15
      clear h15
      obtain ⟨v11g, h11g, q11g⟩ := hd 3 11 rfl (by kernel_rfl)
      have e11g : v11g = .bool false := q11g
      subst e11g
      refine value_ (v := .int .i64 0) (w1 := w2) (wanted_of (j := 3) (b := false) (t := 11) rfl rfl h11g) rfl ?_ (hK _ _ (Below.refl _ _) rfl)
      clear hd hn hK
      simp only [execOp, Option.map_some, Option.map_none, List.map_toArray, List.map_cons, List.map_nil, List.getElem_toArray, List.getElem_cons_zero, List.getElem_cons_succ, e15]
      clear e15
      have hbx := (hB.block _ (blk_lt HX.out)).trans HX.out
      have hx0 : w2.cell? ⟨w.heap.size, 0, none⟩ = some (.int .i64 0) := (blk_cell hbx 0).trans rfl
      clear hB hbx
      go_simp
    refine steps_cons (fun a1 w2 hB hsz hdf hn hd => ⟨_, rfl, fun K hK => ?_⟩) ?_
    · obtain ⟨v14, h14, rfl⟩ := hd 6 14 rfl (by kernel_rfl)
      have e14 := eval_of h14
      clear h14
      obtain ⟨v16, h16, rfl⟩ := hd 8 16 rfl (by kernel_rfl)
      have e16 := eval_of h16
      clear h16
      obtain ⟨v11g, h11g, q11g⟩ := hd 3 11 rfl (by kernel_rfl)
      have e11g : v11g = .bool false := q11g
      subst e11g
      refine goes_ Try.func112 (by kernel_rfl) rfl #[.pointer (some ⟨gb, 0, none⟩), .int .i64 0] (wanted_of (j := 3) (b := false) (t := 11) rfl rfl h11g) rfl rfl (by simp only [List.map_toArray, List.map_cons, List.map_nil, e14, e16]) ?_
      refine (has_calls _ _ _ _ _ _ 0 (HBK.out.2.1.below hB) (by decide) (by decide)).mono ?_
      rintro e w3 ⟨rfl, hbw⟩
      exact ⟨_, rfl, hK _ _ hbw rfl⟩
    refine steps_cons (fun a1 w2 hB hsz hdf hn hd => ⟨_, rfl, fun K hK => ?_⟩) ?_
    · obtain ⟨v17, h17, rfl⟩ := hd 9 17 rfl (by kernel_rfl)
      have e17 := eval_of h17
      clear h17
      obtain ⟨v11g, h11g, q11g⟩ := hd 3 11 rfl (by kernel_rfl)
      have e11g : v11g = .bool false := q11g
      subst e11g
      refine value_ (v := .bool false) (w1 := w2) (wanted_of (j := 3) (b := false) (t := 11) rfl rfl h11g) rfl ?_ (hK _ _ (Below.refl _ _) rfl)
      clear hd hn hK
      simp only [execOp, Option.map_some, Option.map_none, List.map_toArray, List.map_cons, List.map_nil, List.getElem_toArray, List.getElem_cons_zero, List.getElem_cons_succ, e17]
      clear e17
      go_simp
    refine steps_cons (fun a1 w2 hB hsz hdf hn hd => ⟨_, rfl, fun K hK => ?_⟩) ?_
    · obtain ⟨v11, h11, rfl⟩ := hd 3 11 rfl (by kernel_rfl)
      have e11 := eval_of h11
      clear h11
      obtain ⟨v18, h18, rfl⟩ := hd 10 18 rfl (by kernel_rfl)
      have e18 := eval_of h18
      clear h18
      refine value_ (v := .bool false) (w1 := w2) rfl rfl ?_ (hK _ _ (Below.refl _ _) rfl)
      clear hd hn hK
      simp only [execOp, Option.map_some, Option.map_none, List.map_toArray, List.map_cons, List.map_nil, List.getElem_toArray, List.getElem_cons_zero, List.getElem_cons_succ, e11, e18]
      clear e11 e18
      go_simp
    exact steps_nil
  case rend =>
    intro vals w2 hB hrr
    have hl : vals 11 = .bool false := hrr (11, 19) (by simp)
    have HX' := Aside0.mk ((hB.block _ (blk_lt HX.out)).trans HX.out)
    have HBK' := Aside0.mk (HBK.out.below hB)
    have HE' := Aside0.mk ((hB.block _ (blk_lt HE.out)).trans HE.out)
    have HBe' := Aside0.mk (HBe.out.trans (hB.mono HBs.out))
    have HBs' := Aside0.mk (Nat.le_trans HBs.out hB.size)
    clear HX HBK HE HBe HBs hB hrr
    have HX := HX'
    have HBK := HBK'
    have HE := HE'
    have HBe := HBe'
    have HBs := HBs'
    clear HX' HBK' HE' HBe' HBs'
    obtain ⟨A, c, hA⟩ := HBK.out.2.2.2.slice
    have x0 : w2.cell? ⟨w.heap.size, 0, none⟩ = some (.int .i64 0) := (blk_cell HX.out 0).trans rfl
    have x1 : w2.cell? ⟨w.heap.size, 1, none⟩ = some (.int .i64 (nE : Int)) := (blk_cell HX.out 1).trans rfl
    have x2 : w2.cell? ⟨w.heap.size, 2, none⟩ = some (.string s) := (blk_cell HX.out 2).trans rfl
    have y1 : w2.cell? ⟨gb, 1, none⟩ = some (.slice A nE c) := (blk_cell HBK.out.2.1 1).trans (by rw [hA]; rfl)
    have t1 : decide ((nE : Int) < (nE : Int)) = false := by simp
    simp only [fill, Act.put, List.setIfInBounds_toArray, List.set_cons_zero, List.set_cons_succ, hl]
    clear hl
    go_wp2
    go_region
    all_goals go_wp2
    go_quiet (fail)
    go_wp2_with (go_at_call 113; refine (bwriteA_calls base _ gb gd n nE k used e0 f xs s (HBK.out.below ?hbx) ?bs hf hn4 hk hnE hs hat).mono ?_; (case hbx => repeat (first | exact Below.refl _ _ | apply below_drew | apply pw_below_drewN | apply below_drew1)); (case bs => exact HBs.out); rintro e w5 ⟨rfl, e1, hbk5, hbe5, hkv5⟩; have hE5 := hkv5 _ _ _ (by decide) (by decide) (by decide) (by decide) (by decide) (((by repeat (first | exact Below.refl _ _ | apply below_drew | apply pw_below_drewN | apply below_drew1)) : Below w2.heap.size w2 _).block _ (blk_lt HE.out) |>.trans HE.out); have z1 : w5.cell? ⟨w.heap.size + 1, 0, none⟩ = some (.int .i64 0) := (blk_cell hE5 0).trans rfl; have z2 := blk_frozen hE5 0; have HE5 := Aside0.mk hE5; have HBK5 := Aside0.mk hbk5; have HBe5 := Aside0.mk hbe5; clear hE5 hbk5 hbe5 hkv5)
    have hcE := (blk_cell (blk_set HE5.out 0 (.int .i64 0)) 0).trans rfl
    refine leaves_cons (f := 108) (args := #[.pointer (some ⟨w.heap.size + 1, 0, none⟩)]) (by simp) (by simp [go_sem]) ?_
    refine (caught_idle _ _).mono ?_
    rintro e u' w'' ⟨rfl, rfl, rfl⟩
    have HF := Aside0.mk (HBK5.out.setVar HE5.out (.int .i64 0))
    have HG : Aside0 (Below base w (w5.setCell ⟨w.heap.size + 1, 0, none⟩ (.int .i64 0))) := Aside0.mk ((HBe.out.trans ((by repeat (first | exact Below.refl _ _ | apply below_drew | apply pw_below_drewN | apply below_drew1) : Below base w2 _).trans HBe5.out)).setCell (Nat.le_trans hbase (Nat.le_succ _)) _)
    refine ⟨_, ?_, rfl, e1, HF.out, HG.out⟩
    simp [results, Try.results61, go_sem, hcE]
end Go.Proofs.Ytkedodmlbepfnaa.Lg

-- from the working text Ch
set_option linter.unusedSimpArgs false
set_option linter.unusedVariables false
namespace Go.Proofs.Ytkedodmlbepfnaa.Lg
open Go.RowKit Go.Proofs.YtkedodmlbepfnaaW.PrintWords Go.Proofs.YtkedodmlbepfnaaW.PrintLast Go.Proofs.YtkedodmlbepfnaaW.PrintMore Go.Proofs.Ytkedodmlbepfnaa.Rg
set_option maxHeartbeats 8000000 in
set_option maxRecDepth 100000 in
theorem changedB_calls (w : World) (S : Nat → Prop) (gb gd nE : Nat) (e0 : Value) (used f : Int) (y0 y1 : Value) (t : ByteArray) (ys : List Value) (s : ByteArray) (hb : BookAt w gb gd e0 used f) (ho : Own w S 23 3 e0 nE (y0 :: y1 :: .string t :: ys)) (hn1 : 1 ≤ nE) (hn : nE ≤ 60) (hs : s.size ≤ 2400) (hlt : Op.bytesLess s.toList t.toList = true) :
    Calls Try.prog 115 #[.pointer (some ⟨gb, 0, none⟩), .agg #[.int .i64 0, .int .i64 0, .string s]] w fun e w' => e = .returned (.bool true) ∧ Below w.heap.size w w' := by
  have hB1 : Below w.heap.size w (w.alloc (.cells #[.int .i64 0, .int .i64 0, .string s] 23)) := below_alloc (Below.refl _ _) _
  have HBK := Aside0.mk (hb.below hB1)
  have HO := Aside0.mk (own_later ho hB1)
  have HX := Aside0.mk (blk_new w (.cells #[.int .i64 0, .int .i64 0, .string s] 23))
  have HBe := Aside0.mk hB1
  have bE : ((0 : Int) == (nE : Int)) = false := by rw [beq_eq_false_iff_ne]; omega
  have bL : decide ((0 : Int) < (nE : Int)) = true := by simp; omega
  have bN : decide (0 < nE) = true := by simp; omega
  clear hb ho hB1
  go_enter Try.func115, Try.ntmps115
  go_wp2_with (first
    | (go_at_call 16; (with_reducible refine (check0_calls 0 s _ (by decide) (by decide) hs).mono ?_); rintro e w1 ⟨rfl, hb⟩; have n1_ := Aside0.mk (HBK.out.below hb); have n2_ := Aside0.mk (own_later HO.out hb); have n3_ := Aside0.mk ((hb.block _ (blk_lt HX.out)).trans HX.out); have n4_ := Aside0.mk (HBe.out.trans (hb.mono HBe.out.size)); clear HBK HO HX HBe hb; have HBK := n1_; have HO := n2_; have HX := n3_; have HBe := n4_; clear n1_ n2_ n3_ n4_; have x0 := (blk_cell HX.out 0).trans rfl)
    | (go_at_call 112; have k1_ := HBK.out; (with_reducible refine (has_calls _ _ _ _ _ _ 0 k1_ (by decide) (by decide)).mono ?_); clear k1_; rintro e w1 ⟨rfl, hb⟩; have n1_ := Aside0.mk (HBK.out.below hb); have n2_ := Aside0.mk (own_later HO.out hb); have n3_ := Aside0.mk ((hb.block _ (blk_lt HX.out)).trans HX.out); have n4_ := Aside0.mk (HBe.out.trans (hb.mono HBe.out.size)); clear HBK HO HX HBe hb; have HBK := n1_; have HO := n2_; have HX := n3_; have HBe := n4_; clear n1_ n2_ n3_ n4_))
  obtain ⟨gE, c, cur, rfl, hSE, hcur, hnc, _, hcs, htk⟩ := HO.out.form hn1
  have hcell : ∀ (i : Nat) (u : Value), (y0 :: y1 :: Value.string t :: ys)[i]? = some u → cur[i]? = some u := by
    intro i u hi
    rw [← htk, List.getElem?_take] at hi
    split at hi
    · rw [← Array.getElem?_toList]; exact hi
    · cases hi
  have c1 : w1.cell? ⟨gb, 1, none⟩ = some (.slice (some ⟨gE, 0, none⟩) nE c) := (blk_cell HBK.out 1).trans rfl
  have d2 : w1.cell? ⟨gE, 2, none⟩ = some (.string t) := (blk_cell hcur 2).trans (hcell 2 _ rfl)
  have x0' : w1.cell? ⟨w.heap.size, 0, none⟩ = some (.int .i64 0) := (blk_cell HX.out 0).trans rfl
  have x1 : w1.cell? ⟨w.heap.size, 1, none⟩ = some (.int .i64 0) := (blk_cell HX.out 1).trans rfl
  have x2 : w1.cell? ⟨w.heap.size, 2, none⟩ = some (.string s) := (blk_cell HX.out 2).trans rfl
  clear x0 hcur hcell hcs htk
  go_region
  all_goals go_wp2
  go_quiet (fail)
  go_wp2
  go_ret
  exact ⟨rfl, HBe.out.trans (by repeat (first | exact Below.refl _ _ | apply below_drew | apply pw_below_drewN | apply below_drew1))⟩
end Go.Proofs.Ytkedodmlbepfnaa.Lg

-- from the working text Mp
set_option linter.unusedSimpArgs false
set_option linter.unusedVariables false
namespace Go.Proofs.Ytkedodmlbepfnaa.Lg
open Go.RowKit Go.Proofs.YtkedodmlbepfnaaW.PrintWords Go.Proofs.YtkedodmlbepfnaaW.PrintLast Go.Proofs.YtkedodmlbepfnaaW.PrintMore Go.Proofs.Ytkedodmlbepfnaa.Rg
theorem run_part3 (cs : Array Value) (i : Nat) (v : Value) (w : World) (h : cs[i]? = some v) : (part 3 cs i).run Try.prog w = .ok v w := by
  simp [part, isAgg, run_underlying Try.underlying3, h]
theorem sizeOf3 (w : World) : (sizeOf 3).run Try.prog w = .ok 1 w := by
  cases hq : Try.prog.info? 3 with
  | none => have := size3; simp [hq] at this
  | some it =>
    have := size3
    simp [hq] at this
    simp [sizeOf, typeInfo, hq, this]
theorem key_check1 (e : Bool) (n : Nat) (a : Int) (w : World) : (Instr.checkKey e (n + 1) 3 (.int .i64 a)).run Try.prog w = .ok () w := by
  simp [Instr.checkKey, run_underlying Try.underlying3]
theorem key_check (e : Bool) (a b : Int) (w : World) : (Instr.checkKey e 10000 155 (.agg #[.int .i64 a, .int .i64 b])).run Try.prog w = .ok () w := by
  show (Instr.checkKey e (9998 + 1 + 1) 155 (.agg #[.int .i64 a, .int .i64 b])).run Try.prog w = .ok () w
  have h0 := fun w => run_part3 #[.int .i64 a, .int .i64 b] 0 _ w rfl
  have h1 := fun w => run_part3 #[.int .i64 a, .int .i64 b] 1 _ w rfl
  rw [Instr.checkKey]
  simp [run_underlying Try.underlying155, Std.Legacy.Range.forIn_eq_forIn_range', sizeOf3, h0, h1, key_check1, List.range']
theorem key_eq (a b c d : Int) (w : World) : (Op.equal 155 (.agg #[.int .i64 a, .int .i64 b]) (.agg #[.int .i64 c, .int .i64 d])).run Try.prog w = .ok (a == c && b == d) w := by
  show (Op.equalIn (9998 + 1 + 1) 155 _ _).run Try.prog w = _
  have h0 := fun w => run_part3 #[.int .i64 a, .int .i64 b] 0 _ w rfl
  have h1 := fun w => run_part3 #[.int .i64 a, .int .i64 b] 1 _ w rfl
  have h2 := fun w => run_part3 #[.int .i64 c, .int .i64 d] 0 _ w rfl
  have h3 := fun w => run_part3 #[.int .i64 c, .int .i64 d] 1 _ w rfl
  have hi := fun w x y => run_equalIn_int (P := Try.prog) w 9998 3 .i64 .i64 x y Try.underlying3
  rw [Op.equalIn]
  simp [run_underlying Try.underlying155, Std.Legacy.Range.forIn_eq_forIn_range', sizeOf3, h0, h1, h2, h3, hi, List.range']
  by_cases h : a = c <;> by_cases h' : b = d <;> simp [h, h']
theorem find_nil (k : Value) (w : World) : (Instr.findKey 155 k []).run Try.prog w = .ok none w := by
  simp [Instr.findKey, run_underlying Try.underlying155, Instr.findNow]
theorem find_one (a b c d : Int) (v : Value) (n : Nat) (w : World) : (Instr.findKey 155 (.agg #[.int .i64 a, .int .i64 b]) [{ key := .agg #[.int .i64 c, .int .i64 d], val := v, born := n }]).run Try.prog w = .ok (if (a == c && b == d) = true then some (0, v) else none) w := by
  simp only [Instr.findKey, Sem.run_bind, run_underlying Try.underlying155, Result.andThen_ok, Instr.findNow, Instr.sameNow, Instr.findAsking, key_eq]
  split <;> simp_all
/-- The zero entry. -/
abbrev noEntry : Value := .agg #[.int .i64 0, .int .i64 0, .string ⟨#[]⟩]
theorem zero23 (w : World) : (zeroValue 23).run Try.prog w = .ok noEntry w := by
  have h : (Try.prog.info? 23).map (·.zero) = some (some noEntry) := by kernel_rfl
  cases hq : Try.prog.info? 23 with
  | none => simp [hq] at h
  | some it =>
    simp [hq] at h
    simp [zeroValue, typeInfo, hq, h]
theorem run_make154 (w : World) : (Instr.makeMap 154 none).run Try.prog w = .ok (.map (some w.heap.size)) (w.alloc (.map #[] 0)) := run_makeMap_plain (P := Try.prog) w 154
theorem run_look0 (r c : Nat) (a b : Int) (w : World) (h : w.heap[r]? = some (.map #[] c)) : (Instr.lookup 154 (.map (some r)) (.agg #[.int .i64 a, .int .i64 b]) true).run Try.prog w = .ok (.tuple #[noEntry, .bool false]) w := by
  simp [Instr.lookup, run_underlying Try.underlying154, MapKept.run_getObj_map h, key_check, find_nil, zero23]
theorem run_look1 (r c m : Nat) (a b i j : Int) (v : Value) (w : World) (h : w.heap[r]? = some (.map #[{ key := .agg #[.int .i64 i, .int .i64 j], val := v, born := m }] c)) : (Instr.lookup 154 (.map (some r)) (.agg #[.int .i64 a, .int .i64 b]) true).run Try.prog w = .ok (.tuple (if (a == i && b == j) = true then #[v, .bool true] else #[noEntry, .bool false])) w := by
  simp only [Instr.lookup, Sem.run_bind, run_underlying Try.underlying154, Result.andThen_ok, MapKept.run_getObj_map h, key_check, find_one, Sem.run_pure]
  by_cases h1 : (a == i && b == j) = true
  · rw [if_pos h1, if_pos h1]
    simp
  · rw [if_neg h1, if_neg h1]
    simp [zero23]
/-- A block is replaced. -/
def putB (w : World) (r : Nat) (o : Obj) : World := { w with heap := w.heap.setIfInBounds r o }
theorem run_upd0 (r c : Nat) (a b : Int) (v : Value) (w : World) (h : w.heap[r]? = some (.map #[] c)) : (Instr.mapUpdate 154 (.map (some r)) (.agg #[.int .i64 a, .int .i64 b]) v).run Try.prog w = .ok () (putB w r (.map #[{ key := .agg #[.int .i64 a, .int .i64 b], val := v, born := c }] (c + 1))) := by
  simp [Instr.mapUpdate, run_underlying Try.underlying154, MapKept.run_getObj_map h, key_check, find_nil, MapKept.run_setObj_map _ h, putB]
theorem putB_self (w : World) (r : Nat) (o : Obj) (h : r < w.heap.size) : (putB w r o).heap[r]? = some o := by
  simp [putB, h]
theorem putB_other (w : World) (r k : Nat) (o : Obj) (h : k ≠ r) : (putB w r o).heap[k]? = w.heap[k]? := by
  simp [putB, Array.getElem?_setIfInBounds, Ne.symm h]
end Go.Proofs.Ytkedodmlbepfnaa.Lg

-- from the working text Tk
set_option linter.unusedSimpArgs false
set_option linter.unusedVariables false
namespace Go.Proofs.Ytkedodmlbepfnaa.Lg
open Go.RowKit Go.Proofs.YtkedodmlbepfnaaW.PrintWords Go.Proofs.YtkedodmlbepfnaaW.PrintLast Go.Proofs.YtkedodmlbepfnaaW.PrintMore Go.Proofs.Ytkedodmlbepfnaa.Rg
set_option maxRecDepth 100000 in
theorem take1_idle (p q : Addr) (w : World) (h : w.cell? p = some (.int .i64 0)) :
    CallsD Try.prog 114 #[.pointer (some p), .pointer (some q)] .returning w fun e u' w' => u' = .returning ∧ (e = .returned (.tuple #[]) ∧ w' = w) := by
  go_enter_d Try.func114, Try.ntmps114
  go_wp2
  go_end0
  exact ⟨rfl, rfl⟩
/-- What stands while Take goes on: the book, the two results, the map. -/
def TI (base : Nat) (w W : World) (gb gd n : Nat) (e0 : Value) (used f : Int) (xs : List Value) (k b r c : Nat) (es : Array MapEntry) (cnt : Int) : Prop :=
  BK base W gb gd n e0 used f 2 xs k ∧ W.heap[b]? = some (.cells #[.int .i64 cnt] 3 (0, 0)) ∧ W.heap[b + 1]? = some (.cells #[.int .i64 0] 28 (0, 0)) ∧ Below base w W ∧ base ≤ W.heap.size ∧ W.heap[r]? = some (.map es c) ∧ base ≤ b
theorem TI.below {base : Nat} {w W W' : World} {gb gd n : Nat} {e0 : Value} {used f : Int} {xs : List Value} {k b r c : Nat} {es : Array MapEntry} {cnt : Int} (h : TI base w W gb gd n e0 used f xs k b r c es cnt) (hb : Below W.heap.size W W') : TI base w W' gb gd n e0 used f xs k b r c es cnt := by
  obtain ⟨h1, h2, h3, h4, h5, h6, h7⟩ := h
  exact ⟨h1.below hb, (hb.block _ (blk_lt h2)).trans h2, (hb.block _ (blk_lt h3)).trans h3, h4.trans (hb.mono h5), Nat.le_trans h5 hb.size, (hb.block _ (Obj.lt h6)).trans h6, h7⟩
/-- Blocks of other kinds are written. -/
theorem BK.kp {base gb gd n nE k : Nat} {w w1 : World} {e0 : Value} {used f : Int} {xs : List Value} {S : Nat → Prop} (h : BK base w gb gd n e0 used f nE xs k) (hk : Kp S w w1) (hS : ∀ i, S i → ∃ o, w.heap[i]? = some o ∧ Out o) : BK base w1 gb gd n e0 used f nE xs k := by
  obtain ⟨h1, h2, h3, h4⟩ := h
  have h2' : w.heap[gb]? = some (.cells (bookCells e0 used gd f) 95 (0, 0)) := h2
  refine ⟨h1, (hk.block gb (blk_lt h2') (fun e => ?_)).trans h2', (h3.typed.kp hk fun i hi _ e => ?_).mono fun i hi => hi.1, (h4.exact.kp hk fun i hi hlt e => ?_).mono fun i hi => h4.2 i hi⟩
  · obtain ⟨o, ho, hO⟩ := hS gb e
    rw [h2'] at ho
    injection ho with ho
    exact (hO _ _ _ ho.symm).2.2.2.2 rfl
  · obtain ⟨o, ho, hO⟩ := hS i e
    exact TY.out ho hO hi.2
  · obtain ⟨o, ho, hO⟩ := hS i e
    obtain ⟨c, hc⟩ := own_typed h4.1 i hi
    rw [hc] at ho
    injection ho with ho
    exact (hO _ _ _ ho.symm).2.2.2.1 rfl
theorem Kp.putB {S : Nat → Prop} (w : World) {r : Nat} (hr : S r) (o : Obj) : Kp S w (putB w r o) :=
  ⟨rfl, rfl, rfl, by simp [Lg.putB], fun k _ hk => putB_other w r k o (fun e => hk (e ▸ hr))⟩
theorem TI.upd {base : Nat} {w W : World} {gb gd n : Nat} {e0 : Value} {used f : Int} {xs : List Value} {k b r c : Nat} {es : Array MapEntry} {cnt : Int} (h : TI base w W gb gd n e0 used f xs k b r c es cnt) (hr : base ≤ r) (es' : Array MapEntry) (c' : Nat) : TI base w (putB W r (.map es' c')) gb gd n e0 used f xs k b r c' es' cnt := by
  obtain ⟨h1, h2, h3, h4, h5, h6, h7⟩ := h
  have hk : Kp (fun i => i = r) W (putB W r (.map es' c')) := Kp.putB (S := fun i => i = r) W rfl _
  have e1 : b ≠ r := fun e => by rw [e, h6] at h2; cases h2
  have e2 : b + 1 ≠ r := fun e => by rw [e, h6] at h3; cases h3
  exact ⟨h1.kp hk (fun i hi => ⟨_, hi ▸ h6, Out.map _ _⟩), (putB_other W r b _ e1).trans h2, (putB_other W r (b + 1) _ e2).trans h3, h4.trans (hk.to_below (fun i hi => hi ▸ hr) h5), Nat.le_trans h5 hk.size, putB_self W r _ (Obj.lt h6), h7⟩
def tkRel (gb : Nat) (s : ByteArray) : Nat → Value → World → Prop
  | 0, v, _ => v = .bool true
  | 1, v, _ => v = .bool true
  | 2, v, _ => v = .pointer (some ⟨gb, 0, none⟩)
  | 3, v, _ => v = .pointer (some ⟨gb, 0, none⟩)
  | 4, v, _ => v = .pointer (some ⟨gb, 0, none⟩)
  | 5, v, _ => v = .agg #[.int .i64 0, .int .i64 0, .string s]
  | 6, v, _ => v = .bool true
  | 7, v, _ => v = .bool true
  | _, _, _ => True
set_option maxHeartbeats 8000000 in
set_option maxRecDepth 100000 in
theorem takeB_calls (base : Nat) (w : World) (gb gd n k used gl : Nat) (e0 : Value) (f : Int) (y0 y1 : Value) (t : ByteArray) (ys : List Value) (s : ByteArray) (h : BK base w gb gd n e0 (used : Int) f 2 (y0 :: y1 :: .string t :: ys) k) (hbase : base ≤ w.heap.size) (hf : f ≤ 1000000) (hn4 : n ≤ 4096) (hk : k ≤ 100) (hs : s.size ≤ 2400) (hat : used + 1 + (s.size + 6) / 64 ≤ n) (hlt : Op.bytesLess s.toList t.toList = true) (hl : w.heap[gl]? = some (.cells #[.int .i64 0, .int .i64 0, .string s] 23 (0, 0))) :
    Calls Try.prog 62 #[.pointer (some ⟨gb, 0, none⟩), .slice (some ⟨gl, 0, none⟩) 1 1] w fun e w' => e = .returned (.tuple #[.int .i64 1, .int .i64 0]) ∧ ∃ e1, BK base w' gb gd n e1 ((used : Int) + ((1 + (s.size + 6) / 64 : Nat) : Int)) f 2 (.int .i64 0 :: .int .i64 0 :: .string s :: ys) 0 ∧ Below base w w' := by
  have hB1 : Below w.heap.size w ((w.alloc (.cells #[.int .i64 0] 3)).alloc (.cells #[.int .i64 0] 28)) := below_alloc (below_alloc (Below.refl _ _) _) _
  have HBK := Aside0.mk (h.below hB1)
  have k1_ := HBK.out.2.1
  have k2_ := HBK.out.2.2.1
  have HX := Aside0.mk (blk_new1 w (.cells #[.int .i64 0] 3) (.cells #[.int .i64 0] 28))
  have HE := Aside0.mk (blk_new2 w (.cells #[.int .i64 0] 3) (.cells #[.int .i64 0] 28))
  have HBe := Aside0.mk (hB1.mono hbase)
  have HBs := Aside0.mk (Nat.le_trans hbase hB1.size)
  have HL := Aside0.mk ((hB1.block _ (blk_lt hl)).trans hl)
  have hmf : ∀ (fn : Fn) (first cap : Array Value) (w : World), (Instr.makeFunc fn first cap).run Try.prog w = .ok (.func fn first cap) w := fun _ _ _ _ => rfl
  have hmm := run_make154
  clear h hB1 hl
  go_enter_defers Try.func62, Try.ntmps62
  go_wp2_with (go_at_call 111; (with_reducible refine (bup_calls _ _ _ _ _ _ _ _ _ k1_ k2_).mono ?_); rintro e w1 ⟨rfl, hb⟩)
  have HT : Aside0 (TI base w (w1.alloc (.map #[] 0)) gb gd n e0 used f (y0 :: y1 :: .string t :: ys) k w.heap.size w1.heap.size 0 #[] 0) := by
    have ha : Below w1.heap.size w1 (w1.alloc (.map #[] 0)) := below_alloc (Below.refl _ _) _
    have hb2 := hb.trans (ha.mono hb.size)
    exact Aside0.mk ⟨HBK.out.below hb2, (hb2.block _ (blk_lt HX.out)).trans HX.out, (hb2.block _ (blk_lt HE.out)).trans HE.out, HBe.out.trans (hb2.mono HBs.out), Nat.le_trans HBs.out hb2.size, blk_new _ _, hbase⟩
  have HL' : Aside0 ((w1.alloc (.map #[] 0)).heap[gl]? = some (.cells #[.int .i64 0, .int .i64 0, .string s] 23 (0, 0))) := by
    have ha : Below w1.heap.size w1 (w1.alloc (.map #[] 0)) := below_alloc (Below.refl _ _) _
    have hb2 := hb.trans (ha.mono hb.size)
    exact Aside0.mk ((hb2.block _ (blk_lt HL.out)).trans HL.out)
  have hrb : base ≤ w1.heap.size := Nat.le_trans HBs.out hb.size
  clear HL HBK HX HE HBe HBs k1_ k2_ hb hmm hmf
  revert HT HL' hrb
  generalize w1.alloc (.map #[] 0) = W2
  generalize w1.heap.size = r
  intro HT HL hrb
  have l0 : W2.cell? ⟨gl, 0, none⟩ = some (.int .i64 0) := (blk_cell HL.out 0).trans rfl
  have l1 : W2.cell? ⟨gl, 1, none⟩ = some (.int .i64 0) := (blk_cell HL.out 1).trans rfl
  have l2 : W2.cell? ⟨gl, 2, none⟩ = some (.string s) := (blk_cell HL.out 2).trans rfl
  have hr2 := HT.out.2.2.2.2.2.1
  have hk0 : ∀ o1 o2 o3, (Instr.lookup 154 (.map (some r)) (.agg #[.int .i64 0, .int .i64 0]) true).run Try.prog (((W2.alloc o1).alloc o2).alloc o3) = .ok (.tuple #[noEntry, .bool false]) (((W2.alloc o1).alloc o2).alloc o3) := fun o1 o2 o3 =>
    run_look0 r 0 0 0 _ (((below_alloc (below_alloc (below_alloc (Below.refl W2.heap.size W2) o1) o2) o3).block _ (Obj.lt hr2)).trans hr2)
  have hk1 : ∀ o1 o2 o3 o4 v, (Instr.mapUpdate 154 (.map (some r)) (.agg #[.int .i64 0, .int .i64 0]) v).run Try.prog ((((W2.alloc o1).alloc o2).alloc o3).alloc o4) = .ok () (putB ((((W2.alloc o1).alloc o2).alloc o3).alloc o4) r (.map #[{ key := .agg #[.int .i64 0, .int .i64 0], val := v, born := 0 }] 1)) := fun o1 o2 o3 o4 v =>
    run_upd0 r 0 0 0 v _ (((below_alloc (below_alloc (below_alloc (below_alloc (Below.refl W2.heap.size W2) o1) o2) o3) o4).block _ (Obj.lt hr2)).trans hr2)
  have hq : ∀ o1 o2 o3 o4 es c, (putB ((((W2.alloc o1).alloc o2).alloc o3).alloc o4) r (.map es c)).cell? ⟨gb, 0, none⟩ = some (.int .i64 2) := fun o1 o2 o3 o4 es c => by
    have hT := (HT.out.below (below_alloc (below_alloc (below_alloc (below_alloc (Below.refl W2.heap.size W2) o1) o2) o3) o4)).upd hrb es c
    exact (blk_cell hT.1.2.1 0).trans rfl
  have hT3 : ∀ o1 o2 o3 o4 es c, TI base w (putB ((((W2.alloc o1).alloc o2).alloc o3).alloc o4) r (.map es c)) gb gd n e0 used f (y0 :: y1 :: .string t :: ys) k w.heap.size r c es 0 := fun o1 o2 o3 o4 es c =>
    (HT.out.below (below_alloc (below_alloc (below_alloc (below_alloc (Below.refl W2.heap.size W2) o1) o2) o3) o4)).upd hrb es c
  have HT3 := Aside0.mk hT3
  clear hr2 hT3 hrb
  refine wp_loop_rounds 2 ?_
  rw [rounds_succ]
  go_wp2
  rw [rounds_succ]
  go_wp2
  clear hk0 hk1 hq l0 l1 l2 HL HT
  have HT4 := Aside0.mk (HT3.out (.cells #[.int .i64 0, .int .i64 0, .string s] 23) (.cells #[.int .i64 0, .int .i64 0, .string s] 23) (.cells #[.int .i64 0, .int .i64 0] 155) (.cells #[.int .i64 0, .int .i64 0, .string ⟨#[]⟩] 23) #[{ key := .agg #[.int .i64 0, .int .i64 0], val := .agg #[.int .i64 0, .int .i64 0, .string s], born := 0 }] 1)
  revert HT4
  generalize putB ((((W2.alloc (.cells #[.int .i64 0, .int .i64 0, .string s] 23)).alloc (.cells #[.int .i64 0, .int .i64 0, .string s] 23)).alloc (.cells #[.int .i64 0, .int .i64 0] 155)).alloc (.cells #[.int .i64 0, .int .i64 0, .string ⟨#[]⟩] 23)) r (.map #[{ key := .agg #[.int .i64 0, .int .i64 0], val := .agg #[.int .i64 0, .int .i64 0, .string s], born := 0 }] 1) = W4
  intro HT
  clear HT3
  obtain ⟨A, c, hA⟩ := HT.out.1.2.2.2.slice
  have q1 : W4.cell? ⟨gb, 1, none⟩ = some (.slice A 2 c) := (blk_cell HT.out.1.2.1 1).trans (by rw [hA]; rfl)
  have hk0 := run_look1 r 1 0 0 0 0 0 (.agg #[.int .i64 0, .int .i64 0, .string s]) W4 HT.out.2.2.2.2.2.1
  rw [if_pos (by decide)] at hk0
  have hx := blk_new W4 (.cells #[.int .i64 0, .int .i64 0, .string s] 23)
  have hB5 : Below W4.heap.size W4 (W4.alloc (.cells #[.int .i64 0, .int .i64 0, .string s] 23)) := below_alloc (Below.refl _ _) _
  have HT5 := Aside0.mk (HT.out.below hB5)
  have HX5 := Aside0.mk hx
  clear hx hB5
  have hb5 := HT5.out.1.2.1
  have ho5 := HT5.out.1.2.2.2
  refine wp_loop_rounds 3 ?_
  rw [rounds_succ]
  go_wp2
  refine wp_loop_rounds 4 ?_
  rw [rounds_succ]
  go_wp2
  refine rg_ [0, 1, 2, 3, 4, 5, 6, 7] [(0, 81), (1, 82), (2, 83), (3, 84), (4, 85), (5, 86), (6, 87), (7, 88)] (bitsOf (rtab .any (opsOf Try.f62 21)).2) (tkRel gb s) (by kernel_rfl) rfl (by kernel_rfl) rfl (by kernel_rfl) (fun j v w w' h _ => by revert h; unfold tkRel; split <;> exact id) ?steps ?rend
  case steps =>
    refine steps_cons (fun a1 w2 hB hsz hdf hn hd => ⟨_, rfl, fun K hK => ?_⟩) ?_
    · have e15 := eval_of ((hn 15 rfl).trans rfl)
      refine value_ (v := .bool true) (w1 := w2) rfl rfl ?_ (hK _ _ (Below.refl _ _) rfl)
      clear hd hn hK
      simp only [execOp, Option.map_some, Option.map_none, List.map_toArray, List.map_cons, List.map_nil, List.getElem_toArray, List.getElem_cons_zero, List.getElem_cons_succ, e15]
      clear e15
      go_simp
    refine steps_cons (fun a1 w2 hB hsz hdf hn hd => ⟨_, rfl, fun K hK => ?_⟩) ?_
    · obtain ⟨v81, h81, rfl⟩ := hd 0 81 rfl (by kernel_rfl)
      have e81 := eval_of h81
      clear h81
      refine value_ (v := .bool true) (w1 := w2) rfl rfl ?_ (hK _ _ (Below.refl _ _) rfl)
      clear hd hn hK
      simp only [execOp, Option.map_some, Option.map_none, List.map_toArray, List.map_cons, List.map_nil, List.getElem_toArray, List.getElem_cons_zero, List.getElem_cons_succ, e81]
      clear e81
      go_simp
    refine steps_cons (fun a1 w2 hB hsz hdf hn hd => ⟨_, rfl, fun K hK => ?_⟩) ?_
    · have e0 := eval_of ((hn 0 rfl).trans rfl)
      obtain ⟨v82g, h82g, q82g⟩ := hd 1 82 rfl (by kernel_rfl)
      have e82g : v82g = .bool true := q82g
      subst e82g
      refine value_ (v := .pointer (some ⟨gb, 0, none⟩)) (w1 := w2) (wanted_of (j := 1) (b := true) (t := 82) rfl rfl h82g) rfl ?_ (hK _ _ (Below.refl _ _) rfl)
      clear hd hn hK
      simp only [execOp, Option.map_some, Option.map_none, List.map_toArray, List.map_cons, List.map_nil, List.getElem_toArray, List.getElem_cons_zero, List.getElem_cons_succ, e0]
      clear e0
      go_simp
    refine steps_cons (fun a1 w2 hB hsz hdf hn hd => ⟨_, rfl, fun K hK => ?_⟩) ?_
    · obtain ⟨v83, h83, rfl⟩ := hd 2 83 rfl (by kernel_rfl)
      have e83 := eval_of h83
      clear h83
      obtain ⟨v82g, h82g, q82g⟩ := hd 1 82 rfl (by kernel_rfl)
      have e82g : v82g = .bool true := q82g
      subst e82g
      refine value_ (v := .pointer (some ⟨gb, 0, none⟩)) (w1 := w2) (wanted_of (j := 1) (b := true) (t := 82) rfl rfl h82g) rfl ?_ (hK _ _ (Below.refl _ _) rfl)
      clear hd hn hK
      simp only [execOp, Option.map_some, Option.map_none, List.map_toArray, List.map_cons, List.map_nil, List.getElem_toArray, List.getElem_cons_zero, List.getElem_cons_succ, e83]
      clear e83
      go_simp
    refine steps_cons (fun a1 w2 hB hsz hdf hn hd => ⟨_, rfl, fun K hK => ?_⟩) ?_
    · obtain ⟨v84, h84, rfl⟩ := hd 3 84 rfl (by kernel_rfl)
      have e84 := eval_of h84
      clear h84
      obtain ⟨v82g, h82g, q82g⟩ := hd 1 82 rfl (by kernel_rfl)
      have e82g : v82g = .bool true := q82g
      subst e82g
      refine value_ (v := .pointer (some ⟨gb, 0, none⟩)) (w1 := w2) (wanted_of (j := 1) (b := true) (t := 82) rfl rfl h82g) rfl ?_ (hK _ _ (Below.refl _ _) rfl)
      clear hd hn hK
      simp only [execOp, Option.map_some, Option.map_none, List.map_toArray, List.map_cons, List.map_nil, List.getElem_toArray, List.getElem_cons_zero, List.getElem_cons_succ, e84]
      clear e84
      go_simp
    refine steps_cons (fun a1 w2 hB hsz hdf hn hd => ⟨_, rfl, fun K hK => ?_⟩) ?_
    · have e14 := eval_of ((hn 14 rfl).trans rfl)
      obtain ⟨v82g, h82g, q82g⟩ := hd 1 82 rfl (by kernel_rfl)
      have e82g : v82g = .bool true := q82g
      subst e82g
      refine value_ (v := .agg #[.int .i64 0, .int .i64 0, .string s]) (w1 := w2) (wanted_of (j := 1) (b := true) (t := 82) rfl rfl h82g) rfl ?_ (hK _ _ (Below.refl _ _) rfl)
      clear hd hn hK
      simp only [execOp, Option.map_some, Option.map_none, List.map_toArray, List.map_cons, List.map_nil, List.getElem_toArray, List.getElem_cons_zero, List.getElem_cons_succ, e14]
      clear e14
      have hbx := (hB.block _ (blk_lt HX5.out)).trans HX5.out
      have hx0 : w2.cell? ⟨W4.heap.size, 0, none⟩ = some (.int .i64 0) := (blk_cell hbx 0).trans rfl
      have hx1 : w2.cell? ⟨W4.heap.size, 1, none⟩ = some (.int .i64 0) := (blk_cell hbx 1).trans rfl
      have hx2 : w2.cell? ⟨W4.heap.size, 2, none⟩ = some (.string s) := (blk_cell hbx 2).trans rfl
      clear hB hbx
      go_simp
    refine steps_cons (fun a1 w2 hB hsz hdf hn hd => ⟨_, rfl, fun K hK => ?_⟩) ?_
    · obtain ⟨v85, h85, rfl⟩ := hd 4 85 rfl (by kernel_rfl)
      have e85 := eval_of h85
      clear h85
      obtain ⟨v86, h86, rfl⟩ := hd 5 86 rfl (by kernel_rfl)
      have e86 := eval_of h86
      clear h86
      obtain ⟨v82g, h82g, q82g⟩ := hd 1 82 rfl (by kernel_rfl)
      have e82g : v82g = .bool true := q82g
      subst e82g
      refine goes_ Try.func115 (by kernel_rfl) rfl #[.pointer (some ⟨gb, 0, none⟩), .agg #[.int .i64 0, .int .i64 0, .string s]] (wanted_of (j := 1) (b := true) (t := 82) rfl rfl h82g) rfl rfl (by simp only [List.map_toArray, List.map_cons, List.map_nil, e85, e86]) ?_
      have kb_ := HT5.out.1.2.1.below hB
      have ko_ := own_later HT5.out.1.2.2.2 hB
      refine (changedB_calls _ _ gb gd 2 _ _ _ y0 y1 t ys s kb_ ko_ (by decide) (by decide) hs hlt).mono ?_
      rintro e w3 ⟨rfl, hbw⟩
      exact ⟨_, rfl, hK _ _ hbw rfl⟩
    refine steps_cons (fun a1 w2 hB hsz hdf hn hd => ⟨_, rfl, fun K hK => ?_⟩) ?_
    · obtain ⟨v82, h82, rfl⟩ := hd 1 82 rfl (by kernel_rfl)
      have e82 := eval_of h82
      clear h82
      obtain ⟨v87, h87, rfl⟩ := hd 6 87 rfl (by kernel_rfl)
      have e87 := eval_of h87
      clear h87
      refine value_ (v := .bool true) (w1 := w2) rfl rfl ?_ (hK _ _ (Below.refl _ _) rfl)
      clear hd hn hK
      simp only [execOp, Option.map_some, Option.map_none, List.map_toArray, List.map_cons, List.map_nil, List.getElem_toArray, List.getElem_cons_zero, List.getElem_cons_succ, e82, e87]
      clear e82 e87
      go_simp
    exact steps_nil
  case rend =>
    intro vals w2 hB hrr
    have hl : vals 7 = .bool true := hrr (7, 88) (by simp)
    have HT6 := Aside0.mk (HT5.out.below hB)
    have HX6 := Aside0.mk ((hB.block _ (blk_lt HX5.out)).trans HX5.out)
    clear HX5 HT5 hB hrr HT q1 hk0 hb5 ho5
    have x0 : w2.cell? ⟨W4.heap.size, 0, none⟩ = some (.int .i64 0) := (blk_cell HX6.out 0).trans rfl
    have x1 : w2.cell? ⟨W4.heap.size, 1, none⟩ = some (.int .i64 0) := (blk_cell HX6.out 1).trans rfl
    have x2 : w2.cell? ⟨W4.heap.size, 2, none⟩ = some (.string s) := (blk_cell HX6.out 2).trans rfl
    simp only [fill, Act.put, List.setIfInBounds_toArray, List.set_cons_zero, List.set_cons_succ, hl]
    clear hl
    have kb_ := HT6.out.1
    have kc_ := HT6.out.2.2.2.2.1
    go_wp2_with (go_at_call 113; (with_reducible refine (bwriteB_calls base _ gb gd n 2 k used e0 f y0 y1 (.string t) ys s kb_ kc_ hf hn4 hk (by decide) (by decide) hs hat).mono ?_); rintro e w7 ⟨rfl, e1, hbk7, hbe7, hku7⟩; have hz_ := hku7 _ _ (Out.cells (by decide) (by decide) (by decide) (by decide) (by decide)) HT6.out.2.1; have z0 : w7.cell? ⟨w.heap.size, 0, none⟩ = some (.int .i64 0) := (blk_cell hz_ 0).trans rfl; have z1 := blk_frozen hz_ 0; clear hz_)
    have hz3 := hku7 _ _ (Out.cells (by decide) (by decide) (by decide) (by decide) (by decide)) HT6.out.2.1
    have hz4 := hku7 _ _ (Out.cells (by decide) (by decide) (by decide) (by decide) (by decide)) HT6.out.2.2.1
    have hz5 := hku7 _ _ (Out.map _ _) HT6.out.2.2.2.2.2.1
    have hkp : Kp (fun i => i = w.heap.size) w7 (w7.setCell ⟨w.heap.size, 0, none⟩ (.int .i64 1)) := (Kp.refl (fun i => i = w.heap.size) w7).setCell (p := ⟨w.heap.size, 0, none⟩) (.inl rfl) _
    have hb7 : base ≤ w7.heap.size := Nat.le_trans kc_ hbe7.size
    have hrne : r ≠ w.heap.size := fun e => by rw [e, hz3] at hz5; cases hz5
    have HT8 : Aside0 (TI base w (w7.setCell ⟨w.heap.size, 0, none⟩ (.int .i64 1)) gb gd n e1 ((used : Int) + ((1 + (s.size + 6) / 64 : Nat) : Int)) f (.int .i64 0 :: .int .i64 0 :: .string s :: ys) 0 w.heap.size r 1 #[{ key := .agg #[.int .i64 0, .int .i64 0], val := .agg #[.int .i64 0, .int .i64 0, .string s], born := 0 }] 1) :=
      Aside0.mk ⟨hbk7.kp hkp (fun i hi => ⟨_, hi ▸ hz3, Out.cells (by decide) (by decide) (by decide) (by decide) (by decide)⟩), by rw [blk_set hz3]; rfl, (hkp.block _ (blk_lt hz4) (by omega)).trans hz4, (HT6.out.2.2.2.1.trans hbe7).trans (hkp.to_below (fun i hi => hi ▸ hbase) hb7), Nat.le_trans hb7 hkp.size, (hkp.block _ (Obj.lt hz5) (fun e => hrne e)).trans hz5, hbase⟩
    clear hz3 hz4 hz5 hkp hb7 hrne hbk7 hbe7 hku7 z0 z1 HT6 HX6 x0 x1 x2 kb_ kc_
    revert HT8
    generalize w7.setCell ⟨w.heap.size, 0, none⟩ (.int .i64 1) = W8
    intro HT8
    obtain ⟨A8, c8, hA8⟩ := HT8.out.1.2.2.2.slice
    have q1 : W8.cell? ⟨gb, 1, none⟩ = some (.slice A8 2 c8) := (blk_cell HT8.out.1.2.1 1).trans (by rw [hA8]; rfl)
    have hk0 := run_look1 r 1 0 0 1 0 0 (.agg #[.int .i64 0, .int .i64 0, .string s]) W8 HT8.out.2.2.2.2.2.1
    rw [if_neg (by decide)] at hk0
    rw [rounds_succ]
    go_wp2
    go_quiet (fail)
    go_wp2
    have HT9 := Aside0.mk (HT8.out.below (pw_below_drewN (below_alloc (Below.refl W8.heap.size W8) (.cells #[.int .i64 0, .int .i64 0, .string ⟨#[]⟩] 23)) nq))
    clear q1 hk0 HT8
    revert HT9
    generalize (W8.alloc (.cells #[.int .i64 0, .int .i64 0, .string ⟨#[]⟩] 23)).drewN nq = W9
    intro HT9
    have q1 : W9.cell? ⟨gb, 1, none⟩ = some (.slice A8 2 c8) := (blk_cell HT9.out.1.2.1 1).trans (by rw [hA8]; rfl)
    have hk0 := run_look1 r 1 0 0 2 0 0 (.agg #[.int .i64 0, .int .i64 0, .string s]) W9 HT9.out.2.2.2.2.2.1
    rw [if_neg (by decide)] at hk0
    rw [rounds_succ]
    go_wp2
    go_quiet (fail)
    go_wp2
    have HT10 := Aside0.mk (HT9.out.below (pw_below_drewN (below_alloc (Below.refl W9.heap.size W9) (.cells #[.int .i64 0, .int .i64 0, .string ⟨#[]⟩] 23)) nq))
    clear q1 hk0 HT9
    revert HT10
    generalize (W9.alloc (.cells #[.int .i64 0, .int .i64 0, .string ⟨#[]⟩] 23)).drewN nq = W10
    intro HT10
    have q1 : W10.cell? ⟨gb, 1, none⟩ = some (.slice A8 2 c8) := (blk_cell HT10.out.1.2.1 1).trans (by rw [hA8]; rfl)
    rw [rounds_succ]
    go_wp2
    clear q1
    rw [rounds_succ]
    go_wp2
    refine wp_loop_rounds 2 ?_
    have q1 : W10.cell? ⟨gb, 2, none⟩ = some (.slice none 0 0) := (blk_cell HT10.out.1.2.1 2).trans rfl
    have hk0 := run_look1 r 1 0 1 0 0 0 (.agg #[.int .i64 0, .int .i64 0, .string s]) W10 HT10.out.2.2.2.2.2.1
    rw [if_neg (by decide)] at hk0
    rw [rounds_succ]
    go_wp2
    go_quiet (fail)
    go_wp2
    have HT11 := Aside0.mk (HT10.out.below (pw_below_drewN (below_alloc (Below.refl W10.heap.size W10) (.cells #[.int .i64 0, .int .i64 0, .string ⟨#[]⟩] 23)) nq))
    clear q1 hk0 HT10
    revert HT11
    generalize (W10.alloc (.cells #[.int .i64 0, .int .i64 0, .string ⟨#[]⟩] 23)).drewN nq = W11
    intro HT11
    have q1 : W11.cell? ⟨gb, 2, none⟩ = some (.slice none 0 0) := (blk_cell HT11.out.1.2.1 2).trans rfl
    rw [rounds_succ]
    go_wp2
    clear q1
    have p0 : W11.cell? ⟨w.heap.size, 0, none⟩ = some (.int .i64 1) := (blk_cell HT11.out.2.1 0).trans rfl
    have p1 := blk_frozen HT11.out.2.1 0
    have p2 : W11.cell? ⟨w.heap.size + 1, 0, none⟩ = some (.int .i64 0) := (blk_cell HT11.out.2.2.1 0).trans rfl
    have p3 := blk_frozen HT11.out.2.2.1 0
    rw [rounds_succ]
    go_wp2
    have g1 := HT11.out.2.1
    have g2 := HT11.out.2.2.1
    have hkp : Kp (fun i => i = w.heap.size ∨ i = w.heap.size + 1) W11 ((W11.setCell ⟨w.heap.size, 0, none⟩ (.int .i64 1)).setCell ⟨w.heap.size + 1, 0, none⟩ (.int .i64 0)) := ((Kp.refl _ W11).setCell (p := ⟨w.heap.size, 0, none⟩) (.inl (.inl rfl)) _).setCell (p := ⟨w.heap.size + 1, 0, none⟩) (.inl (.inr rfl)) _
    have HF := Aside0.mk (HT11.out.1.kp hkp (fun i hi => hi.elim (fun e => ⟨_, e ▸ g1, Out.cells (by decide) (by decide) (by decide) (by decide) (by decide)⟩) (fun e => ⟨_, e ▸ g2, Out.cells (by decide) (by decide) (by decide) (by decide) (by decide)⟩)))
    have HG := Aside0.mk (HT11.out.2.2.2.1.trans (hkp.to_below (fun i hi => hi.elim (fun e => e ▸ hbase) (fun e => e ▸ Nat.le_trans hbase (Nat.le_succ _))) HT11.out.2.2.2.2.1))
    have v1 : (W11.setCell ⟨w.heap.size, 0, none⟩ (.int .i64 1)).heap[w.heap.size]? = some (.cells #[.int .i64 1] 3 (0, 0)) := by rw [blk_set g1]; rfl
    have v2 : (W11.setCell ⟨w.heap.size, 0, none⟩ (.int .i64 1)).heap[w.heap.size + 1]? = some (.cells #[.int .i64 0] 28 (0, 0)) := (Below.heap_setCell _ _ _ _ (by simp)).trans g2
    have hc1 : ((W11.setCell ⟨w.heap.size, 0, none⟩ (.int .i64 1)).setCell ⟨w.heap.size + 1, 0, none⟩ (.int .i64 0)).cell? ⟨w.heap.size, 0, none⟩ = some (.int .i64 1) := (blk_cell ((Below.heap_setCell _ _ _ _ (by simp)).trans v1) 0).trans rfl
    have hc2 : ((W11.setCell ⟨w.heap.size, 0, none⟩ (.int .i64 1)).setCell ⟨w.heap.size + 1, 0, none⟩ (.int .i64 0)).cell? ⟨w.heap.size + 1, 0, none⟩ = some (.int .i64 0) := (blk_cell (blk_set v2 0 _) 0).trans rfl
    clear g1 g2 hkp v1 v2 p0 p1 p2 p3 HT11
    revert HF HG hc1 hc2
    generalize (W11.setCell ⟨w.heap.size, 0, none⟩ (.int .i64 1)).setCell ⟨w.heap.size + 1, 0, none⟩ (.int .i64 0) = WF
    intro HF HG hc1 hc2
    refine leaves_cons (f := 108) (args := #[.pointer (some ⟨w.heap.size + 1, 0, none⟩)]) (by simp) (by simp [go_sem]) ?_
    refine (caught_idle _ _).mono ?_
    rintro e u' w'' ⟨rfl, rfl, rfl⟩
    refine leaves_cons (f := 114) (args := #[.pointer (some ⟨w.heap.size + 1, 0, none⟩), .pointer (some ⟨w.heap.size, 0, none⟩)]) (by simp [settle]) (by simp [go_sem]) ?_
    refine (take1_idle _ _ _ hc2).mono ?_
    rintro e u' w'' ⟨rfl, rfl, rfl⟩
    refine ⟨_, ?_, rfl, e1, HF.out, HG.out⟩
    simp [results, Try.results62, go_sem, hc1, hc2]
end Go.Proofs.Ytkedodmlbepfnaa.Lg

-- from the working text Al
set_option linter.unusedSimpArgs false
set_option linter.unusedVariables false
namespace Go.Proofs.Ytkedodmlbepfnaa.Lg
open Go.RowKit Go.Proofs.YtkedodmlbepfnaaW.PrintWords Go.Proofs.YtkedodmlbepfnaaW.PrintLast Go.Proofs.YtkedodmlbepfnaaW.PrintMore Go.Proofs.Ytkedodmlbepfnaa.Rg
set_option maxHeartbeats 8000000 in
set_option maxRecDepth 100000 in
theorem all_calls (w : World) (S : Nat → Prop) (gb gd : Nat) (e0 : Value) (used f : Int) (nE : Nat) (xs : List Value) (hb : BookAt w gb gd e0 used f) (ho : Own w S 23 3 e0 nE xs) (hn1 : 1 ≤ nE) (hn : nE ≤ 60) (h1 : ∀ u ∈ xs, u.oneCell' = true) :
    Calls Try.prog 63 #[.pointer (some ⟨gb, 0, none⟩)] w fun e w' => ∃ v, e = .returned v ∧ w'.ownsRow w.heap.size 23 3 v nE xs ∧ Below w.heap.size w w' := by
  have HB := Aside0.mk hb
  obtain ⟨gE, c, cur, rfl, hSE, hcur, hnc, hc63, hcs, htk⟩ := ho.form hn1
  have c0 : w.cell? ⟨gb, 0, none⟩ = some (.int .i64 2) := (blk_cell hb 0).trans rfl
  have c1 : w.cell? ⟨gb, 1, none⟩ = some (.slice (some ⟨gE, 0, none⟩) nE c) := (blk_cell hb 1).trans rfl
  have hlen := ho.1.1
  have hnews : ∀ j u, xs[j]? = some u → w.cell? ((⟨gE, 0, none⟩ : Addr).add j) = some u := by
    intro j u hu
    rw [Addr.add_mid, Nat.zero_add, blk_cell hcur j]
    rw [← htk, List.getElem?_take] at hu
    split at hu
    · rw [← Array.getElem?_toList]; exact hu
    · cases hu
  obtain ⟨i0, hi, hz0, hz1, hz2⟩ := info_parts info23
  clear hb ho hcur htk
  go_enter Try.func63, Try.ntmps63
  go_wp2
  refine wp_loop_rounds 3 ?_
  rw [rounds_succ]
  go_wp2_with (at_builtin; refine wpList_append_own _ rfl _ _ 24 rfl w.heap.size 23 i0 _ 3 32 Try.underlying24 hi hz0 hz1 hz2 rfl (by decide) _ _ _ rfl (own_nil w w.heap.size 23 3) ⟨gE, 0, none⟩ nE c xs rfl hlen hnews h1 ?q1 ?q2 (Nat.le_refl _) ?_; (case q1 => simp only [maxLen]; omega); (case q2 => omega); intro v1 w1 hown hg _)
  have hbw : Below w.heap.size w w1 := ⟨hg.os, hg.tape, hg.output, hg.size, fun k hk => hg.block k hk (by simp [Act.eval, Value.ownBlock])⟩
  have c2 : w1.cell? ⟨gb, 2, none⟩ = some (.slice none 0 0) := (blk_cell (HB.out.below hbw) 2).trans rfl
  rw [Nat.zero_add, List.nil_append] at hown
  have HOwn := Aside0.mk hown
  have HBw := Aside0.mk hbw
  clear hg hown hbw c0 c1 hnews hlen
  rw [rounds_succ]
  go_wp2_with (at_builtin; refine wpList_append_own_none rfl _ _ 24 rfl w.heap.size 23 i0 3 Try.underlying24 hi _ _ _ rfl HOwn.out rfl ?_)
  rw [rounds_succ]
  go_wp2
  go_ret
  exact ⟨_, rfl, HOwn.out, HBw.out⟩
end Go.Proofs.Ytkedodmlbepfnaa.Lg

-- from the working text Ex
set_option linter.unusedSimpArgs false
set_option linter.unusedVariables false
namespace Go.Proofs.Ytkedodmlbepfnaa.Lg
open Go.RowKit Go.Proofs.YtkedodmlbepfnaaW.PrintWords Go.Proofs.YtkedodmlbepfnaaW.PrintLast Go.Proofs.YtkedodmlbepfnaaW.PrintMore Go.Proofs.Ytkedodmlbepfnaa.Rg
/-- The error of an entry. -/
def errE (e : S23) : Int := if Valid e then 0 else 90
theorem errE_f (e : S23) : ledger_CheckEntry.f e.f0 e.f1 e.f2 = some (errE e) := by
  unfold ledger_CheckEntry.f errE
  by_cases hv : Valid e
  · have hv2 := hv
    unfold Valid at hv2
    rw [if_pos hv, if_neg (by omega), if_neg (by omega), if_neg (by omega), if_neg (by omega), if_neg (by omega)]
  · have hv2 := hv
    unfold Valid at hv2
    rw [if_neg hv]
    repeat' split
    all_goals first | rfl | (exfalso; omega)
theorem errE_rf (e : S23) : acreageref09_CheckEntry.f e.f0 e.f1 e.f2 = some (errE e) := errE_f e
theorem checkE_calls (e : S23) (w : World) : Calls Try.prog 16 #[.agg #[.int .i64 e.f0, .int .i64 e.f1, .string e.f2]] w fun x w' => x = .returned (.int .i64 (errE e)) ∧ Below w.heap.size w w' := ledger_CheckEntry.calls _ _ _ _ w (errE_f e)
theorem rcheckE_calls (e : S23) (w : World) : Calls Try.prog 17 #[.agg #[.int .i64 e.f0, .int .i64 e.f1, .string e.f2]] w fun x w' => x = .returned (.int .i64 (errE e)) ∧ Below w.heap.size w w' := acreageref09_CheckEntry.calls _ _ _ _ w (errE_rf e)
/-- The error of a list. -/
def errL (l : List S23) : Int := if 512 < l.length then 2 else if ∀ e ∈ l, Valid e then 0 else 90
theorem errL_len {l : List S23} (h : errL l = 0) : l.length ≤ 512 := by
  unfold errL at h
  split at h
  · cases h
  · omega
theorem errL_valid {l : List S23} (h : errL l = 0) : ∀ e ∈ l, Valid e := by
  unfold errL at h
  split at h
  · cases h
  · split at h
    · assumption
    · cases h
theorem rd_T23_get {l : List S23} {j : Nat} (h : j < l.length) : rd_T23 l (j : Int) = l[j] := by simp [rd_T23, List.getD_eq_getElem?_getD, h]
theorem checkL_l0 (l : List S23) (hn : l.length ≤ 9223372036854775806) : ∀ (d j k : Nat), l.length - j = d → j ≤ l.length → d < k → ledger_checkList.l0 k l (l.length : Int) (j : Int) = some (if ∀ e ∈ l.drop j, Valid e then 0 else 90)
  | 0, j, k, hd, hj, hk => by
    obtain ⟨k, rfl⟩ : ∃ m, k = m + 1 := ⟨k - 1, by omega⟩
    have : j = l.length := by omega
    subst this
    simp [ledger_checkList.l0]
  | d + 1, j, k, hd, hj, hk => by
    obtain ⟨k, rfl⟩ : ∃ m, k = m + 1 := ⟨k - 1, by omega⟩
    have hlt : j < l.length := by omega
    rw [ledger_checkList.l0, if_pos (by omega), if_pos (by omega), if_pos (by omega), rd_T23_get hlt, errE_f, Option.bind_some, w64_succ (n := l.length) (by omega) (by omega) (by omega), List.drop_eq_getElem_cons hlt]
    by_cases hv : Valid l[j]
    · rw [show errE l[j] = 0 from if_pos hv, if_pos rfl]
      have ih := checkL_l0 l hn d (j + 1) k (by omega) (by omega) (by omega)
      rw [show ((j : Int) + 1) = ((j + 1 : Nat) : Int) by omega, ih]
      congr 1
      by_cases ha : ∀ e ∈ l.drop (j + 1), Valid e
      · rw [if_pos ha, if_pos (fun e he => (List.mem_cons.1 he).elim (fun h => h ▸ hv) (ha e))]
      · rw [if_neg ha, if_neg (fun h => ha fun e he => h e (List.mem_cons_of_mem _ he))]
    · rw [show errE l[j] = 90 from if_neg hv, if_neg (by decide), if_neg (fun h => hv (h _ List.mem_cons_self))]
theorem rcheckL_l0 (l : List S23) (hn : l.length ≤ 9223372036854775806) : ∀ (d j k : Nat), l.length - j = d → j ≤ l.length → d < k → acreageref09_check.l0 k l (j : Int) = some (if ∀ e ∈ l.drop j, Valid e then 0 else 90)
  | 0, j, k, hd, hj, hk => by
    obtain ⟨k, rfl⟩ : ∃ m, k = m + 1 := ⟨k - 1, by omega⟩
    have : j = l.length := by omega
    subst this
    simp [acreageref09_check.l0]
  | d + 1, j, k, hd, hj, hk => by
    obtain ⟨k, rfl⟩ : ∃ m, k = m + 1 := ⟨k - 1, by omega⟩
    have hlt : j < l.length := by omega
    rw [acreageref09_check.l0, if_pos (by omega), if_pos (by omega), rd_T23_get hlt, errE_rf, Option.bind_some, w64_succ (n := l.length) (by omega) (by omega) (by omega), List.drop_eq_getElem_cons hlt]
    by_cases hv : Valid l[j]
    · rw [show errE l[j] = 0 from if_pos hv, if_pos rfl]
      have ih := rcheckL_l0 l hn d (j + 1) k (by omega) (by omega) (by omega)
      rw [show ((j : Int) + 1) = ((j + 1 : Nat) : Int) by omega, ih]
      congr 1
      by_cases ha : ∀ e ∈ l.drop (j + 1), Valid e
      · rw [if_pos ha, if_pos (fun e he => (List.mem_cons.1 he).elim (fun h => h ▸ hv) (ha e))]
      · rw [if_neg ha, if_neg (fun h => ha fun e he => h e (List.mem_cons_of_mem _ he))]
    · rw [show errE l[j] = 90 from if_neg hv, if_neg (by decide), if_neg (fun h => hv (h _ List.mem_cons_self))]
theorem checkL_f (l : List S23) : ledger_checkList.f 514 l = some (errL l) := by
  unfold ledger_checkList.f errL
  by_cases h : 512 < l.length
  · rw [if_pos (by omega), if_pos h]
  · rw [if_neg (by omega), if_neg h]
    exact checkL_l0 l (by omega) l.length 0 514 (by omega) (by omega) (by omega)
theorem rcheckL_f (l : List S23) : acreageref09_check.f 514 l = some (errL l) := by
  unfold acreageref09_check.f errL
  by_cases h : 512 < l.length
  · rw [if_pos (by omega), if_pos h]
  · rw [if_neg (by omega), if_neg h]
    exact rcheckL_l0 l (by omega) l.length 0 514 (by omega) (by omega) (by omega)
theorem checkL_calls (l : List S23) (A : Option Addr) (c : Nat) (w : World) (hr0 : Kd.C k23 w A l.length l) (hc0 : l.length ≤ c) : Calls Try.prog 68 #[.slice A l.length c] w fun x w' => x = .returned (.int .i64 (errL l)) ∧ Below w.heap.size w w' := ledger_checkList.calls _ A c l _ w hr0 hc0 (checkL_f l)
theorem rcheckL_calls (l : List S23) (A : Option Addr) (c : Nat) (w : World) (hr0 : Kd.C k23 w A l.length l) (hc0 : l.length ≤ c) : Calls Try.prog 70 #[.slice A l.length c] w fun x w' => x = .returned (.int .i64 (errL l)) ∧ Below w.heap.size w w' := acreageref09_check.calls _ A c l _ w hr0 hc0 (rcheckL_f l)
set_option maxHeartbeats 4000000 in
set_option maxRecDepth 100000 in
theorem leafX_calls (e : S23) (w : World) : Calls Try.prog 12 #[.agg #[.int .i64 e.f0, .int .i64 e.f1, .string e.f2]] w fun x w' => x = .returned (.tuple #[.int .u64 (if Valid e then leafS e else 0), .int .i64 (errE e)]) ∧ Below w.heap.size w w' := by
  have hB1 : Below w.heap.size w (w.alloc (.cells #[.int .i64 e.f0, .int .i64 e.f1, .string e.f2] 23)) := below_alloc (Below.refl _ _) _
  have HX := Aside0.mk (blk_new w (.cells #[.int .i64 e.f0, .int .i64 e.f1, .string e.f2] 23))
  have HBe := Aside0.mk hB1
  clear hB1
  by_cases h : Valid e
  · have he : errE e = 0 := if_pos h
    have HV := Aside0.mk h
    have hv5 : e.f2.size ≤ 2400 := h.2.2.2.2
    rw [if_pos h]
    clear h
    go_enter Try.func12, Try.ntmps12
    go_wp2_with (first
      | (go_at_call 16; (with_reducible refine (checkE_calls e _).mono ?_); rintro x w1 ⟨rfl, hb⟩; rw [he]; have n3_ := Aside0.mk ((hb.block _ (blk_lt HX.out)).trans HX.out); have n4_ := Aside0.mk (HBe.out.trans (hb.mono HBe.out.size)); clear HX HBe hb; have HX := n3_; have HBe := n4_; clear n3_ n4_; have x0 := (blk_cell HX.out 0).trans rfl; have x1 := (blk_cell HX.out 1).trans rfl; have x2 := (blk_cell HX.out 2).trans rfl)
      | (go_at_call 66; (with_reducible refine (leaf_spec e hv5 _).mono ?_); rintro x w1 ⟨rfl, hb⟩; have n4_ := Aside0.mk (HBe.out.trans (hb.mono HBe.out.size)); clear HX HBe hb; have HBe := n4_; clear n4_))
    go_ret2
    exact ⟨by rw [he]; rfl, HBe.out⟩
  · have he : errE e = 90 := if_neg h
    rw [if_neg h]
    clear h
    go_enter Try.func12, Try.ntmps12
    go_wp2_with (go_at_call 16; (with_reducible refine (checkE_calls e _).mono ?_); rintro x w1 ⟨rfl, hb⟩; rw [he]; have n4_ := Aside0.mk (HBe.out.trans (hb.mono HBe.out.size)); clear HX HBe hb; have HBe := n4_; clear n4_)
    go_ret2
    exact ⟨by rw [he]; rfl, HBe.out⟩
set_option maxHeartbeats 4000000 in
set_option maxRecDepth 100000 in
theorem rootX_calls (l : List S23) (A : Option Addr) (c : Nat) (w : World) (hr0 : Kd.C k23 w A l.length l) (hc0 : l.length ≤ c) : Calls Try.prog 14 #[.slice A l.length c] w fun x w' => x = .returned (.tuple #[.int .u64 (if errL l = 0 then rootS l else 0), .int .i64 (errL l)]) ∧ Below w.heap.size w w' := by
  have HR := Aside0.mk hr0
  have HBe := Aside0.mk (Below.refl w.heap.size w)
  clear hr0
  by_cases h : errL l = 0
  · have HL := Aside0.mk (errL_len h)
    have HV := Aside0.mk (errL_valid h)
    rw [if_pos h]
    go_enter Try.func14, Try.ntmps14
    go_wp2_with (first
      | (go_at_call 68; (with_reducible refine (checkL_calls l A c _ HR.out hc0).mono ?_); rintro x w1 ⟨rfl, hb⟩; rw [h]; have n3_ := Aside0.mk (Kd.C_below HR.out hb); have n4_ := Aside0.mk (HBe.out.trans hb); clear HR HBe hb; have HR := n3_; have HBe := n4_; clear n3_ n4_)
      | (go_at_call 69; (with_reducible refine (root_calls l.length l l.length A c _ rfl (Nat.le_refl _) HR.out hc0 HL.out HV.out).mono ?_); rintro x w1 ⟨rfl, hb⟩; have n4_ := Aside0.mk (HBe.out.trans (hb.mono HBe.out.size)); clear HBe hb; have HBe := n4_; clear n4_))
    go_ret2
    exact ⟨by rw [h]; rfl, HBe.out⟩
  · rw [if_neg h]
    have hb0 : ((errL l) == 0) = false := by rw [beq_eq_false_iff_ne]; exact h
    go_enter Try.func14, Try.ntmps14
    go_wp2_with (go_at_call 68; (with_reducible refine (checkL_calls l A c _ HR.out hc0).mono ?_); rintro x w1 ⟨rfl, hb⟩; have n4_ := Aside0.mk (HBe.out.trans hb); clear HR HBe hb; have HBe := n4_; clear n4_)
    go_ret2
    exact ⟨rfl, HBe.out⟩
set_option maxHeartbeats 4000000 in
set_option maxRecDepth 100000 in
theorem rleafX_calls (e : S23) (w : World) : Calls Try.prog 13 #[.agg #[.int .i64 e.f0, .int .i64 e.f1, .string e.f2]] w fun x w' => x = .returned (.tuple #[.int .u64 (if Valid e then leafS e else 0), .int .i64 (errE e)]) ∧ Below w.heap.size w w' := by
  have hB1 : Below w.heap.size w (w.alloc (.cells #[.int .i64 e.f0, .int .i64 e.f1, .string e.f2] 23)) := below_alloc (Below.refl _ _) _
  have HX := Aside0.mk (blk_new w (.cells #[.int .i64 e.f0, .int .i64 e.f1, .string e.f2] 23))
  have HBe := Aside0.mk hB1
  clear hB1
  by_cases h : Valid e
  · have he : errE e = 0 := if_pos h
    have HV := Aside0.mk h
    have hv5 : e.f2.size ≤ 2400 := h.2.2.2.2
    rw [if_pos h]
    clear h
    go_enter Try.func13, Try.ntmps13
    go_wp2_with (first
      | (go_at_call 17; (with_reducible refine (rcheckE_calls e _).mono ?_); rintro x w1 ⟨rfl, hb⟩; rw [he]; have n3_ := Aside0.mk ((hb.block _ (blk_lt HX.out)).trans HX.out); have n4_ := Aside0.mk (HBe.out.trans (hb.mono HBe.out.size)); clear HX HBe hb; have HX := n3_; have HBe := n4_; clear n3_ n4_; have x0 := (blk_cell HX.out 0).trans rfl; have x1 := (blk_cell HX.out 1).trans rfl; have x2 := (blk_cell HX.out 2).trans rfl)
      | (go_at_call 67; (with_reducible refine (rleaf_spec e HV.out _).mono ?_); rintro x w1 ⟨rfl, hb⟩; have n4_ := Aside0.mk (HBe.out.trans (hb.mono HBe.out.size)); clear HX HBe hb; have HBe := n4_; clear n4_))
    go_ret2
    exact ⟨by rw [he]; rfl, HBe.out⟩
  · have he : errE e = 90 := if_neg h
    rw [if_neg h]
    clear h
    go_enter Try.func13, Try.ntmps13
    go_wp2_with (go_at_call 17; (with_reducible refine (rcheckE_calls e _).mono ?_); rintro x w1 ⟨rfl, hb⟩; rw [he]; have n4_ := Aside0.mk (HBe.out.trans (hb.mono HBe.out.size)); clear HX HBe hb; have HBe := n4_; clear n4_)
    go_ret2
    exact ⟨by rw [he]; rfl, HBe.out⟩
set_option maxHeartbeats 4000000 in
set_option maxRecDepth 100000 in
theorem rrootX_calls (l : List S23) (A : Option Addr) (c : Nat) (w : World) (hr0 : Kd.C k23 w A l.length l) (hc0 : l.length ≤ c) : Calls Try.prog 15 #[.slice A l.length c] w fun x w' => x = .returned (.tuple #[.int .u64 (if errL l = 0 then rootS l else 0), .int .i64 (errL l)]) ∧ Below w.heap.size w w' := by
  have HR := Aside0.mk hr0
  have HBe := Aside0.mk (Below.refl w.heap.size w)
  clear hr0
  by_cases h : errL l = 0
  · have HL := Aside0.mk (errL_len h)
    have HV := Aside0.mk (errL_valid h)
    rw [if_pos h]
    go_enter Try.func15, Try.ntmps15
    go_wp2_with (first
      | (go_at_call 70; (with_reducible refine (rcheckL_calls l A c _ HR.out hc0).mono ?_); rintro x w1 ⟨rfl, hb⟩; rw [h]; have n3_ := Aside0.mk (Kd.C_below HR.out hb); have n4_ := Aside0.mk (HBe.out.trans hb); clear HR HBe hb; have HR := n3_; have HBe := n4_; clear n3_ n4_)
      | (go_at_call 71; (with_reducible refine (rroot_calls l.length l l.length A c _ rfl (Nat.le_refl _) HR.out hc0 HL.out HV.out).mono ?_); rintro x w1 ⟨rfl, hb⟩; have n4_ := Aside0.mk (HBe.out.trans (hb.mono HBe.out.size)); clear HBe hb; have HBe := n4_; clear n4_))
    go_ret2
    exact ⟨by rw [h]; rfl, HBe.out⟩
  · rw [if_neg h]
    have hb0 : ((errL l) == 0) = false := by rw [beq_eq_false_iff_ne]; exact h
    go_enter Try.func15, Try.ntmps15
    go_wp2_with (go_at_call 70; (with_reducible refine (rcheckL_calls l A c _ HR.out hc0).mono ?_); rintro x w1 ⟨rfl, hb⟩; have n4_ := Aside0.mk (HBe.out.trans hb); clear HR HBe hb; have HBe := n4_; clear n4_)
    go_ret2
    exact ⟨rfl, HBe.out⟩
end Go.Proofs.Ytkedodmlbepfnaa.Lg

-- from the working text Rpath
set_option linter.unusedSimpArgs false
set_option linter.unusedVariables false
namespace Go.Proofs.Ytkedodmlbepfnaa.Lg
open Go.RowKit Go.Proofs.YtkedodmlbepfnaaW.PrintWords Go.Proofs.YtkedodmlbepfnaaW.PrintLast Go.Proofs.YtkedodmlbepfnaaW.PrintMore Go.Proofs.Ytkedodmlbepfnaa.Rg
def rpathARel (f : Nat) (l : List S23) (A : Option Addr) (c : Nat) (i : Nat) (B : Nat) : Nat → Value → World → Prop
  | 0, v, _ => v = .slice A l.length c
  | 1, v, _ => v = .int .i64 (splitS l.length : Int)
  | 2, v, _ => v = .int .i64 (splitS l.length : Int)
  | 3, v, _ => v = .slice A (splitS l.length) (splitS l.length)
  | 4, v, _ => v = .int .i64 (i : Int)
  | 5, v, w => Nums w B v (pathF f (l.take (splitS l.length)) i)
  | 6, v, _ => v = .slice A l.length c
  | 7, v, _ => v = .int .i64 (splitS l.length : Int)
  | 8, v, _ => v = .slice (if c = splitS l.length then A else A.map (·.add (splitS l.length * 3))) (l.length - splitS l.length) (c - splitS l.length)
  | 9, v, _ => v = .int .u64 (rootS (l.drop (splitS l.length)))
  | 10, v, w => ∃ g, v = .slice (some ⟨g, 0, none⟩) 1 1 ∧ w.cell? ⟨g, 0, none⟩ = some (.int .u64 (rootS (l.drop (splitS l.length))))
  | 11, v, w => Nums w B v (pathF f (l.take (splitS l.length)) i ++ [rootS (l.drop (splitS l.length))])
  | 12, v, w => Nums w B v (pathF f (l.take (splitS l.length)) i ++ [rootS (l.drop (splitS l.length))])
  | _, _, _ => True
theorem rpathARel_stable (f : Nat) (l : List S23) (A : Option Addr) (c : Nat) (i : Nat) (B : Nat) (j : Nat) (v : Value) (w w' : World) (h : rpathARel f l A c i B j v w) (hb : Below w.heap.size w w') : rpathARel f l A c i B j v w' := by
  revert h
  unfold rpathARel
  split <;> intro h <;> first | exact h | exact Nums.below h hb | (obtain ⟨g, h1, h2⟩ := h; exact ⟨g, h1, pw_cell_below hb h2⟩)
def rpathBRel (f : Nat) (l : List S23) (A : Option Addr) (c : Nat) (i : Nat) (B : Nat) : Nat → Value → World → Prop
  | 0, v, _ => v = .slice A l.length c
  | 1, v, _ => v = .int .i64 (splitS l.length : Int)
  | 2, v, _ => v = .slice (if c = splitS l.length then A else A.map (·.add (splitS l.length * 3))) (l.length - splitS l.length) (c - splitS l.length)
  | 3, v, _ => v = .int .i64 (i : Int)
  | 4, v, _ => v = .int .i64 (splitS l.length : Int)
  | 5, v, _ => v = .int .i64 ((i : Int) - (splitS l.length : Int))
  | 6, v, w => Nums w B v (pathF f (l.drop (splitS l.length)) (i - splitS l.length))
  | 7, v, _ => v = .slice A l.length c
  | 8, v, _ => v = .int .i64 (splitS l.length : Int)
  | 9, v, _ => v = .int .i64 (splitS l.length : Int)
  | 10, v, _ => v = .slice A (splitS l.length) (splitS l.length)
  | 11, v, _ => v = .int .u64 (rootS (l.take (splitS l.length)))
  | 12, v, w => ∃ g, v = .slice (some ⟨g, 0, none⟩) 1 1 ∧ w.cell? ⟨g, 0, none⟩ = some (.int .u64 (rootS (l.take (splitS l.length))))
  | 13, v, w => Nums w B v (pathF f (l.drop (splitS l.length)) (i - splitS l.length) ++ [rootS (l.take (splitS l.length))])
  | 14, v, w => Nums w B v (pathF f (l.drop (splitS l.length)) (i - splitS l.length) ++ [rootS (l.take (splitS l.length))])
  | _, _, _ => True
theorem rpathBRel_stable (f : Nat) (l : List S23) (A : Option Addr) (c : Nat) (i : Nat) (B : Nat) (j : Nat) (v : Value) (w w' : World) (h : rpathBRel f l A c i B j v w) (hb : Below w.heap.size w w') : rpathBRel f l A c i B j v w' := by
  revert h
  unfold rpathBRel
  split <;> intro h <;> first | exact h | exact Nums.below h hb | (obtain ⟨g, h1, h2⟩ := h; exact ⟨g, h1, pw_cell_below hb h2⟩)
set_option maxHeartbeats 8000000 in
set_option maxRecDepth 100000 in
theorem rpath_calls : ∀ (f : Nat) (l : List S23) (n : Nat) (A : Option Addr) (c : Nat) (i : Nat) (w : World), n = l.length → n ≤ f → f ≤ 512 → 1 ≤ n → Kd.C k23 w A n l → n ≤ c → n ≤ 512 → (∀ e ∈ l, Valid e) → i < n →
    Calls Try.prog 77 #[.slice A n c, .int .i64 (i : Int)] w fun e w' => ∃ v, e = .returned v ∧ Nums w' w.heap.size v (pathF f l i) ∧ Below w.heap.size w w' := by
  intro f
  induction f with
  | zero => intro l n A c i w hn hf hf5 h1; omega
  | succ f ih0 =>
    intro l n A c i w hn hf hf5 h1 hr0 hc0 h5 hv0 hin
    subst hn
    have hr := Aside0.mk hr0
    have hc := Aside0.mk hc0
    have hv := Aside0.mk hv0
    have ih := ih0
    clear hr0 hc0 hv0 ih0
    have hf1 : l.length ≤ f + 1 := hf
    clear hf
    by_cases c1 : l.length = 1
    · have hE := Aside0.mk (show pathF (f + 1) l i = [] by rw [pathF, if_pos c1])
      rw [c1]
      have hi0 : i = 0 := by omega
      subst hi0
      clear c1 hf1 h5 ih hr hv hin h1
      go_enter Try.func77, Try.ntmps77
      go_wp2
      go_ret
      exact ⟨_, rfl, by rw [hE.out]; exact Nums.nil _ _, (by repeat (first | exact Below.refl _ _ | apply below_drew | apply pw_below_drewN))⟩
    · have c1b : ((l.length : Int) == 1) = false := by rw [beq_eq_false_iff_ne]; omega
      have h2 : 2 ≤ l.length := by omega
      have s1 := split_lt h2
      have s2 := split_pos l.length
      have s3 := split_le h2
      by_cases hk : i < splitS l.length
      · have hE := Aside0.mk (show pathF (f + 1) l i = _ by rw [pathF, if_neg c1, if_pos hk])
        have hkb : decide ((i : Int) < (splitS l.length : Int)) = true := by simp; omega
        have hkn : decide (i < splitS l.length) = true := by simp; omega
        clear c1
        go_enter Try.func77, Try.ntmps77
        go_wp2_with (go_at_call 105; (with_reducible refine (rsplit_any l.length h2 h5 _).mono ?_); rintro e w' ⟨rfl, ⟨nd, rfl⟩⟩)
        obtain ⟨i0, hi0, hi1x, hi2, _⟩ := info_parts info23
        generalize hW : w.drewN nd = W
        have hbW : Below w.heap.size w W := by rw [← hW]; exact pw_below_drewN (Below.refl _ _) nd
        have hr' := Aside0.mk (Kd.C_below hr.out hbW)
        clear hr
        have hr := hr'
        clear hr' hW
        · refine rg2_ 11 [0, 1, 2, 3, 4, 5, 6, 7, 8, 9, 10, 11, 12] [(0, 15), (1, 16), (2, 17), (3, 18), (4, 19), (5, 20), (6, 21), (7, 22), (8, 23), (9, 24), (10, 25), (11, 26), (12, 4)] (bitsOf (rtab .any (opsOf Try.f77 5)).2) (rpathARel f l A c i W.heap.size) (by kernel_rfl) rfl (by kernel_rfl) rfl (by kernel_rfl) ?stab ?steps ?rend
          case steps =>
            refine steps2_cons (by decide) (fun a1 w1 hB hsz hdf hn hd => ⟨_, rfl, fun K hK => ?_⟩) ?_
            · have e0 := eval_of ((hn 0 rfl).trans rfl)
              refine value_ (v := .slice A l.length c) (w1 := w1) rfl rfl ?_ (hK _ _ (Below.refl _ _) rfl)
              clear hd hn hK
              simp only [execOp, Option.map_some, Option.map_none, List.map_toArray, List.map_cons, List.map_nil, List.getElem_toArray, List.getElem_cons_zero, List.getElem_cons_succ, e0]
              clear e0
              go_simp
            refine steps2_cons (by decide) (fun a1 w1 hB hsz hdf hn hd => ⟨_, rfl, fun K hK => ?_⟩) ?_
            · have e5 := eval_of ((hn 5 rfl).trans rfl)
              refine value_ (v := .int .i64 (splitS l.length : Int)) (w1 := w1) rfl rfl ?_ (hK _ _ (Below.refl _ _) rfl)
              clear hd hn hK
              simp only [execOp, Option.map_some, Option.map_none, List.map_toArray, List.map_cons, List.map_nil, List.getElem_toArray, List.getElem_cons_zero, List.getElem_cons_succ, e5]
              clear e5
              go_simp
            refine steps2_cons (by decide) (fun a1 w1 hB hsz hdf hn hd => ⟨_, rfl, fun K hK => ?_⟩) ?_
            · have e5 := eval_of ((hn 5 rfl).trans rfl)
              refine value_ (v := .int .i64 (splitS l.length : Int)) (w1 := w1) rfl rfl ?_ (hK _ _ (Below.refl _ _) rfl)
              clear hd hn hK
              simp only [execOp, Option.map_some, Option.map_none, List.map_toArray, List.map_cons, List.map_nil, List.getElem_toArray, List.getElem_cons_zero, List.getElem_cons_succ, e5]
              clear e5
              go_simp
            refine steps2_cons (by decide) (fun a1 w1 hB hsz hdf hn hd => ⟨_, rfl, fun K hK => ?_⟩) ?_
            · obtain ⟨v15, h15, rfl⟩ := hd 0 15 rfl (by kernel_rfl)
              have e15 := eval_of h15
              clear h15
              obtain ⟨v16, h16, rfl⟩ := hd 1 16 rfl (by kernel_rfl)
              have e16 := eval_of h16
              clear h16
              obtain ⟨v17, h17, rfl⟩ := hd 2 17 rfl (by kernel_rfl)
              have e17 := eval_of h17
              clear h17
              refine value_ (v := .slice A (splitS l.length) (splitS l.length)) (w1 := w1) rfl rfl ?_ (hK _ _ (Below.refl _ _) rfl)
              clear hd hn hK
              simp only [execOp, Option.map_some, Option.map_none, List.map_toArray, List.map_cons, List.map_nil, List.getElem_toArray, List.getElem_cons_zero, List.getElem_cons_succ, e15, e16, e17]
              clear e15 e16 e17
              have hq := cut_to3 24 23 .i64 .i64 Try.underlying24 hi0 A l.length c (splitS l.length) (by have := hc.out; omega) w1
              try simp only [Int.toNat_natCast] at hq
              clear hr hc hv ih hE hB
              go_simp
            refine steps2_cons (by decide) (fun a1 w1 hB hsz hdf hn hd => ⟨_, rfl, fun K hK => ?_⟩) ?_
            · have e1 := eval_of ((hn 1 rfl).trans rfl)
              refine value_ (v := .int .i64 (i : Int)) (w1 := w1) rfl rfl ?_ (hK _ _ (Below.refl _ _) rfl)
              clear hd hn hK
              simp only [execOp, Option.map_some, Option.map_none, List.map_toArray, List.map_cons, List.map_nil, List.getElem_toArray, List.getElem_cons_zero, List.getElem_cons_succ, e1]
              clear e1
              go_simp
            refine steps2_cons (by decide) (fun a1 w1 hB hsz hdf hn hd => ⟨_, rfl, fun K hK => ?_⟩) ?_
            · obtain ⟨v18, h18, rfl⟩ := hd 3 18 rfl (by kernel_rfl)
              have e18 := eval_of h18
              clear h18
              obtain ⟨v19, h19, rfl⟩ := hd 4 19 rfl (by kernel_rfl)
              have e19 := eval_of h19
              clear h19
              refine goes_ Try.func77 (by kernel_rfl) rfl #[.slice A (splitS l.length) (splitS l.length), .int .i64 (i : Int)] (by rfl) rfl rfl (by simp only [List.map_toArray, List.map_cons, List.map_nil, e18, e19]) ?_
              have hl1 : (l.take (splitS l.length)).length = splitS l.length := by rw [List.length_take]; omega
              have hC := Kd.C_below (Kd.C_take hr.out (m := splitS l.length) (by omega)) hB
              rw [hl1] at hC
              refine (ih (l.take (splitS l.length)) _ _ _ i w1 hl1.symm (by omega) (by omega) (by omega) hC (by have := hc.out; omega) (by omega) (fun e he => hv.out e (List.mem_of_mem_take he)) (by omega)).mono ?_
              rintro e w2 ⟨v, rfl, hN, hbw⟩
              exact ⟨_, rfl, hK _ _ hbw (Nums.mono hN hB.size)⟩
            refine steps2_cons (by decide) (fun a1 w1 hB hsz hdf hn hd => ⟨_, rfl, fun K hK => ?_⟩) ?_
            · have e0 := eval_of ((hn 0 rfl).trans rfl)
              refine value_ (v := .slice A l.length c) (w1 := w1) rfl rfl ?_ (hK _ _ (Below.refl _ _) rfl)
              clear hd hn hK
              simp only [execOp, Option.map_some, Option.map_none, List.map_toArray, List.map_cons, List.map_nil, List.getElem_toArray, List.getElem_cons_zero, List.getElem_cons_succ, e0]
              clear e0
              go_simp
            refine steps2_cons (by decide) (fun a1 w1 hB hsz hdf hn hd => ⟨_, rfl, fun K hK => ?_⟩) ?_
            · have e5 := eval_of ((hn 5 rfl).trans rfl)
              refine value_ (v := .int .i64 (splitS l.length : Int)) (w1 := w1) rfl rfl ?_ (hK _ _ (Below.refl _ _) rfl)
              clear hd hn hK
              simp only [execOp, Option.map_some, Option.map_none, List.map_toArray, List.map_cons, List.map_nil, List.getElem_toArray, List.getElem_cons_zero, List.getElem_cons_succ, e5]
              clear e5
              go_simp
            refine steps2_cons (by decide) (fun a1 w1 hB hsz hdf hn hd => ⟨_, rfl, fun K hK => ?_⟩) ?_
            · obtain ⟨v21, h21, rfl⟩ := hd 6 21 rfl (by kernel_rfl)
              have e21 := eval_of h21
              clear h21
              obtain ⟨v22, h22, rfl⟩ := hd 7 22 rfl (by kernel_rfl)
              have e22 := eval_of h22
              clear h22
              refine value_ (v := .slice (if c = splitS l.length then A else A.map (·.add (splitS l.length * 3))) (l.length - splitS l.length) (c - splitS l.length)) (w1 := w1) rfl rfl ?_ (hK _ _ (Below.refl _ _) rfl)
              clear hd hn hK
              simp only [execOp, Option.map_some, Option.map_none, List.map_toArray, List.map_cons, List.map_nil, List.getElem_toArray, List.getElem_cons_zero, List.getElem_cons_succ, e21, e22]
              clear e21 e22
              have hq := cut_from 24 23 .i64 Try.underlying24 hi0 3 hi2 A l.length c (splitS l.length : Int) (by omega) (by omega) w1
              try simp only [Int.toNat_natCast] at hq
              clear hr hc hv ih hE hB
              go_simp
            refine steps2_cons (by decide) (fun a1 w1 hB hsz hdf hn hd => ⟨_, rfl, fun K hK => ?_⟩) ?_
            · obtain ⟨v23, h23, rfl⟩ := hd 8 23 rfl (by kernel_rfl)
              have e23 := eval_of h23
              clear h23
              refine goes_ Try.func71 (by kernel_rfl) rfl #[.slice (if c = splitS l.length then A else A.map (·.add (splitS l.length * 3))) (l.length - splitS l.length) (c - splitS l.length)] (by rfl) rfl rfl (by simp only [List.map_toArray, List.map_cons, List.map_nil, e23]) ?_
              have hl1 : (l.drop (splitS l.length)).length = l.length - splitS l.length := by rw [List.length_drop]
              have hC := Kd.C_below (Kd.C_drop hr.out (m := splitS l.length) (by omega) hc.out) hB
              rw [hl1] at hC
              refine (rroot_calls (l.drop (splitS l.length)).length (l.drop (splitS l.length)) _ _ _ w1 hl1.symm (by omega) hC (by have := hc.out; omega) (by omega) (fun e he => hv.out e (List.mem_of_mem_drop he))).mono ?_
              rintro e w2 ⟨rfl, hbw⟩
              exact ⟨_, rfl, hK _ _ hbw rfl⟩
            refine steps2_cons (by decide) (fun a1 w1 hB hsz hdf hn hd => ⟨_, rfl, fun K hK => ?_⟩) ?_
            · obtain ⟨v24, h24, rfl⟩ := hd 9 24 rfl (by kernel_rfl)
              have e24 := eval_of h24
              clear h24
              refine value_ (v := .slice (some ⟨w1.heap.size, 0, none⟩) 1 1) (w1 := w1.alloc (.cells #[.int .u64 (rootS (l.drop (splitS l.length)))] 25)) rfl rfl ?_ (hK _ _ (below_alloc (Below.refl _ _) _) ⟨_, rfl, by simp⟩)
              clear hd hn hK
              simp only [execOp, Option.map_some, Option.map_none, List.map_toArray, List.map_cons, List.map_nil, List.getElem_toArray, List.getElem_cons_zero, List.getElem_cons_succ, e24]
              clear e24
              go_simp
            refine steps2_late (by decide) (fun a1 w1 hB hsz hdf hn hd => ⟨_, rfl, fun K hK => ?_⟩) ?_
            · obtain ⟨v20, h20, q20⟩ := hd 5 20 rfl (by kernel_rfl)
              have hN : Nums w1 W.heap.size v20 (pathF f (l.take (splitS l.length)) i) := q20 (.inl rfl)
              obtain ⟨v25, h25, q25⟩ := hd 10 25 rfl (by kernel_rfl)
              obtain ⟨g, rfl, hcg⟩ := q25 (.inl rfl)
              refine append_ (y := rootS (l.drop (splitS l.length))) rfl rfl rfl (eval_of h20) (eval_of h25) hN hcg (by have := pathF_len f (l.take (splitS l.length)) i; omega) hB.size (fun vv w2 hN2 hg => hK _ _ ?_ (.inl rfl) hN2)
              exact grown_below hB hN (Nat.le_refl _) hB.size hg
            refine steps2_late (by decide) (fun a1 w1 hB hsz hdf hn hd => ⟨_, rfl, fun K hK => ?_⟩) ?_
            · obtain ⟨v26, h26, q26⟩ := hd 11 26 rfl (by kernel_rfl)
              have e26 := eval_of h26
              refine value_ (v := v26) (w1 := w1) rfl rfl ?_ (hK _ _ hB (.inr (Below.refl _ _)) (q26 (.inr (by decide))))
              clear hd hn hK
              simp only [execOp, List.getElem_toArray, List.getElem_cons_zero, List.getElem_cons_succ, e26]
              go_simp
            exact steps2_nil
          case stab => exact fun j v w w' => rpathARel_stable _ _ _ _ _ _ j v w w'
          case rend =>
            intro vals w1 hB hrr
            have hlast := hrr (12, 4) (by simp) (by decide)
            simp only [fill, Act.put, List.setIfInBounds_toArray, List.set_cons_zero, List.set_cons_succ]
            have hlast' : Nums w1 W.heap.size (vals 12) (pathF f (l.take (splitS l.length)) i ++ [rootS (l.drop (splitS l.length))]) := hlast
            clear hlast hrr
            generalize vals 12 = vv at hlast' ⊢
            have HL := Aside0.mk hlast'
            clear hlast'
            go_wp2
            go_ret
            exact ⟨_, rfl, by rw [hE.out]; exact Nums.mono HL.out hbW.size, hbW.trans (hB.mono hbW.size)⟩
      · have hE := Aside0.mk (show pathF (f + 1) l i = _ by rw [pathF, if_neg c1, if_neg hk])
        have hkb : decide ((i : Int) < (splitS l.length : Int)) = false := by simp; omega
        have hkn : decide (i < splitS l.length) = false := by simp; omega
        clear c1
        go_enter Try.func77, Try.ntmps77
        go_wp2_with (go_at_call 105; (with_reducible refine (rsplit_any l.length h2 h5 _).mono ?_); rintro e w' ⟨rfl, ⟨nd, rfl⟩⟩)
        obtain ⟨i0, hi0, hi1x, hi2, _⟩ := info_parts info23
        generalize hW : w.drewN nd = W
        have hbW : Below w.heap.size w W := by rw [← hW]; exact pw_below_drewN (Below.refl _ _) nd
        have hr' := Aside0.mk (Kd.C_below hr.out hbW)
        clear hr
        have hr := hr'
        clear hr' hW
        · refine rg2_ 13 [0, 1, 2, 3, 4, 5, 6, 7, 8, 9, 10, 11, 12, 13, 14] [(0, 27), (1, 28), (2, 29), (3, 30), (4, 31), (5, 32), (6, 33), (7, 34), (8, 35), (9, 36), (10, 37), (11, 38), (12, 39), (13, 40), (14, 4)] (bitsOf (rtab .any (opsOf Try.f77 6)).2) (rpathBRel f l A c i W.heap.size) (by kernel_rfl) rfl (by kernel_rfl) rfl (by kernel_rfl) ?stab ?steps ?rend
          case steps =>
            refine steps2_cons (by decide) (fun a1 w1 hB hsz hdf hn hd => ⟨_, rfl, fun K hK => ?_⟩) ?_
            · have e0 := eval_of ((hn 0 rfl).trans rfl)
              refine value_ (v := .slice A l.length c) (w1 := w1) rfl rfl ?_ (hK _ _ (Below.refl _ _) rfl)
              clear hd hn hK
              simp only [execOp, Option.map_some, Option.map_none, List.map_toArray, List.map_cons, List.map_nil, List.getElem_toArray, List.getElem_cons_zero, List.getElem_cons_succ, e0]
              clear e0
              go_simp
            refine steps2_cons (by decide) (fun a1 w1 hB hsz hdf hn hd => ⟨_, rfl, fun K hK => ?_⟩) ?_
            · have e5 := eval_of ((hn 5 rfl).trans rfl)
              refine value_ (v := .int .i64 (splitS l.length : Int)) (w1 := w1) rfl rfl ?_ (hK _ _ (Below.refl _ _) rfl)
              clear hd hn hK
              simp only [execOp, Option.map_some, Option.map_none, List.map_toArray, List.map_cons, List.map_nil, List.getElem_toArray, List.getElem_cons_zero, List.getElem_cons_succ, e5]
              clear e5
              go_simp
            refine steps2_cons (by decide) (fun a1 w1 hB hsz hdf hn hd => ⟨_, rfl, fun K hK => ?_⟩) ?_
            · obtain ⟨v27, h27, rfl⟩ := hd 0 27 rfl (by kernel_rfl)
              have e27 := eval_of h27
              clear h27
              obtain ⟨v28, h28, rfl⟩ := hd 1 28 rfl (by kernel_rfl)
              have e28 := eval_of h28
              clear h28
              refine value_ (v := .slice (if c = splitS l.length then A else A.map (·.add (splitS l.length * 3))) (l.length - splitS l.length) (c - splitS l.length)) (w1 := w1) rfl rfl ?_ (hK _ _ (Below.refl _ _) rfl)
              clear hd hn hK
              simp only [execOp, Option.map_some, Option.map_none, List.map_toArray, List.map_cons, List.map_nil, List.getElem_toArray, List.getElem_cons_zero, List.getElem_cons_succ, e27, e28]
              clear e27 e28
              have hq := cut_from 24 23 .i64 Try.underlying24 hi0 3 hi2 A l.length c (splitS l.length : Int) (by omega) (by omega) w1
              try simp only [Int.toNat_natCast] at hq
              clear hr hc hv ih hE hB
              go_simp
            refine steps2_cons (by decide) (fun a1 w1 hB hsz hdf hn hd => ⟨_, rfl, fun K hK => ?_⟩) ?_
            · have e1 := eval_of ((hn 1 rfl).trans rfl)
              refine value_ (v := .int .i64 (i : Int)) (w1 := w1) rfl rfl ?_ (hK _ _ (Below.refl _ _) rfl)
              clear hd hn hK
              simp only [execOp, Option.map_some, Option.map_none, List.map_toArray, List.map_cons, List.map_nil, List.getElem_toArray, List.getElem_cons_zero, List.getElem_cons_succ, e1]
              clear e1
              go_simp
            refine steps2_cons (by decide) (fun a1 w1 hB hsz hdf hn hd => ⟨_, rfl, fun K hK => ?_⟩) ?_
            · have e5 := eval_of ((hn 5 rfl).trans rfl)
              refine value_ (v := .int .i64 (splitS l.length : Int)) (w1 := w1) rfl rfl ?_ (hK _ _ (Below.refl _ _) rfl)
              clear hd hn hK
              simp only [execOp, Option.map_some, Option.map_none, List.map_toArray, List.map_cons, List.map_nil, List.getElem_toArray, List.getElem_cons_zero, List.getElem_cons_succ, e5]
              clear e5
              go_simp
            refine steps2_cons (by decide) (fun a1 w1 hB hsz hdf hn hd => ⟨_, rfl, fun K hK => ?_⟩) ?_
            · obtain ⟨v30, h30, rfl⟩ := hd 3 30 rfl (by kernel_rfl)
              have e30 := eval_of h30
              clear h30
              obtain ⟨v31, h31, rfl⟩ := hd 4 31 rfl (by kernel_rfl)
              have e31 := eval_of h31
              clear h31
              refine value_ (v := .int .i64 ((i : Int) - (splitS l.length : Int))) (w1 := w1) rfl rfl ?_ (hK _ _ (Below.refl _ _) rfl)
              clear hd hn hK
              simp only [execOp, Option.map_some, Option.map_none, List.map_toArray, List.map_cons, List.map_nil, List.getElem_toArray, List.getElem_cons_zero, List.getElem_cons_succ, e30, e31]
              clear e30 e31
              have hq : IntKind.i64.wrap ((i : Int) - (splitS l.length : Int)) = (i : Int) - (splitS l.length : Int) := by rw [i64_w]; unfold wrap64; omega
              clear hr hc hv ih hE hB
              go_simp
            refine steps2_cons (by decide) (fun a1 w1 hB hsz hdf hn hd => ⟨_, rfl, fun K hK => ?_⟩) ?_
            · obtain ⟨v29, h29, rfl⟩ := hd 2 29 rfl (by kernel_rfl)
              have e29 := eval_of h29
              clear h29
              obtain ⟨v32, h32, rfl⟩ := hd 5 32 rfl (by kernel_rfl)
              have e32 := eval_of h32
              clear h32
              refine goes_ Try.func77 (by kernel_rfl) rfl #[.slice (if c = splitS l.length then A else A.map (·.add (splitS l.length * 3))) (l.length - splitS l.length) (c - splitS l.length), .int .i64 ((i - splitS l.length : Nat) : Int)] (by rfl) rfl rfl (by simp only [List.map_toArray, List.map_cons, List.map_nil, e29, e32]; rw [show ((i : Int) - (splitS l.length : Int)) = ((i - splitS l.length : Nat) : Int) from by omega]) ?_
              have hl1 : (l.drop (splitS l.length)).length = l.length - splitS l.length := by rw [List.length_drop]
              have hC := Kd.C_below (Kd.C_drop hr.out (m := splitS l.length) (by omega) hc.out) hB
              rw [hl1] at hC
              refine (ih (l.drop (splitS l.length)) _ _ _ (i - splitS l.length) w1 hl1.symm (by omega) (by omega) (by omega) hC (by have := hc.out; omega) (by omega) (fun e he => hv.out e (List.mem_of_mem_drop he)) (by omega)).mono ?_
              rintro e w2 ⟨v, rfl, hN, hbw⟩
              exact ⟨_, rfl, hK _ _ hbw (Nums.mono hN hB.size)⟩
            refine steps2_cons (by decide) (fun a1 w1 hB hsz hdf hn hd => ⟨_, rfl, fun K hK => ?_⟩) ?_
            · have e0 := eval_of ((hn 0 rfl).trans rfl)
              refine value_ (v := .slice A l.length c) (w1 := w1) rfl rfl ?_ (hK _ _ (Below.refl _ _) rfl)
              clear hd hn hK
              simp only [execOp, Option.map_some, Option.map_none, List.map_toArray, List.map_cons, List.map_nil, List.getElem_toArray, List.getElem_cons_zero, List.getElem_cons_succ, e0]
              clear e0
              go_simp
            refine steps2_cons (by decide) (fun a1 w1 hB hsz hdf hn hd => ⟨_, rfl, fun K hK => ?_⟩) ?_
            · have e5 := eval_of ((hn 5 rfl).trans rfl)
              refine value_ (v := .int .i64 (splitS l.length : Int)) (w1 := w1) rfl rfl ?_ (hK _ _ (Below.refl _ _) rfl)
              clear hd hn hK
              simp only [execOp, Option.map_some, Option.map_none, List.map_toArray, List.map_cons, List.map_nil, List.getElem_toArray, List.getElem_cons_zero, List.getElem_cons_succ, e5]
              clear e5
              go_simp
            refine steps2_cons (by decide) (fun a1 w1 hB hsz hdf hn hd => ⟨_, rfl, fun K hK => ?_⟩) ?_
            · have e5 := eval_of ((hn 5 rfl).trans rfl)
              refine value_ (v := .int .i64 (splitS l.length : Int)) (w1 := w1) rfl rfl ?_ (hK _ _ (Below.refl _ _) rfl)
              clear hd hn hK
              simp only [execOp, Option.map_some, Option.map_none, List.map_toArray, List.map_cons, List.map_nil, List.getElem_toArray, List.getElem_cons_zero, List.getElem_cons_succ, e5]
              clear e5
              go_simp
            refine steps2_cons (by decide) (fun a1 w1 hB hsz hdf hn hd => ⟨_, rfl, fun K hK => ?_⟩) ?_
            · obtain ⟨v34, h34, rfl⟩ := hd 7 34 rfl (by kernel_rfl)
              have e34 := eval_of h34
              clear h34
              obtain ⟨v35, h35, rfl⟩ := hd 8 35 rfl (by kernel_rfl)
              have e35 := eval_of h35
              clear h35
              obtain ⟨v36, h36, rfl⟩ := hd 9 36 rfl (by kernel_rfl)
              have e36 := eval_of h36
              clear h36
              refine value_ (v := .slice A (splitS l.length) (splitS l.length)) (w1 := w1) rfl rfl ?_ (hK _ _ (Below.refl _ _) rfl)
              clear hd hn hK
              simp only [execOp, Option.map_some, Option.map_none, List.map_toArray, List.map_cons, List.map_nil, List.getElem_toArray, List.getElem_cons_zero, List.getElem_cons_succ, e34, e35, e36]
              clear e34 e35 e36
              have hq := cut_to3 24 23 .i64 .i64 Try.underlying24 hi0 A l.length c (splitS l.length) (by have := hc.out; omega) w1
              try simp only [Int.toNat_natCast] at hq
              clear hr hc hv ih hE hB
              go_simp
            refine steps2_cons (by decide) (fun a1 w1 hB hsz hdf hn hd => ⟨_, rfl, fun K hK => ?_⟩) ?_
            · obtain ⟨v37, h37, rfl⟩ := hd 10 37 rfl (by kernel_rfl)
              have e37 := eval_of h37
              clear h37
              refine goes_ Try.func71 (by kernel_rfl) rfl #[.slice A (splitS l.length) (splitS l.length)] (by rfl) rfl rfl (by simp only [List.map_toArray, List.map_cons, List.map_nil, e37]) ?_
              have hl1 : (l.take (splitS l.length)).length = splitS l.length := by rw [List.length_take]; omega
              have hC := Kd.C_below (Kd.C_take hr.out (m := splitS l.length) (by omega)) hB
              rw [hl1] at hC
              refine (rroot_calls (l.take (splitS l.length)).length (l.take (splitS l.length)) _ _ _ w1 hl1.symm (by omega) hC (by have := hc.out; omega) (by omega) (fun e he => hv.out e (List.mem_of_mem_take he))).mono ?_
              rintro e w2 ⟨rfl, hbw⟩
              exact ⟨_, rfl, hK _ _ hbw rfl⟩
            refine steps2_cons (by decide) (fun a1 w1 hB hsz hdf hn hd => ⟨_, rfl, fun K hK => ?_⟩) ?_
            · obtain ⟨v38, h38, rfl⟩ := hd 11 38 rfl (by kernel_rfl)
              have e38 := eval_of h38
              clear h38
              refine value_ (v := .slice (some ⟨w1.heap.size, 0, none⟩) 1 1) (w1 := w1.alloc (.cells #[.int .u64 (rootS (l.take (splitS l.length)))] 25)) rfl rfl ?_ (hK _ _ (below_alloc (Below.refl _ _) _) ⟨_, rfl, by simp⟩)
              clear hd hn hK
              simp only [execOp, Option.map_some, Option.map_none, List.map_toArray, List.map_cons, List.map_nil, List.getElem_toArray, List.getElem_cons_zero, List.getElem_cons_succ, e38]
              clear e38
              go_simp
            refine steps2_late (by decide) (fun a1 w1 hB hsz hdf hn hd => ⟨_, rfl, fun K hK => ?_⟩) ?_
            · obtain ⟨v33, h33, q33⟩ := hd 6 33 rfl (by kernel_rfl)
              have hN : Nums w1 W.heap.size v33 (pathF f (l.drop (splitS l.length)) (i - splitS l.length)) := q33 (.inl rfl)
              obtain ⟨v39, h39, q39⟩ := hd 12 39 rfl (by kernel_rfl)
              obtain ⟨g, rfl, hcg⟩ := q39 (.inl rfl)
              refine append_ (y := rootS (l.take (splitS l.length))) rfl rfl rfl (eval_of h33) (eval_of h39) hN hcg (by have := pathF_len f (l.drop (splitS l.length)) (i - splitS l.length); omega) hB.size (fun vv w2 hN2 hg => hK _ _ ?_ (.inl rfl) hN2)
              exact grown_below hB hN (Nat.le_refl _) hB.size hg
            refine steps2_late (by decide) (fun a1 w1 hB hsz hdf hn hd => ⟨_, rfl, fun K hK => ?_⟩) ?_
            · obtain ⟨v40, h40, q40⟩ := hd 13 40 rfl (by kernel_rfl)
              have e40 := eval_of h40
              refine value_ (v := v40) (w1 := w1) rfl rfl ?_ (hK _ _ hB (.inr (Below.refl _ _)) (q40 (.inr (by decide))))
              clear hd hn hK
              simp only [execOp, List.getElem_toArray, List.getElem_cons_zero, List.getElem_cons_succ, e40]
              go_simp
            exact steps2_nil
          case stab => exact fun j v w w' => rpathBRel_stable _ _ _ _ _ _ j v w w'
          case rend =>
            intro vals w1 hB hrr
            have hlast := hrr (14, 4) (by simp) (by decide)
            simp only [fill, Act.put, List.setIfInBounds_toArray, List.set_cons_zero, List.set_cons_succ]
            have hlast' : Nums w1 W.heap.size (vals 14) (pathF f (l.drop (splitS l.length)) (i - splitS l.length) ++ [rootS (l.take (splitS l.length))]) := hlast
            clear hlast hrr
            generalize vals 14 = vv at hlast' ⊢
            have HL := Aside0.mk hlast'
            clear hlast'
            go_wp2
            go_ret
            exact ⟨_, rfl, by rw [hE.out]; exact Nums.mono HL.out hbW.size, hbW.trans (hB.mono hbW.size)⟩
end Go.Proofs.Ytkedodmlbepfnaa.Lg

-- from the working text Rgrown
set_option linter.unusedSimpArgs false
set_option linter.unusedVariables false
namespace Go.Proofs.Ytkedodmlbepfnaa.Lg
open Go.RowKit Go.Proofs.YtkedodmlbepfnaaW.PrintWords Go.Proofs.YtkedodmlbepfnaaW.PrintLast Go.Proofs.YtkedodmlbepfnaaW.PrintMore Go.Proofs.Ytkedodmlbepfnaa.Rg
def rgrownARel (f : Nat) (l : List S23) (A : Option Addr) (c : Nat) (i : Nat) (b : Bool) (B : Nat) : Nat → Value → World → Prop
  | 0, v, _ => v = .slice A l.length c
  | 1, v, _ => v = .int .i64 (splitS l.length : Int)
  | 2, v, _ => v = .int .i64 (splitS l.length : Int)
  | 3, v, _ => v = .slice A (splitS l.length) (splitS l.length)
  | 4, v, _ => v = .int .i64 (i : Int)
  | 5, v, _ => v = .bool b
  | 6, v, w => Nums w B v (grownF f (l.take (splitS l.length)) i b)
  | 7, v, _ => v = .slice A l.length c
  | 8, v, _ => v = .int .i64 (splitS l.length : Int)
  | 9, v, _ => v = .slice (if c = splitS l.length then A else A.map (·.add (splitS l.length * 3))) (l.length - splitS l.length) (c - splitS l.length)
  | 10, v, _ => v = .int .u64 (rootS (l.drop (splitS l.length)))
  | 11, v, w => ∃ g, v = .slice (some ⟨g, 0, none⟩) 1 1 ∧ w.cell? ⟨g, 0, none⟩ = some (.int .u64 (rootS (l.drop (splitS l.length))))
  | 12, v, w => Nums w B v (grownF f (l.take (splitS l.length)) i b ++ [rootS (l.drop (splitS l.length))])
  | 13, v, w => Nums w B v (grownF f (l.take (splitS l.length)) i b ++ [rootS (l.drop (splitS l.length))])
  | _, _, _ => True
theorem rgrownARel_stable (f : Nat) (l : List S23) (A : Option Addr) (c : Nat) (i : Nat) (b : Bool) (B : Nat) (j : Nat) (v : Value) (w w' : World) (h : rgrownARel f l A c i b B j v w) (hb : Below w.heap.size w w') : rgrownARel f l A c i b B j v w' := by
  revert h
  unfold rgrownARel
  split <;> intro h <;> first | exact h | exact Nums.below h hb | (obtain ⟨g, h1, h2⟩ := h; exact ⟨g, h1, pw_cell_below hb h2⟩)
def rgrownBRel (f : Nat) (l : List S23) (A : Option Addr) (c : Nat) (i : Nat) (b : Bool) (B : Nat) : Nat → Value → World → Prop
  | 0, v, _ => v = .slice A l.length c
  | 1, v, _ => v = .int .i64 (splitS l.length : Int)
  | 2, v, _ => v = .slice (if c = splitS l.length then A else A.map (·.add (splitS l.length * 3))) (l.length - splitS l.length) (c - splitS l.length)
  | 3, v, _ => v = .int .i64 (i : Int)
  | 4, v, _ => v = .int .i64 (splitS l.length : Int)
  | 5, v, _ => v = .int .i64 ((i : Int) - (splitS l.length : Int))
  | 6, v, w => Nums w B v (grownF f (l.drop (splitS l.length)) (i - splitS l.length) false)
  | 7, v, _ => v = .slice A l.length c
  | 8, v, _ => v = .int .i64 (splitS l.length : Int)
  | 9, v, _ => v = .int .i64 (splitS l.length : Int)
  | 10, v, _ => v = .slice A (splitS l.length) (splitS l.length)
  | 11, v, _ => v = .int .u64 (rootS (l.take (splitS l.length)))
  | 12, v, w => ∃ g, v = .slice (some ⟨g, 0, none⟩) 1 1 ∧ w.cell? ⟨g, 0, none⟩ = some (.int .u64 (rootS (l.take (splitS l.length))))
  | 13, v, w => Nums w B v (grownF f (l.drop (splitS l.length)) (i - splitS l.length) false ++ [rootS (l.take (splitS l.length))])
  | 14, v, w => Nums w B v (grownF f (l.drop (splitS l.length)) (i - splitS l.length) false ++ [rootS (l.take (splitS l.length))])
  | _, _, _ => True
theorem rgrownBRel_stable (f : Nat) (l : List S23) (A : Option Addr) (c : Nat) (i : Nat) (b : Bool) (B : Nat) (j : Nat) (v : Value) (w w' : World) (h : rgrownBRel f l A c i b B j v w) (hb : Below w.heap.size w w') : rgrownBRel f l A c i b B j v w' := by
  revert h
  unfold rgrownBRel
  split <;> intro h <;> first | exact h | exact Nums.below h hb | (obtain ⟨g, h1, h2⟩ := h; exact ⟨g, h1, pw_cell_below hb h2⟩)
set_option maxHeartbeats 8000000 in
set_option maxRecDepth 100000 in
theorem rgrown_calls : ∀ (f : Nat) (l : List S23) (n : Nat) (A : Option Addr) (c : Nat) (i : Nat) (b : Bool) (w : World), n = l.length → n ≤ f → f ≤ 512 → 1 ≤ n → Kd.C k23 w A n l → n ≤ c → n ≤ 512 → (∀ e ∈ l, Valid e) → 1 ≤ i → i ≤ n →
    Calls Try.prog 81 #[.slice A n c, .int .i64 (i : Int), .bool b] w fun e w' => ∃ v, e = .returned v ∧ Nums w' w.heap.size v (grownF f l i b) ∧ Below w.heap.size w w' := by
  intro f
  induction f with
  | zero => intro l n A c i b w hn hf hf5 h1; omega
  | succ f ih0 =>
    intro l n A c i b w hn hf hf5 h1 hr0 hc0 h5 hv0 hi1 hin
    subst hn
    have hr := Aside0.mk hr0
    have hc := Aside0.mk hc0
    have hv := Aside0.mk hv0
    have ih := ih0
    clear hr0 hc0 hv0 ih0
    have hf1 : l.length ≤ f + 1 := hf
    clear hf
    by_cases c1 : i = l.length
    · cases b with
      | true =>
        have hE := Aside0.mk (show grownF (f + 1) l i true = [] by rw [grownF, if_pos c1, if_pos rfl])
        have c1b : ((i : Int) == (l.length : Int)) = true := by rw [beq_iff_eq]; omega
        clear c1 hf1 h5 ih hr hv hin h1
        go_enter Try.func81, Try.ntmps81
        go_wp2
        go_ret
        exact ⟨_, rfl, by rw [hE.out]; exact Nums.nil _ _, (by repeat (first | exact Below.refl _ _ | apply below_drew | apply pw_below_drewN))⟩
      | false =>
        have hE := Aside0.mk (show grownF (f + 1) l i false = [rootS l] by rw [grownF, if_pos c1, if_neg (by simp)])
        have c1b : ((i : Int) == (l.length : Int)) = true := by rw [beq_iff_eq]; omega
        clear c1 hin h1
        go_enter Try.func81, Try.ntmps81
        go_wp2_with (go_at_call 71; (with_reducible refine (rroot_calls l.length l l.length A c _ rfl (Nat.le_refl _) hr.out hc.out h5 hv.out).mono ?_); rintro e w' ⟨rfl, hb⟩; have HB := Aside0.mk hb; clear hb)
        go_ret
        exact ⟨_, rfl, by rw [hE.out]; exact Nums.lit1 _ _ HB.out.size _, below_alloc HB.out _⟩
    · have c1b : ((i : Int) == (l.length : Int)) = false := by rw [beq_eq_false_iff_ne]; omega
      have h2 : 2 ≤ l.length := by omega
      have s1 := split_lt h2
      have s2 := split_pos l.length
      have s3 := split_le h2
      by_cases hk : i ≤ splitS l.length
      · have hE := Aside0.mk (show grownF (f + 1) l i b = _ by rw [grownF, if_neg c1, if_pos hk])
        have hkb : decide ((i : Int) ≤ (splitS l.length : Int)) = true := by simp; omega
        have hkn : decide (i ≤ splitS l.length) = true := by simp; omega
        clear c1
        go_enter Try.func81, Try.ntmps81
        go_wp2_with (go_at_call 105; (with_reducible refine (rsplit_any l.length h2 h5 _).mono ?_); rintro e w' ⟨rfl, ⟨nd, rfl⟩⟩)
        obtain ⟨i0, hi0, hi1x, hi2, _⟩ := info_parts info23
        generalize hW : w.drewN nd = W
        have hbW : Below w.heap.size w W := by rw [← hW]; exact pw_below_drewN (Below.refl _ _) nd
        have hr' := Aside0.mk (Kd.C_below hr.out hbW)
        clear hr
        have hr := hr'
        clear hr' hW
        · refine rg2_ 12 [0, 1, 2, 3, 4, 5, 6, 7, 8, 9, 10, 11, 12, 13] [(0, 22), (1, 23), (2, 24), (3, 25), (4, 26), (5, 27), (6, 28), (7, 29), (8, 30), (9, 31), (10, 32), (11, 33), (12, 34), (13, 6)] (bitsOf (rtab .any (opsOf Try.f81 7)).2) (rgrownARel f l A c i b W.heap.size) (by kernel_rfl) rfl (by kernel_rfl) rfl (by kernel_rfl) ?stab ?steps ?rend
          case steps =>
            refine steps2_cons (by decide) (fun a1 w1 hB hsz hdf hn hd => ⟨_, rfl, fun K hK => ?_⟩) ?_
            · have e0 := eval_of ((hn 0 rfl).trans rfl)
              refine value_ (v := .slice A l.length c) (w1 := w1) rfl rfl ?_ (hK _ _ (Below.refl _ _) rfl)
              clear hd hn hK
              simp only [execOp, Option.map_some, Option.map_none, List.map_toArray, List.map_cons, List.map_nil, List.getElem_toArray, List.getElem_cons_zero, List.getElem_cons_succ, e0]
              clear e0
              go_simp
            refine steps2_cons (by decide) (fun a1 w1 hB hsz hdf hn hd => ⟨_, rfl, fun K hK => ?_⟩) ?_
            · have e7 := eval_of ((hn 7 rfl).trans rfl)
              refine value_ (v := .int .i64 (splitS l.length : Int)) (w1 := w1) rfl rfl ?_ (hK _ _ (Below.refl _ _) rfl)
              clear hd hn hK
              simp only [execOp, Option.map_some, Option.map_none, List.map_toArray, List.map_cons, List.map_nil, List.getElem_toArray, List.getElem_cons_zero, List.getElem_cons_succ, e7]
              clear e7
              go_simp
            refine steps2_cons (by decide) (fun a1 w1 hB hsz hdf hn hd => ⟨_, rfl, fun K hK => ?_⟩) ?_
            · have e7 := eval_of ((hn 7 rfl).trans rfl)
              refine value_ (v := .int .i64 (splitS l.length : Int)) (w1 := w1) rfl rfl ?_ (hK _ _ (Below.refl _ _) rfl)
              clear hd hn hK
              simp only [execOp, Option.map_some, Option.map_none, List.map_toArray, List.map_cons, List.map_nil, List.getElem_toArray, List.getElem_cons_zero, List.getElem_cons_succ, e7]
              clear e7
              go_simp
            refine steps2_cons (by decide) (fun a1 w1 hB hsz hdf hn hd => ⟨_, rfl, fun K hK => ?_⟩) ?_
            · obtain ⟨v22, h22, rfl⟩ := hd 0 22 rfl (by kernel_rfl)
              have e22 := eval_of h22
              clear h22
              obtain ⟨v23, h23, rfl⟩ := hd 1 23 rfl (by kernel_rfl)
              have e23 := eval_of h23
              clear h23
              obtain ⟨v24, h24, rfl⟩ := hd 2 24 rfl (by kernel_rfl)
              have e24 := eval_of h24
              clear h24
              refine value_ (v := .slice A (splitS l.length) (splitS l.length)) (w1 := w1) rfl rfl ?_ (hK _ _ (Below.refl _ _) rfl)
              clear hd hn hK
              simp only [execOp, Option.map_some, Option.map_none, List.map_toArray, List.map_cons, List.map_nil, List.getElem_toArray, List.getElem_cons_zero, List.getElem_cons_succ, e22, e23, e24]
              clear e22 e23 e24
              have hq := cut_to3 24 23 .i64 .i64 Try.underlying24 hi0 A l.length c (splitS l.length) (by have := hc.out; omega) w1
              try simp only [Int.toNat_natCast] at hq
              clear hr hc hv ih hE hB
              go_simp
            refine steps2_cons (by decide) (fun a1 w1 hB hsz hdf hn hd => ⟨_, rfl, fun K hK => ?_⟩) ?_
            · have e1 := eval_of ((hn 1 rfl).trans rfl)
              refine value_ (v := .int .i64 (i : Int)) (w1 := w1) rfl rfl ?_ (hK _ _ (Below.refl _ _) rfl)
              clear hd hn hK
              simp only [execOp, Option.map_some, Option.map_none, List.map_toArray, List.map_cons, List.map_nil, List.getElem_toArray, List.getElem_cons_zero, List.getElem_cons_succ, e1]
              clear e1
              go_simp
            refine steps2_cons (by decide) (fun a1 w1 hB hsz hdf hn hd => ⟨_, rfl, fun K hK => ?_⟩) ?_
            · have e2 := eval_of ((hn 2 rfl).trans rfl)
              refine value_ (v := .bool b) (w1 := w1) rfl rfl ?_ (hK _ _ (Below.refl _ _) rfl)
              clear hd hn hK
              simp only [execOp, Option.map_some, Option.map_none, List.map_toArray, List.map_cons, List.map_nil, List.getElem_toArray, List.getElem_cons_zero, List.getElem_cons_succ, e2]
              clear e2
              go_simp
            refine steps2_cons (by decide) (fun a1 w1 hB hsz hdf hn hd => ⟨_, rfl, fun K hK => ?_⟩) ?_
            · obtain ⟨v25, h25, rfl⟩ := hd 3 25 rfl (by kernel_rfl)
              have e25 := eval_of h25
              clear h25
              obtain ⟨v26, h26, rfl⟩ := hd 4 26 rfl (by kernel_rfl)
              have e26 := eval_of h26
              clear h26
              obtain ⟨v27, h27, rfl⟩ := hd 5 27 rfl (by kernel_rfl)
              have e27 := eval_of h27
              clear h27
              refine goes_ Try.func81 (by kernel_rfl) rfl #[.slice A (splitS l.length) (splitS l.length), .int .i64 (i : Int), .bool b] (by rfl) rfl rfl (by simp only [List.map_toArray, List.map_cons, List.map_nil, e25, e26, e27]) ?_
              have hl1 : (l.take (splitS l.length)).length = splitS l.length := by rw [List.length_take]; omega
              have hC := Kd.C_below (Kd.C_take hr.out (m := splitS l.length) (by omega)) hB
              rw [hl1] at hC
              refine (ih (l.take (splitS l.length)) _ _ _ i b w1 hl1.symm (by omega) (by omega) (by omega) hC (by have := hc.out; omega) (by omega) (fun e he => hv.out e (List.mem_of_mem_take he)) (by omega) (by omega)).mono ?_
              rintro e w2 ⟨v, rfl, hN, hbw⟩
              exact ⟨_, rfl, hK _ _ hbw (Nums.mono hN hB.size)⟩
            refine steps2_cons (by decide) (fun a1 w1 hB hsz hdf hn hd => ⟨_, rfl, fun K hK => ?_⟩) ?_
            · have e0 := eval_of ((hn 0 rfl).trans rfl)
              refine value_ (v := .slice A l.length c) (w1 := w1) rfl rfl ?_ (hK _ _ (Below.refl _ _) rfl)
              clear hd hn hK
              simp only [execOp, Option.map_some, Option.map_none, List.map_toArray, List.map_cons, List.map_nil, List.getElem_toArray, List.getElem_cons_zero, List.getElem_cons_succ, e0]
              clear e0
              go_simp
            refine steps2_cons (by decide) (fun a1 w1 hB hsz hdf hn hd => ⟨_, rfl, fun K hK => ?_⟩) ?_
            · have e7 := eval_of ((hn 7 rfl).trans rfl)
              refine value_ (v := .int .i64 (splitS l.length : Int)) (w1 := w1) rfl rfl ?_ (hK _ _ (Below.refl _ _) rfl)
              clear hd hn hK
              simp only [execOp, Option.map_some, Option.map_none, List.map_toArray, List.map_cons, List.map_nil, List.getElem_toArray, List.getElem_cons_zero, List.getElem_cons_succ, e7]
              clear e7
              go_simp
            refine steps2_cons (by decide) (fun a1 w1 hB hsz hdf hn hd => ⟨_, rfl, fun K hK => ?_⟩) ?_
            · obtain ⟨v29, h29, rfl⟩ := hd 7 29 rfl (by kernel_rfl)
              have e29 := eval_of h29
              clear h29
              obtain ⟨v30, h30, rfl⟩ := hd 8 30 rfl (by kernel_rfl)
              have e30 := eval_of h30
              clear h30
              refine value_ (v := .slice (if c = splitS l.length then A else A.map (·.add (splitS l.length * 3))) (l.length - splitS l.length) (c - splitS l.length)) (w1 := w1) rfl rfl ?_ (hK _ _ (Below.refl _ _) rfl)
              clear hd hn hK
              simp only [execOp, Option.map_some, Option.map_none, List.map_toArray, List.map_cons, List.map_nil, List.getElem_toArray, List.getElem_cons_zero, List.getElem_cons_succ, e29, e30]
              clear e29 e30
              have hq := cut_from 24 23 .i64 Try.underlying24 hi0 3 hi2 A l.length c (splitS l.length : Int) (by omega) (by omega) w1
              try simp only [Int.toNat_natCast] at hq
              clear hr hc hv ih hE hB
              go_simp
            refine steps2_cons (by decide) (fun a1 w1 hB hsz hdf hn hd => ⟨_, rfl, fun K hK => ?_⟩) ?_
            · obtain ⟨v31, h31, rfl⟩ := hd 9 31 rfl (by kernel_rfl)
              have e31 := eval_of h31
              clear h31
              refine goes_ Try.func71 (by kernel_rfl) rfl #[.slice (if c = splitS l.length then A else A.map (·.add (splitS l.length * 3))) (l.length - splitS l.length) (c - splitS l.length)] (by rfl) rfl rfl (by simp only [List.map_toArray, List.map_cons, List.map_nil, e31]) ?_
              have hl1 : (l.drop (splitS l.length)).length = l.length - splitS l.length := by rw [List.length_drop]
              have hC := Kd.C_below (Kd.C_drop hr.out (m := splitS l.length) (by omega) hc.out) hB
              rw [hl1] at hC
              refine (rroot_calls (l.drop (splitS l.length)).length (l.drop (splitS l.length)) _ _ _ w1 hl1.symm (by omega) hC (by have := hc.out; omega) (by omega) (fun e he => hv.out e (List.mem_of_mem_drop he))).mono ?_
              rintro e w2 ⟨rfl, hbw⟩
              exact ⟨_, rfl, hK _ _ hbw rfl⟩
            refine steps2_cons (by decide) (fun a1 w1 hB hsz hdf hn hd => ⟨_, rfl, fun K hK => ?_⟩) ?_
            · obtain ⟨v32, h32, rfl⟩ := hd 10 32 rfl (by kernel_rfl)
              have e32 := eval_of h32
              clear h32
              refine value_ (v := .slice (some ⟨w1.heap.size, 0, none⟩) 1 1) (w1 := w1.alloc (.cells #[.int .u64 (rootS (l.drop (splitS l.length)))] 25)) rfl rfl ?_ (hK _ _ (below_alloc (Below.refl _ _) _) ⟨_, rfl, by simp⟩)
              clear hd hn hK
              simp only [execOp, Option.map_some, Option.map_none, List.map_toArray, List.map_cons, List.map_nil, List.getElem_toArray, List.getElem_cons_zero, List.getElem_cons_succ, e32]
              clear e32
              go_simp
            refine steps2_late (by decide) (fun a1 w1 hB hsz hdf hn hd => ⟨_, rfl, fun K hK => ?_⟩) ?_
            · obtain ⟨v28, h28, q28⟩ := hd 6 28 rfl (by kernel_rfl)
              have hN : Nums w1 W.heap.size v28 (grownF f (l.take (splitS l.length)) i b) := q28 (.inl rfl)
              obtain ⟨v33, h33, q33⟩ := hd 11 33 rfl (by kernel_rfl)
              obtain ⟨g, rfl, hcg⟩ := q33 (.inl rfl)
              refine append_ (y := rootS (l.drop (splitS l.length))) rfl rfl rfl (eval_of h28) (eval_of h33) hN hcg (by have := grownF_len f (l.take (splitS l.length)) i b; omega) hB.size (fun vv w2 hN2 hg => hK _ _ ?_ (.inl rfl) hN2)
              exact grown_below hB hN (Nat.le_refl _) hB.size hg
            refine steps2_late (by decide) (fun a1 w1 hB hsz hdf hn hd => ⟨_, rfl, fun K hK => ?_⟩) ?_
            · obtain ⟨v34, h34, q34⟩ := hd 12 34 rfl (by kernel_rfl)
              have e34 := eval_of h34
              refine value_ (v := v34) (w1 := w1) rfl rfl ?_ (hK _ _ hB (.inr (Below.refl _ _)) (q34 (.inr (by decide))))
              clear hd hn hK
              simp only [execOp, List.getElem_toArray, List.getElem_cons_zero, List.getElem_cons_succ, e34]
              go_simp
            exact steps2_nil
          case stab => exact fun j v w w' => rgrownARel_stable _ _ _ _ _ _ _ j v w w'
          case rend =>
            intro vals w1 hB hrr
            have hlast := hrr (13, 6) (by simp) (by decide)
            simp only [fill, Act.put, List.setIfInBounds_toArray, List.set_cons_zero, List.set_cons_succ]
            have hlast' : Nums w1 W.heap.size (vals 13) (grownF f (l.take (splitS l.length)) i b ++ [rootS (l.drop (splitS l.length))]) := hlast
            clear hlast hrr
            generalize vals 13 = vv at hlast' ⊢
            have HL := Aside0.mk hlast'
            clear hlast'
            go_wp2
            go_ret
            exact ⟨_, rfl, by rw [hE.out]; exact Nums.mono HL.out hbW.size, hbW.trans (hB.mono hbW.size)⟩
      · have hE := Aside0.mk (show grownF (f + 1) l i b = _ by rw [grownF, if_neg c1, if_neg hk])
        have hkb : decide ((i : Int) ≤ (splitS l.length : Int)) = false := by simp; omega
        have hkn : decide (i ≤ splitS l.length) = false := by simp; omega
        clear c1
        go_enter Try.func81, Try.ntmps81
        go_wp2_with (go_at_call 105; (with_reducible refine (rsplit_any l.length h2 h5 _).mono ?_); rintro e w' ⟨rfl, ⟨nd, rfl⟩⟩)
        obtain ⟨i0, hi0, hi1x, hi2, _⟩ := info_parts info23
        generalize hW : w.drewN nd = W
        have hbW : Below w.heap.size w W := by rw [← hW]; exact pw_below_drewN (Below.refl _ _) nd
        have hr' := Aside0.mk (Kd.C_below hr.out hbW)
        clear hr
        have hr := hr'
        clear hr' hW
        · refine rg2_ 13 [0, 1, 2, 3, 4, 5, 6, 7, 8, 9, 10, 11, 12, 13, 14] [(0, 35), (1, 36), (2, 37), (3, 38), (4, 39), (5, 40), (6, 41), (7, 42), (8, 43), (9, 44), (10, 45), (11, 46), (12, 47), (13, 48), (14, 6)] (bitsOf (rtab .any (opsOf Try.f81 8)).2) (rgrownBRel f l A c i b W.heap.size) (by kernel_rfl) rfl (by kernel_rfl) rfl (by kernel_rfl) ?stab ?steps ?rend
          case steps =>
            refine steps2_cons (by decide) (fun a1 w1 hB hsz hdf hn hd => ⟨_, rfl, fun K hK => ?_⟩) ?_
            · have e0 := eval_of ((hn 0 rfl).trans rfl)
              refine value_ (v := .slice A l.length c) (w1 := w1) rfl rfl ?_ (hK _ _ (Below.refl _ _) rfl)
              clear hd hn hK
              simp only [execOp, Option.map_some, Option.map_none, List.map_toArray, List.map_cons, List.map_nil, List.getElem_toArray, List.getElem_cons_zero, List.getElem_cons_succ, e0]
              clear e0
              go_simp
            refine steps2_cons (by decide) (fun a1 w1 hB hsz hdf hn hd => ⟨_, rfl, fun K hK => ?_⟩) ?_
            · have e7 := eval_of ((hn 7 rfl).trans rfl)
              refine value_ (v := .int .i64 (splitS l.length : Int)) (w1 := w1) rfl rfl ?_ (hK _ _ (Below.refl _ _) rfl)
              clear hd hn hK
              simp only [execOp, Option.map_some, Option.map_none, List.map_toArray, List.map_cons, List.map_nil, List.getElem_toArray, List.getElem_cons_zero, List.getElem_cons_succ, e7]
              clear e7
              go_simp
            refine steps2_cons (by decide) (fun a1 w1 hB hsz hdf hn hd => ⟨_, rfl, fun K hK => ?_⟩) ?_
            · obtain ⟨v35, h35, rfl⟩ := hd 0 35 rfl (by kernel_rfl)
              have e35 := eval_of h35
              clear h35
              obtain ⟨v36, h36, rfl⟩ := hd 1 36 rfl (by kernel_rfl)
              have e36 := eval_of h36
              clear h36
              refine value_ (v := .slice (if c = splitS l.length then A else A.map (·.add (splitS l.length * 3))) (l.length - splitS l.length) (c - splitS l.length)) (w1 := w1) rfl rfl ?_ (hK _ _ (Below.refl _ _) rfl)
              clear hd hn hK
              simp only [execOp, Option.map_some, Option.map_none, List.map_toArray, List.map_cons, List.map_nil, List.getElem_toArray, List.getElem_cons_zero, List.getElem_cons_succ, e35, e36]
              clear e35 e36
              have hq := cut_from 24 23 .i64 Try.underlying24 hi0 3 hi2 A l.length c (splitS l.length : Int) (by omega) (by omega) w1
              try simp only [Int.toNat_natCast] at hq
              clear hr hc hv ih hE hB
              go_simp
            refine steps2_cons (by decide) (fun a1 w1 hB hsz hdf hn hd => ⟨_, rfl, fun K hK => ?_⟩) ?_
            · have e1 := eval_of ((hn 1 rfl).trans rfl)
              refine value_ (v := .int .i64 (i : Int)) (w1 := w1) rfl rfl ?_ (hK _ _ (Below.refl _ _) rfl)
              clear hd hn hK
              simp only [execOp, Option.map_some, Option.map_none, List.map_toArray, List.map_cons, List.map_nil, List.getElem_toArray, List.getElem_cons_zero, List.getElem_cons_succ, e1]
              clear e1
              go_simp
            refine steps2_cons (by decide) (fun a1 w1 hB hsz hdf hn hd => ⟨_, rfl, fun K hK => ?_⟩) ?_
            · have e7 := eval_of ((hn 7 rfl).trans rfl)
              refine value_ (v := .int .i64 (splitS l.length : Int)) (w1 := w1) rfl rfl ?_ (hK _ _ (Below.refl _ _) rfl)
              clear hd hn hK
              simp only [execOp, Option.map_some, Option.map_none, List.map_toArray, List.map_cons, List.map_nil, List.getElem_toArray, List.getElem_cons_zero, List.getElem_cons_succ, e7]
              clear e7
              go_simp
            refine steps2_cons (by decide) (fun a1 w1 hB hsz hdf hn hd => ⟨_, rfl, fun K hK => ?_⟩) ?_
            · obtain ⟨v38, h38, rfl⟩ := hd 3 38 rfl (by kernel_rfl)
              have e38 := eval_of h38
              clear h38
              obtain ⟨v39, h39, rfl⟩ := hd 4 39 rfl (by kernel_rfl)
              have e39 := eval_of h39
              clear h39
              refine value_ (v := .int .i64 ((i : Int) - (splitS l.length : Int))) (w1 := w1) rfl rfl ?_ (hK _ _ (Below.refl _ _) rfl)
              clear hd hn hK
              simp only [execOp, Option.map_some, Option.map_none, List.map_toArray, List.map_cons, List.map_nil, List.getElem_toArray, List.getElem_cons_zero, List.getElem_cons_succ, e38, e39]
              clear e38 e39
              have hq : IntKind.i64.wrap ((i : Int) - (splitS l.length : Int)) = (i : Int) - (splitS l.length : Int) := by rw [i64_w]; unfold wrap64; omega
              clear hr hc hv ih hE hB
              go_simp
            refine steps2_cons (by decide) (fun a1 w1 hB hsz hdf hn hd => ⟨_, rfl, fun K hK => ?_⟩) ?_
            · obtain ⟨v37, h37, rfl⟩ := hd 2 37 rfl (by kernel_rfl)
              have e37 := eval_of h37
              clear h37
              obtain ⟨v40, h40, rfl⟩ := hd 5 40 rfl (by kernel_rfl)
              have e40 := eval_of h40
              clear h40
              refine goes_ Try.func81 (by kernel_rfl) rfl #[.slice (if c = splitS l.length then A else A.map (·.add (splitS l.length * 3))) (l.length - splitS l.length) (c - splitS l.length), .int .i64 ((i - splitS l.length : Nat) : Int), .bool false] (by rfl) rfl rfl (by simp only [List.map_toArray, List.map_cons, List.map_nil, e37, e40]; rw [show ((i : Int) - (splitS l.length : Int)) = ((i - splitS l.length : Nat) : Int) from by omega]; rfl) ?_
              have hl1 : (l.drop (splitS l.length)).length = l.length - splitS l.length := by rw [List.length_drop]
              have hC := Kd.C_below (Kd.C_drop hr.out (m := splitS l.length) (by omega) hc.out) hB
              rw [hl1] at hC
              refine (ih (l.drop (splitS l.length)) _ _ _ (i - splitS l.length) false w1 hl1.symm (by omega) (by omega) (by omega) hC (by have := hc.out; omega) (by omega) (fun e he => hv.out e (List.mem_of_mem_drop he)) (by omega) (by omega)).mono ?_
              rintro e w2 ⟨v, rfl, hN, hbw⟩
              exact ⟨_, rfl, hK _ _ hbw (Nums.mono hN hB.size)⟩
            refine steps2_cons (by decide) (fun a1 w1 hB hsz hdf hn hd => ⟨_, rfl, fun K hK => ?_⟩) ?_
            · have e0 := eval_of ((hn 0 rfl).trans rfl)
              refine value_ (v := .slice A l.length c) (w1 := w1) rfl rfl ?_ (hK _ _ (Below.refl _ _) rfl)
              clear hd hn hK
              simp only [execOp, Option.map_some, Option.map_none, List.map_toArray, List.map_cons, List.map_nil, List.getElem_toArray, List.getElem_cons_zero, List.getElem_cons_succ, e0]
              clear e0
              go_simp
            refine steps2_cons (by decide) (fun a1 w1 hB hsz hdf hn hd => ⟨_, rfl, fun K hK => ?_⟩) ?_
            · have e7 := eval_of ((hn 7 rfl).trans rfl)
              refine value_ (v := .int .i64 (splitS l.length : Int)) (w1 := w1) rfl rfl ?_ (hK _ _ (Below.refl _ _) rfl)
              clear hd hn hK
              simp only [execOp, Option.map_some, Option.map_none, List.map_toArray, List.map_cons, List.map_nil, List.getElem_toArray, List.getElem_cons_zero, List.getElem_cons_succ, e7]
              clear e7
              go_simp
            refine steps2_cons (by decide) (fun a1 w1 hB hsz hdf hn hd => ⟨_, rfl, fun K hK => ?_⟩) ?_
            · have e7 := eval_of ((hn 7 rfl).trans rfl)
              refine value_ (v := .int .i64 (splitS l.length : Int)) (w1 := w1) rfl rfl ?_ (hK _ _ (Below.refl _ _) rfl)
              clear hd hn hK
              simp only [execOp, Option.map_some, Option.map_none, List.map_toArray, List.map_cons, List.map_nil, List.getElem_toArray, List.getElem_cons_zero, List.getElem_cons_succ, e7]
              clear e7
              go_simp
            refine steps2_cons (by decide) (fun a1 w1 hB hsz hdf hn hd => ⟨_, rfl, fun K hK => ?_⟩) ?_
            · obtain ⟨v42, h42, rfl⟩ := hd 7 42 rfl (by kernel_rfl)
              have e42 := eval_of h42
              clear h42
              obtain ⟨v43, h43, rfl⟩ := hd 8 43 rfl (by kernel_rfl)
              have e43 := eval_of h43
              clear h43
              obtain ⟨v44, h44, rfl⟩ := hd 9 44 rfl (by kernel_rfl)
              have e44 := eval_of h44
              clear h44
              refine value_ (v := .slice A (splitS l.length) (splitS l.length)) (w1 := w1) rfl rfl ?_ (hK _ _ (Below.refl _ _) rfl)
              clear hd hn hK
              simp only [execOp, Option.map_some, Option.map_none, List.map_toArray, List.map_cons, List.map_nil, List.getElem_toArray, List.getElem_cons_zero, List.getElem_cons_succ, e42, e43, e44]
              clear e42 e43 e44
              have hq := cut_to3 24 23 .i64 .i64 Try.underlying24 hi0 A l.length c (splitS l.length) (by have := hc.out; omega) w1
              try simp only [Int.toNat_natCast] at hq
              clear hr hc hv ih hE hB
              go_simp
            refine steps2_cons (by decide) (fun a1 w1 hB hsz hdf hn hd => ⟨_, rfl, fun K hK => ?_⟩) ?_
            · obtain ⟨v45, h45, rfl⟩ := hd 10 45 rfl (by kernel_rfl)
              have e45 := eval_of h45
              clear h45
              refine goes_ Try.func71 (by kernel_rfl) rfl #[.slice A (splitS l.length) (splitS l.length)] (by rfl) rfl rfl (by simp only [List.map_toArray, List.map_cons, List.map_nil, e45]) ?_
              have hl1 : (l.take (splitS l.length)).length = splitS l.length := by rw [List.length_take]; omega
              have hC := Kd.C_below (Kd.C_take hr.out (m := splitS l.length) (by omega)) hB
              rw [hl1] at hC
              refine (rroot_calls (l.take (splitS l.length)).length (l.take (splitS l.length)) _ _ _ w1 hl1.symm (by omega) hC (by have := hc.out; omega) (by omega) (fun e he => hv.out e (List.mem_of_mem_take he))).mono ?_
              rintro e w2 ⟨rfl, hbw⟩
              exact ⟨_, rfl, hK _ _ hbw rfl⟩
            refine steps2_cons (by decide) (fun a1 w1 hB hsz hdf hn hd => ⟨_, rfl, fun K hK => ?_⟩) ?_
            · obtain ⟨v46, h46, rfl⟩ := hd 11 46 rfl (by kernel_rfl)
              have e46 := eval_of h46
              clear h46
              refine value_ (v := .slice (some ⟨w1.heap.size, 0, none⟩) 1 1) (w1 := w1.alloc (.cells #[.int .u64 (rootS (l.take (splitS l.length)))] 25)) rfl rfl ?_ (hK _ _ (below_alloc (Below.refl _ _) _) ⟨_, rfl, by simp⟩)
              clear hd hn hK
              simp only [execOp, Option.map_some, Option.map_none, List.map_toArray, List.map_cons, List.map_nil, List.getElem_toArray, List.getElem_cons_zero, List.getElem_cons_succ, e46]
              clear e46
              go_simp
            refine steps2_late (by decide) (fun a1 w1 hB hsz hdf hn hd => ⟨_, rfl, fun K hK => ?_⟩) ?_
            · obtain ⟨v41, h41, q41⟩ := hd 6 41 rfl (by kernel_rfl)
              have hN : Nums w1 W.heap.size v41 (grownF f (l.drop (splitS l.length)) (i - splitS l.length) false) := q41 (.inl rfl)
              obtain ⟨v47, h47, q47⟩ := hd 12 47 rfl (by kernel_rfl)
              obtain ⟨g, rfl, hcg⟩ := q47 (.inl rfl)
              refine append_ (y := rootS (l.take (splitS l.length))) rfl rfl rfl (eval_of h41) (eval_of h47) hN hcg (by have := grownF_len f (l.drop (splitS l.length)) (i - splitS l.length) false; omega) hB.size (fun vv w2 hN2 hg => hK _ _ ?_ (.inl rfl) hN2)
              exact grown_below hB hN (Nat.le_refl _) hB.size hg
            refine steps2_late (by decide) (fun a1 w1 hB hsz hdf hn hd => ⟨_, rfl, fun K hK => ?_⟩) ?_
            · obtain ⟨v48, h48, q48⟩ := hd 13 48 rfl (by kernel_rfl)
              have e48 := eval_of h48
              refine value_ (v := v48) (w1 := w1) rfl rfl ?_ (hK _ _ hB (.inr (Below.refl _ _)) (q48 (.inr (by decide))))
              clear hd hn hK
              simp only [execOp, List.getElem_toArray, List.getElem_cons_zero, List.getElem_cons_succ, e48]
              go_simp
            exact steps2_nil
          case stab => exact fun j v w w' => rgrownBRel_stable _ _ _ _ _ _ _ j v w w'
          case rend =>
            intro vals w1 hB hrr
            have hlast := hrr (14, 6) (by simp) (by decide)
            simp only [fill, Act.put, List.setIfInBounds_toArray, List.set_cons_zero, List.set_cons_succ]
            have hlast' : Nums w1 W.heap.size (vals 14) (grownF f (l.drop (splitS l.length)) (i - splitS l.length) false ++ [rootS (l.take (splitS l.length))]) := hlast
            clear hlast hrr
            generalize vals 14 = vv at hlast' ⊢
            have HL := Aside0.mk hlast'
            clear hlast'
            go_wp2
            go_ret
            exact ⟨_, rfl, by rw [hE.out]; exact Nums.mono HL.out hbW.size, hbW.trans (hB.mono hbW.size)⟩
end Go.Proofs.Ytkedodmlbepfnaa.Lg

-- from the working text Grown
set_option linter.unusedSimpArgs false
set_option linter.unusedVariables false
namespace Go.Proofs.Ytkedodmlbepfnaa.Lg
open Go.RowKit Go.Proofs.YtkedodmlbepfnaaW.PrintWords Go.Proofs.YtkedodmlbepfnaaW.PrintLast Go.Proofs.YtkedodmlbepfnaaW.PrintMore Go.Proofs.Ytkedodmlbepfnaa.Rg
def grownARel (f : Nat) (l : List S23) (A : Option Addr) (c : Nat) (i : Nat) (b : Bool) (B : Nat) : Nat → Value → World → Prop
  | 0, v, _ => v = .slice A l.length c
  | 1, v, _ => v = .int .i64 (splitS l.length : Int)
  | 2, v, _ => v = .slice A (splitS l.length) c
  | 3, v, _ => v = .int .i64 (i : Int)
  | 4, v, _ => v = .bool b
  | 5, v, w => Nums w B v (grownF f (l.take (splitS l.length)) i b)
  | 6, v, _ => v = .slice A l.length c
  | 7, v, _ => v = .int .i64 (splitS l.length : Int)
  | 8, v, _ => v = .slice (if c = splitS l.length then A else A.map (·.add (splitS l.length * 3))) (l.length - splitS l.length) (c - splitS l.length)
  | 9, v, _ => v = .int .u64 (rootS (l.drop (splitS l.length)))
  | 10, v, w => ∃ g, v = .slice (some ⟨g, 0, none⟩) 1 1 ∧ w.cell? ⟨g, 0, none⟩ = some (.int .u64 (rootS (l.drop (splitS l.length))))
  | 11, v, w => Nums w B v (grownF f (l.take (splitS l.length)) i b ++ [rootS (l.drop (splitS l.length))])
  | 12, v, w => Nums w B v (grownF f (l.take (splitS l.length)) i b ++ [rootS (l.drop (splitS l.length))])
  | _, _, _ => True
theorem grownARel_stable (f : Nat) (l : List S23) (A : Option Addr) (c : Nat) (i : Nat) (b : Bool) (B : Nat) (j : Nat) (v : Value) (w w' : World) (h : grownARel f l A c i b B j v w) (hb : Below w.heap.size w w') : grownARel f l A c i b B j v w' := by
  revert h
  unfold grownARel
  split <;> intro h <;> first | exact h | exact Nums.below h hb | (obtain ⟨g, h1, h2⟩ := h; exact ⟨g, h1, pw_cell_below hb h2⟩)
def grownBRel (f : Nat) (l : List S23) (A : Option Addr) (c : Nat) (i : Nat) (b : Bool) (B : Nat) : Nat → Value → World → Prop
  | 0, v, _ => v = .slice A l.length c
  | 1, v, _ => v = .int .i64 (splitS l.length : Int)
  | 2, v, _ => v = .slice (if c = splitS l.length then A else A.map (·.add (splitS l.length * 3))) (l.length - splitS l.length) (c - splitS l.length)
  | 3, v, _ => v = .int .i64 (i : Int)
  | 4, v, _ => v = .int .i64 (splitS l.length : Int)
  | 5, v, _ => v = .int .i64 ((i : Int) - (splitS l.length : Int))
  | 6, v, w => Nums w B v (grownF f (l.drop (splitS l.length)) (i - splitS l.length) false)
  | 7, v, _ => v = .slice A l.length c
  | 8, v, _ => v = .int .i64 (splitS l.length : Int)
  | 9, v, _ => v = .slice A (splitS l.length) c
  | 10, v, _ => v = .int .u64 (rootS (l.take (splitS l.length)))
  | 11, v, w => ∃ g, v = .slice (some ⟨g, 0, none⟩) 1 1 ∧ w.cell? ⟨g, 0, none⟩ = some (.int .u64 (rootS (l.take (splitS l.length))))
  | 12, v, w => Nums w B v (grownF f (l.drop (splitS l.length)) (i - splitS l.length) false ++ [rootS (l.take (splitS l.length))])
  | 13, v, w => Nums w B v (grownF f (l.drop (splitS l.length)) (i - splitS l.length) false ++ [rootS (l.take (splitS l.length))])
  | _, _, _ => True
theorem grownBRel_stable (f : Nat) (l : List S23) (A : Option Addr) (c : Nat) (i : Nat) (b : Bool) (B : Nat) (j : Nat) (v : Value) (w w' : World) (h : grownBRel f l A c i b B j v w) (hb : Below w.heap.size w w') : grownBRel f l A c i b B j v w' := by
  revert h
  unfold grownBRel
  split <;> intro h <;> first | exact h | exact Nums.below h hb | (obtain ⟨g, h1, h2⟩ := h; exact ⟨g, h1, pw_cell_below hb h2⟩)
set_option maxHeartbeats 8000000 in
set_option maxRecDepth 100000 in
theorem grown_calls : ∀ (f : Nat) (l : List S23) (n : Nat) (A : Option Addr) (c : Nat) (i : Nat) (b : Bool) (w : World), n = l.length → n ≤ f → f ≤ 512 → 1 ≤ n → Kd.C k23 w A n l → n ≤ c → n ≤ 512 → (∀ e ∈ l, Valid e) → 1 ≤ i → i ≤ n →
    Calls Try.prog 80 #[.slice A n c, .int .i64 (i : Int), .bool b] w fun e w' => ∃ v, e = .returned v ∧ Nums w' w.heap.size v (grownF f l i b) ∧ Below w.heap.size w w' := by
  intro f
  induction f with
  | zero => intro l n A c i b w hn hf hf5 h1; omega
  | succ f ih0 =>
    intro l n A c i b w hn hf hf5 h1 hr0 hc0 h5 hv0 hi1 hin
    subst hn
    have hr := Aside0.mk hr0
    have hc := Aside0.mk hc0
    have hv := Aside0.mk hv0
    have ih := ih0
    clear hr0 hc0 hv0 ih0
    have hf1 : l.length ≤ f + 1 := hf
    clear hf
    by_cases c1 : i = l.length
    · cases b with
      | true =>
        have hE := Aside0.mk (show grownF (f + 1) l i true = [] by rw [grownF, if_pos c1, if_pos rfl])
        have c1b : ((i : Int) == (l.length : Int)) = true := by rw [beq_iff_eq]; omega
        clear c1 hf1 h5 ih hr hv hin h1
        go_enter Try.func80, Try.ntmps80
        go_wp2
        go_ret
        exact ⟨_, rfl, by rw [hE.out]; exact Nums.nil _ _, (by repeat (first | exact Below.refl _ _ | apply below_drew | apply pw_below_drewN))⟩
      | false =>
        have hE := Aside0.mk (show grownF (f + 1) l i false = [rootS l] by rw [grownF, if_pos c1, if_neg (by simp)])
        have c1b : ((i : Int) == (l.length : Int)) = true := by rw [beq_iff_eq]; omega
        clear c1 hin h1
        go_enter Try.func80, Try.ntmps80
        go_wp2_with (go_at_call 69; (with_reducible refine (root_calls l.length l l.length A c _ rfl (Nat.le_refl _) hr.out hc.out h5 hv.out).mono ?_); rintro e w' ⟨rfl, hb⟩; have HB := Aside0.mk hb; clear hb)
        go_ret
        exact ⟨_, rfl, by rw [hE.out]; exact Nums.lit1 _ _ HB.out.size _, below_alloc HB.out _⟩
    · have c1b : ((i : Int) == (l.length : Int)) = false := by rw [beq_eq_false_iff_ne]; omega
      have h2 : 2 ≤ l.length := by omega
      have s1 := split_lt h2
      have s2 := split_pos l.length
      have s3 := split_le h2
      by_cases hk : i ≤ splitS l.length
      · have hE := Aside0.mk (show grownF (f + 1) l i b = _ by rw [grownF, if_neg c1, if_pos hk])
        have hkb : decide ((i : Int) ≤ (splitS l.length : Int)) = true := by simp; omega
        have hkn : decide (i ≤ splitS l.length) = true := by simp; omega
        clear c1
        go_enter Try.func80, Try.ntmps80
        go_wp2_with (go_at_call 117; (with_reducible refine (split_any l.length h2 h5 _).mono ?_); rintro e w' ⟨rfl, ⟨nd, rfl⟩⟩)
        obtain ⟨i0, hi0, hi1x, hi2, _⟩ := info_parts info23
        generalize hW : w.drewN nd = W
        have hbW : Below w.heap.size w W := by rw [← hW]; exact pw_below_drewN (Below.refl _ _) nd
        have hr' := Aside0.mk (Kd.C_below hr.out hbW)
        clear hr
        have hr := hr'
        clear hr' hW
        · refine rg2_ 11 [0, 1, 2, 3, 4, 5, 6, 7, 8, 9, 10, 11, 12] [(0, 22), (1, 23), (2, 24), (3, 25), (4, 26), (5, 27), (6, 28), (7, 29), (8, 30), (9, 31), (10, 32), (11, 33), (12, 6)] (bitsOf (rtab .any (opsOf Try.f80 7)).2) (grownARel f l A c i b W.heap.size) (by kernel_rfl) rfl (by kernel_rfl) rfl (by kernel_rfl) ?stab ?steps ?rend
          case steps =>
            refine steps2_cons (by decide) (fun a1 w1 hB hsz hdf hn hd => ⟨_, rfl, fun K hK => ?_⟩) ?_
            · have e0 := eval_of ((hn 0 rfl).trans rfl)
              refine value_ (v := .slice A l.length c) (w1 := w1) rfl rfl ?_ (hK _ _ (Below.refl _ _) rfl)
              clear hd hn hK
              simp only [execOp, Option.map_some, Option.map_none, List.map_toArray, List.map_cons, List.map_nil, List.getElem_toArray, List.getElem_cons_zero, List.getElem_cons_succ, e0]
              clear e0
              go_simp
            refine steps2_cons (by decide) (fun a1 w1 hB hsz hdf hn hd => ⟨_, rfl, fun K hK => ?_⟩) ?_
            · have e7 := eval_of ((hn 7 rfl).trans rfl)
              refine value_ (v := .int .i64 (splitS l.length : Int)) (w1 := w1) rfl rfl ?_ (hK _ _ (Below.refl _ _) rfl)
              clear hd hn hK
              simp only [execOp, Option.map_some, Option.map_none, List.map_toArray, List.map_cons, List.map_nil, List.getElem_toArray, List.getElem_cons_zero, List.getElem_cons_succ, e7]
              clear e7
              go_simp
            refine steps2_cons (by decide) (fun a1 w1 hB hsz hdf hn hd => ⟨_, rfl, fun K hK => ?_⟩) ?_
            · obtain ⟨v22, h22, rfl⟩ := hd 0 22 rfl (by kernel_rfl)
              have e22 := eval_of h22
              clear h22
              obtain ⟨v23, h23, rfl⟩ := hd 1 23 rfl (by kernel_rfl)
              have e23 := eval_of h23
              clear h23
              refine value_ (v := .slice A (splitS l.length) c) (w1 := w1) rfl rfl ?_ (hK _ _ (Below.refl _ _) rfl)
              clear hd hn hK
              simp only [execOp, Option.map_some, Option.map_none, List.map_toArray, List.map_cons, List.map_nil, List.getElem_toArray, List.getElem_cons_zero, List.getElem_cons_succ, e22, e23]
              clear e22 e23
              have hq := cut_to 24 23 .i64 Try.underlying24 hi0 A l.length c (splitS l.length : Int) (by omega) (by omega) hc.out w1
              try simp only [Int.toNat_natCast] at hq
              clear hr hc hv ih hE hB
              go_simp
            refine steps2_cons (by decide) (fun a1 w1 hB hsz hdf hn hd => ⟨_, rfl, fun K hK => ?_⟩) ?_
            · have e1 := eval_of ((hn 1 rfl).trans rfl)
              refine value_ (v := .int .i64 (i : Int)) (w1 := w1) rfl rfl ?_ (hK _ _ (Below.refl _ _) rfl)
              clear hd hn hK
              simp only [execOp, Option.map_some, Option.map_none, List.map_toArray, List.map_cons, List.map_nil, List.getElem_toArray, List.getElem_cons_zero, List.getElem_cons_succ, e1]
              clear e1
              go_simp
            refine steps2_cons (by decide) (fun a1 w1 hB hsz hdf hn hd => ⟨_, rfl, fun K hK => ?_⟩) ?_
            · have e2 := eval_of ((hn 2 rfl).trans rfl)
              refine value_ (v := .bool b) (w1 := w1) rfl rfl ?_ (hK _ _ (Below.refl _ _) rfl)
              clear hd hn hK
              simp only [execOp, Option.map_some, Option.map_none, List.map_toArray, List.map_cons, List.map_nil, List.getElem_toArray, List.getElem_cons_zero, List.getElem_cons_succ, e2]
              clear e2
              go_simp
            refine steps2_cons (by decide) (fun a1 w1 hB hsz hdf hn hd => ⟨_, rfl, fun K hK => ?_⟩) ?_
            · obtain ⟨v24, h24, rfl⟩ := hd 2 24 rfl (by kernel_rfl)
              have e24 := eval_of h24
              clear h24
              obtain ⟨v25, h25, rfl⟩ := hd 3 25 rfl (by kernel_rfl)
              have e25 := eval_of h25
              clear h25
              obtain ⟨v26, h26, rfl⟩ := hd 4 26 rfl (by kernel_rfl)
              have e26 := eval_of h26
              clear h26
              refine goes_ Try.func80 (by kernel_rfl) rfl #[.slice A (splitS l.length) c, .int .i64 (i : Int), .bool b] (by rfl) rfl rfl (by simp only [List.map_toArray, List.map_cons, List.map_nil, e24, e25, e26]) ?_
              have hl1 : (l.take (splitS l.length)).length = splitS l.length := by rw [List.length_take]; omega
              have hC := Kd.C_below (Kd.C_take hr.out (m := splitS l.length) (by omega)) hB
              rw [hl1] at hC
              refine (ih (l.take (splitS l.length)) _ _ _ i b w1 hl1.symm (by omega) (by omega) (by omega) hC (by have := hc.out; omega) (by omega) (fun e he => hv.out e (List.mem_of_mem_take he)) (by omega) (by omega)).mono ?_
              rintro e w2 ⟨v, rfl, hN, hbw⟩
              exact ⟨_, rfl, hK _ _ hbw (Nums.mono hN hB.size)⟩
            refine steps2_cons (by decide) (fun a1 w1 hB hsz hdf hn hd => ⟨_, rfl, fun K hK => ?_⟩) ?_
            · have e0 := eval_of ((hn 0 rfl).trans rfl)
              refine value_ (v := .slice A l.length c) (w1 := w1) rfl rfl ?_ (hK _ _ (Below.refl _ _) rfl)
              clear hd hn hK
              simp only [execOp, Option.map_some, Option.map_none, List.map_toArray, List.map_cons, List.map_nil, List.getElem_toArray, List.getElem_cons_zero, List.getElem_cons_succ, e0]
              clear e0
              go_simp
            refine steps2_cons (by decide) (fun a1 w1 hB hsz hdf hn hd => ⟨_, rfl, fun K hK => ?_⟩) ?_
            · have e7 := eval_of ((hn 7 rfl).trans rfl)
              refine value_ (v := .int .i64 (splitS l.length : Int)) (w1 := w1) rfl rfl ?_ (hK _ _ (Below.refl _ _) rfl)
              clear hd hn hK
              simp only [execOp, Option.map_some, Option.map_none, List.map_toArray, List.map_cons, List.map_nil, List.getElem_toArray, List.getElem_cons_zero, List.getElem_cons_succ, e7]
              clear e7
              go_simp
            refine steps2_cons (by decide) (fun a1 w1 hB hsz hdf hn hd => ⟨_, rfl, fun K hK => ?_⟩) ?_
            · obtain ⟨v28, h28, rfl⟩ := hd 6 28 rfl (by kernel_rfl)
              have e28 := eval_of h28
              clear h28
              obtain ⟨v29, h29, rfl⟩ := hd 7 29 rfl (by kernel_rfl)
              have e29 := eval_of h29
              clear h29
              refine value_ (v := .slice (if c = splitS l.length then A else A.map (·.add (splitS l.length * 3))) (l.length - splitS l.length) (c - splitS l.length)) (w1 := w1) rfl rfl ?_ (hK _ _ (Below.refl _ _) rfl)
              clear hd hn hK
              simp only [execOp, Option.map_some, Option.map_none, List.map_toArray, List.map_cons, List.map_nil, List.getElem_toArray, List.getElem_cons_zero, List.getElem_cons_succ, e28, e29]
              clear e28 e29
              have hq := cut_from 24 23 .i64 Try.underlying24 hi0 3 hi2 A l.length c (splitS l.length : Int) (by omega) (by omega) w1
              try simp only [Int.toNat_natCast] at hq
              clear hr hc hv ih hE hB
              go_simp
            refine steps2_cons (by decide) (fun a1 w1 hB hsz hdf hn hd => ⟨_, rfl, fun K hK => ?_⟩) ?_
            · obtain ⟨v30, h30, rfl⟩ := hd 8 30 rfl (by kernel_rfl)
              have e30 := eval_of h30
              clear h30
              refine goes_ Try.func69 (by kernel_rfl) rfl #[.slice (if c = splitS l.length then A else A.map (·.add (splitS l.length * 3))) (l.length - splitS l.length) (c - splitS l.length)] (by rfl) rfl rfl (by simp only [List.map_toArray, List.map_cons, List.map_nil, e30]) ?_
              have hl1 : (l.drop (splitS l.length)).length = l.length - splitS l.length := by rw [List.length_drop]
              have hC := Kd.C_below (Kd.C_drop hr.out (m := splitS l.length) (by omega) hc.out) hB
              rw [hl1] at hC
              refine (root_calls (l.drop (splitS l.length)).length (l.drop (splitS l.length)) _ _ _ w1 hl1.symm (by omega) hC (by have := hc.out; omega) (by omega) (fun e he => hv.out e (List.mem_of_mem_drop he))).mono ?_
              rintro e w2 ⟨rfl, hbw⟩
              exact ⟨_, rfl, hK _ _ hbw rfl⟩
            refine steps2_cons (by decide) (fun a1 w1 hB hsz hdf hn hd => ⟨_, rfl, fun K hK => ?_⟩) ?_
            · obtain ⟨v31, h31, rfl⟩ := hd 9 31 rfl (by kernel_rfl)
              have e31 := eval_of h31
              clear h31
              refine value_ (v := .slice (some ⟨w1.heap.size, 0, none⟩) 1 1) (w1 := w1.alloc (.cells #[.int .u64 (rootS (l.drop (splitS l.length)))] 25)) rfl rfl ?_ (hK _ _ (below_alloc (Below.refl _ _) _) ⟨_, rfl, by simp⟩)
              clear hd hn hK
              simp only [execOp, Option.map_some, Option.map_none, List.map_toArray, List.map_cons, List.map_nil, List.getElem_toArray, List.getElem_cons_zero, List.getElem_cons_succ, e31]
              clear e31
              go_simp
            refine steps2_late (by decide) (fun a1 w1 hB hsz hdf hn hd => ⟨_, rfl, fun K hK => ?_⟩) ?_
            · obtain ⟨v27, h27, q27⟩ := hd 5 27 rfl (by kernel_rfl)
              have hN : Nums w1 W.heap.size v27 (grownF f (l.take (splitS l.length)) i b) := q27 (.inl rfl)
              obtain ⟨v32, h32, q32⟩ := hd 10 32 rfl (by kernel_rfl)
              obtain ⟨g, rfl, hcg⟩ := q32 (.inl rfl)
              refine append_ (y := rootS (l.drop (splitS l.length))) rfl rfl rfl (eval_of h27) (eval_of h32) hN hcg (by have := grownF_len f (l.take (splitS l.length)) i b; omega) hB.size (fun vv w2 hN2 hg => hK _ _ ?_ (.inl rfl) hN2)
              exact grown_below hB hN (Nat.le_refl _) hB.size hg
            refine steps2_late (by decide) (fun a1 w1 hB hsz hdf hn hd => ⟨_, rfl, fun K hK => ?_⟩) ?_
            · obtain ⟨v33, h33, q33⟩ := hd 11 33 rfl (by kernel_rfl)
              have e33 := eval_of h33
              refine value_ (v := v33) (w1 := w1) rfl rfl ?_ (hK _ _ hB (.inr (Below.refl _ _)) (q33 (.inr (by decide))))
              clear hd hn hK
              simp only [execOp, List.getElem_toArray, List.getElem_cons_zero, List.getElem_cons_succ, e33]
              go_simp
            exact steps2_nil
          case stab => exact fun j v w w' => grownARel_stable _ _ _ _ _ _ _ j v w w'
          case rend =>
            intro vals w1 hB hrr
            have hlast := hrr (12, 6) (by simp) (by decide)
            simp only [fill, Act.put, List.setIfInBounds_toArray, List.set_cons_zero, List.set_cons_succ]
            have hlast' : Nums w1 W.heap.size (vals 12) (grownF f (l.take (splitS l.length)) i b ++ [rootS (l.drop (splitS l.length))]) := hlast
            clear hlast hrr
            generalize vals 12 = vv at hlast' ⊢
            have HL := Aside0.mk hlast'
            clear hlast'
            go_wp2
            go_ret
            exact ⟨_, rfl, by rw [hE.out]; exact Nums.mono HL.out hbW.size, hbW.trans (hB.mono hbW.size)⟩
      · have hE := Aside0.mk (show grownF (f + 1) l i b = _ by rw [grownF, if_neg c1, if_neg hk])
        have hkb : decide ((i : Int) ≤ (splitS l.length : Int)) = false := by simp; omega
        have hkn : decide (i ≤ splitS l.length) = false := by simp; omega
        clear c1
        go_enter Try.func80, Try.ntmps80
        go_wp2_with (go_at_call 117; (with_reducible refine (split_any l.length h2 h5 _).mono ?_); rintro e w' ⟨rfl, ⟨nd, rfl⟩⟩)
        obtain ⟨i0, hi0, hi1x, hi2, _⟩ := info_parts info23
        generalize hW : w.drewN nd = W
        have hbW : Below w.heap.size w W := by rw [← hW]; exact pw_below_drewN (Below.refl _ _) nd
        have hr' := Aside0.mk (Kd.C_below hr.out hbW)
        clear hr
        have hr := hr'
        clear hr' hW
        · refine rg2_ 12 [0, 1, 2, 3, 4, 5, 6, 7, 8, 9, 10, 11, 12, 13] [(0, 34), (1, 35), (2, 36), (3, 37), (4, 38), (5, 39), (6, 40), (7, 41), (8, 42), (9, 43), (10, 44), (11, 45), (12, 46), (13, 6)] (bitsOf (rtab .any (opsOf Try.f80 8)).2) (grownBRel f l A c i b W.heap.size) (by kernel_rfl) rfl (by kernel_rfl) rfl (by kernel_rfl) ?stab ?steps ?rend
          case steps =>
            refine steps2_cons (by decide) (fun a1 w1 hB hsz hdf hn hd => ⟨_, rfl, fun K hK => ?_⟩) ?_
            · have e0 := eval_of ((hn 0 rfl).trans rfl)
              refine value_ (v := .slice A l.length c) (w1 := w1) rfl rfl ?_ (hK _ _ (Below.refl _ _) rfl)
              clear hd hn hK
              simp only [execOp, Option.map_some, Option.map_none, List.map_toArray, List.map_cons, List.map_nil, List.getElem_toArray, List.getElem_cons_zero, List.getElem_cons_succ, e0]
              clear e0
              go_simp
            refine steps2_cons (by decide) (fun a1 w1 hB hsz hdf hn hd => ⟨_, rfl, fun K hK => ?_⟩) ?_
            · have e7 := eval_of ((hn 7 rfl).trans rfl)
              refine value_ (v := .int .i64 (splitS l.length : Int)) (w1 := w1) rfl rfl ?_ (hK _ _ (Below.refl _ _) rfl)
              clear hd hn hK
              simp only [execOp, Option.map_some, Option.map_none, List.map_toArray, List.map_cons, List.map_nil, List.getElem_toArray, List.getElem_cons_zero, List.getElem_cons_succ, e7]
              clear e7
              go_simp
            refine steps2_cons (by decide) (fun a1 w1 hB hsz hdf hn hd => ⟨_, rfl, fun K hK => ?_⟩) ?_
            · obtain ⟨v34, h34, rfl⟩ := hd 0 34 rfl (by kernel_rfl)
              have e34 := eval_of h34
              clear h34
              obtain ⟨v35, h35, rfl⟩ := hd 1 35 rfl (by kernel_rfl)
              have e35 := eval_of h35
              clear h35
              refine value_ (v := .slice (if c = splitS l.length then A else A.map (·.add (splitS l.length * 3))) (l.length - splitS l.length) (c - splitS l.length)) (w1 := w1) rfl rfl ?_ (hK _ _ (Below.refl _ _) rfl)
              clear hd hn hK
              simp only [execOp, Option.map_some, Option.map_none, List.map_toArray, List.map_cons, List.map_nil, List.getElem_toArray, List.getElem_cons_zero, List.getElem_cons_succ, e34, e35]
              clear e34 e35
              have hq := cut_from 24 23 .i64 Try.underlying24 hi0 3 hi2 A l.length c (splitS l.length : Int) (by omega) (by omega) w1
              try simp only [Int.toNat_natCast] at hq
              clear hr hc hv ih hE hB
              go_simp
            refine steps2_cons (by decide) (fun a1 w1 hB hsz hdf hn hd => ⟨_, rfl, fun K hK => ?_⟩) ?_
            · have e1 := eval_of ((hn 1 rfl).trans rfl)
              refine value_ (v := .int .i64 (i : Int)) (w1 := w1) rfl rfl ?_ (hK _ _ (Below.refl _ _) rfl)
              clear hd hn hK
              simp only [execOp, Option.map_some, Option.map_none, List.map_toArray, List.map_cons, List.map_nil, List.getElem_toArray, List.getElem_cons_zero, List.getElem_cons_succ, e1]
              clear e1
              go_simp
            refine steps2_cons (by decide) (fun a1 w1 hB hsz hdf hn hd => ⟨_, rfl, fun K hK => ?_⟩) ?_
            · have e7 := eval_of ((hn 7 rfl).trans rfl)
              refine value_ (v := .int .i64 (splitS l.length : Int)) (w1 := w1) rfl rfl ?_ (hK _ _ (Below.refl _ _) rfl)
              clear hd hn hK
              simp only [execOp, Option.map_some, Option.map_none, List.map_toArray, List.map_cons, List.map_nil, List.getElem_toArray, List.getElem_cons_zero, List.getElem_cons_succ, e7]
              clear e7
              go_simp
            refine steps2_cons (by decide) (fun a1 w1 hB hsz hdf hn hd => ⟨_, rfl, fun K hK => ?_⟩) ?_
            · obtain ⟨v37, h37, rfl⟩ := hd 3 37 rfl (by kernel_rfl)
              have e37 := eval_of h37
              clear h37
              obtain ⟨v38, h38, rfl⟩ := hd 4 38 rfl (by kernel_rfl)
              have e38 := eval_of h38
              clear h38
              refine value_ (v := .int .i64 ((i : Int) - (splitS l.length : Int))) (w1 := w1) rfl rfl ?_ (hK _ _ (Below.refl _ _) rfl)
              clear hd hn hK
              simp only [execOp, Option.map_some, Option.map_none, List.map_toArray, List.map_cons, List.map_nil, List.getElem_toArray, List.getElem_cons_zero, List.getElem_cons_succ, e37, e38]
              clear e37 e38
              have hq : IntKind.i64.wrap ((i : Int) - (splitS l.length : Int)) = (i : Int) - (splitS l.length : Int) := by rw [i64_w]; unfold wrap64; omega
              clear hr hc hv ih hE hB
              go_simp
            refine steps2_cons (by decide) (fun a1 w1 hB hsz hdf hn hd => ⟨_, rfl, fun K hK => ?_⟩) ?_
            · obtain ⟨v36, h36, rfl⟩ := hd 2 36 rfl (by kernel_rfl)
              have e36 := eval_of h36
              clear h36
              obtain ⟨v39, h39, rfl⟩ := hd 5 39 rfl (by kernel_rfl)
              have e39 := eval_of h39
              clear h39
              refine goes_ Try.func80 (by kernel_rfl) rfl #[.slice (if c = splitS l.length then A else A.map (·.add (splitS l.length * 3))) (l.length - splitS l.length) (c - splitS l.length), .int .i64 ((i - splitS l.length : Nat) : Int), .bool false] (by rfl) rfl rfl (by simp only [List.map_toArray, List.map_cons, List.map_nil, e36, e39]; rw [show ((i : Int) - (splitS l.length : Int)) = ((i - splitS l.length : Nat) : Int) from by omega]; rfl) ?_
              have hl1 : (l.drop (splitS l.length)).length = l.length - splitS l.length := by rw [List.length_drop]
              have hC := Kd.C_below (Kd.C_drop hr.out (m := splitS l.length) (by omega) hc.out) hB
              rw [hl1] at hC
              refine (ih (l.drop (splitS l.length)) _ _ _ (i - splitS l.length) false w1 hl1.symm (by omega) (by omega) (by omega) hC (by have := hc.out; omega) (by omega) (fun e he => hv.out e (List.mem_of_mem_drop he)) (by omega) (by omega)).mono ?_
              rintro e w2 ⟨v, rfl, hN, hbw⟩
              exact ⟨_, rfl, hK _ _ hbw (Nums.mono hN hB.size)⟩
            refine steps2_cons (by decide) (fun a1 w1 hB hsz hdf hn hd => ⟨_, rfl, fun K hK => ?_⟩) ?_
            · have e0 := eval_of ((hn 0 rfl).trans rfl)
              refine value_ (v := .slice A l.length c) (w1 := w1) rfl rfl ?_ (hK _ _ (Below.refl _ _) rfl)
              clear hd hn hK
              simp only [execOp, Option.map_some, Option.map_none, List.map_toArray, List.map_cons, List.map_nil, List.getElem_toArray, List.getElem_cons_zero, List.getElem_cons_succ, e0]
              clear e0
              go_simp
            refine steps2_cons (by decide) (fun a1 w1 hB hsz hdf hn hd => ⟨_, rfl, fun K hK => ?_⟩) ?_
            · have e7 := eval_of ((hn 7 rfl).trans rfl)
              refine value_ (v := .int .i64 (splitS l.length : Int)) (w1 := w1) rfl rfl ?_ (hK _ _ (Below.refl _ _) rfl)
              clear hd hn hK
              simp only [execOp, Option.map_some, Option.map_none, List.map_toArray, List.map_cons, List.map_nil, List.getElem_toArray, List.getElem_cons_zero, List.getElem_cons_succ, e7]
              clear e7
              go_simp
            refine steps2_cons (by decide) (fun a1 w1 hB hsz hdf hn hd => ⟨_, rfl, fun K hK => ?_⟩) ?_
            · obtain ⟨v41, h41, rfl⟩ := hd 7 41 rfl (by kernel_rfl)
              have e41 := eval_of h41
              clear h41
              obtain ⟨v42, h42, rfl⟩ := hd 8 42 rfl (by kernel_rfl)
              have e42 := eval_of h42
              clear h42
              refine value_ (v := .slice A (splitS l.length) c) (w1 := w1) rfl rfl ?_ (hK _ _ (Below.refl _ _) rfl)
              clear hd hn hK
              simp only [execOp, Option.map_some, Option.map_none, List.map_toArray, List.map_cons, List.map_nil, List.getElem_toArray, List.getElem_cons_zero, List.getElem_cons_succ, e41, e42]
              clear e41 e42
              have hq := cut_to 24 23 .i64 Try.underlying24 hi0 A l.length c (splitS l.length : Int) (by omega) (by omega) hc.out w1
              try simp only [Int.toNat_natCast] at hq
              clear hr hc hv ih hE hB
              go_simp
            refine steps2_cons (by decide) (fun a1 w1 hB hsz hdf hn hd => ⟨_, rfl, fun K hK => ?_⟩) ?_
            · obtain ⟨v43, h43, rfl⟩ := hd 9 43 rfl (by kernel_rfl)
              have e43 := eval_of h43
              clear h43
              refine goes_ Try.func69 (by kernel_rfl) rfl #[.slice A (splitS l.length) c] (by rfl) rfl rfl (by simp only [List.map_toArray, List.map_cons, List.map_nil, e43]) ?_
              have hl1 : (l.take (splitS l.length)).length = splitS l.length := by rw [List.length_take]; omega
              have hC := Kd.C_below (Kd.C_take hr.out (m := splitS l.length) (by omega)) hB
              rw [hl1] at hC
              refine (root_calls (l.take (splitS l.length)).length (l.take (splitS l.length)) _ _ _ w1 hl1.symm (by omega) hC (by have := hc.out; omega) (by omega) (fun e he => hv.out e (List.mem_of_mem_take he))).mono ?_
              rintro e w2 ⟨rfl, hbw⟩
              exact ⟨_, rfl, hK _ _ hbw rfl⟩
            refine steps2_cons (by decide) (fun a1 w1 hB hsz hdf hn hd => ⟨_, rfl, fun K hK => ?_⟩) ?_
            · obtain ⟨v44, h44, rfl⟩ := hd 10 44 rfl (by kernel_rfl)
              have e44 := eval_of h44
              clear h44
              refine value_ (v := .slice (some ⟨w1.heap.size, 0, none⟩) 1 1) (w1 := w1.alloc (.cells #[.int .u64 (rootS (l.take (splitS l.length)))] 25)) rfl rfl ?_ (hK _ _ (below_alloc (Below.refl _ _) _) ⟨_, rfl, by simp⟩)
              clear hd hn hK
              simp only [execOp, Option.map_some, Option.map_none, List.map_toArray, List.map_cons, List.map_nil, List.getElem_toArray, List.getElem_cons_zero, List.getElem_cons_succ, e44]
              clear e44
              go_simp
            refine steps2_late (by decide) (fun a1 w1 hB hsz hdf hn hd => ⟨_, rfl, fun K hK => ?_⟩) ?_
            · obtain ⟨v40, h40, q40⟩ := hd 6 40 rfl (by kernel_rfl)
              have hN : Nums w1 W.heap.size v40 (grownF f (l.drop (splitS l.length)) (i - splitS l.length) false) := q40 (.inl rfl)
              obtain ⟨v45, h45, q45⟩ := hd 11 45 rfl (by kernel_rfl)
              obtain ⟨g, rfl, hcg⟩ := q45 (.inl rfl)
              refine append_ (y := rootS (l.take (splitS l.length))) rfl rfl rfl (eval_of h40) (eval_of h45) hN hcg (by have := grownF_len f (l.drop (splitS l.length)) (i - splitS l.length) false; omega) hB.size (fun vv w2 hN2 hg => hK _ _ ?_ (.inl rfl) hN2)
              exact grown_below hB hN (Nat.le_refl _) hB.size hg
            refine steps2_late (by decide) (fun a1 w1 hB hsz hdf hn hd => ⟨_, rfl, fun K hK => ?_⟩) ?_
            · obtain ⟨v46, h46, q46⟩ := hd 12 46 rfl (by kernel_rfl)
              have e46 := eval_of h46
              refine value_ (v := v46) (w1 := w1) rfl rfl ?_ (hK _ _ hB (.inr (Below.refl _ _)) (q46 (.inr (by decide))))
              clear hd hn hK
              simp only [execOp, List.getElem_toArray, List.getElem_cons_zero, List.getElem_cons_succ, e46]
              go_simp
            exact steps2_nil
          case stab => exact fun j v w w' => grownBRel_stable _ _ _ _ _ _ _ j v w w'
          case rend =>
            intro vals w1 hB hrr
            have hlast := hrr (13, 6) (by simp) (by decide)
            simp only [fill, Act.put, List.setIfInBounds_toArray, List.set_cons_zero, List.set_cons_succ]
            have hlast' : Nums w1 W.heap.size (vals 13) (grownF f (l.drop (splitS l.length)) (i - splitS l.length) false ++ [rootS (l.take (splitS l.length))]) := hlast
            clear hlast hrr
            generalize vals 13 = vv at hlast' ⊢
            have HL := Aside0.mk hlast'
            clear hlast'
            go_wp2
            go_ret
            exact ⟨_, rfl, by rw [hE.out]; exact Nums.mono HL.out hbW.size, hbW.trans (hB.mono hbW.size)⟩
end Go.Proofs.Ytkedodmlbepfnaa.Lg
