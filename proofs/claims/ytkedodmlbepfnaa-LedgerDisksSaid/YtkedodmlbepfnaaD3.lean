/- Contracts of the ledger's functions (part 3): what each of them answers and leaves, merged by program out of the session's working texts. No condition beyond those that stand in each. -/
import Derived.Test.YtkedodmlbepfnaaD2
-- from the working text Rr
set_option linter.unusedSimpArgs false
set_option linter.unusedVariables false
namespace Go.Proofs.Ytkedodmlbepfnaa.Lg
open Go.RowKit Go.Proofs.YtkedodmlbepfnaaW.PrintWords Go.Proofs.YtkedodmlbepfnaaW.PrintLast Go.Proofs.YtkedodmlbepfnaaW.PrintMore Go.Proofs.Ytkedodmlbepfnaa.Rg
/-- Whether a write is kept. -/
def kb (keep : ByteArray) (i : Nat) : Bool := bt keep i != 0
theorem kb_out {keep : ByteArray} {i : Nat} (h : keep.size ≤ i) : kb keep i = false := by
  unfold kb bt
  rw [dif_neg (by simp; omega)]
  rfl
/-- The last one that is kept. -/
def lastF (k : Nat → Bool) : Nat → Int
  | 0 => -1
  | j + 1 => if k j = true then (j : Int) else lastF k j
theorem lastF_lt (k : Nat → Bool) : ∀ n, lastF k n < n ∧ -1 ≤ lastF k n
  | 0 => by simp [lastF]
  | n + 1 => by
    have := lastF_lt k n
    rw [lastF]
    split <;> omega
theorem lastF_kept (k : Nat → Bool) : ∀ n i, lastF k n = (i : Nat) → k i = true
  | 0, i, h => by simp [lastF] at h
  | n + 1, i, h => by
    rw [lastF] at h
    split at h
    · rename_i hk
      obtain rfl : n = i := by omega
      exact hk
    · exact lastF_kept k n i h
theorem lastF_ext (k : Nat → Bool) (j : Nat) (h : ∀ i, j ≤ i → k i = false) : ∀ d, lastF k (j + d) = lastF k j
  | 0 => rfl
  | d + 1 => by rw [← Nat.add_assoc, lastF, if_neg (by rw [h _ (by omega)]; simp), lastF_ext k j h d]
/-- A sector whose first bytes alone are written. -/
def tear (old new : List Int) (m : Nat) : List Int := new.take m ++ old.drop m
def stepR (k : Nat → Bool) (last : Int) (m : Nat) (ss : List (List Int)) (i : Nat) (x : Int × List Int) : List (List Int) :=
  if (i : Int) = last then ss.set x.1.toNat (tear (ss.getD x.1.toNat []) x.2 m) else if (i : Int) < last ∧ k i = true then ss.set x.1.toNat x.2 else ss
def foldR (k : Nat → Bool) (last : Int) (m : Nat) (wr : List (Int × List Int)) (ss : List (List Int)) : Nat → List (List Int)
  | 0 => ss
  | j + 1 => stepR k last m (foldR k last m wr ss j) j (wr.getD j (0, []))
theorem stepR_length (k : Nat → Bool) (last : Int) (m : Nat) (ss : List (List Int)) (i : Nat) (x : Int × List Int) : (stepR k last m ss i x).length = ss.length := by
  unfold stepR
  split
  · exact List.length_set
  · split
    · exact List.length_set
    · rfl
theorem foldR_length (k : Nat → Bool) (last : Int) (m : Nat) (wr : List (Int × List Int)) (ss : List (List Int)) : ∀ j, (foldR k last m wr ss j).length = ss.length
  | 0 => rfl
  | j + 1 => by rw [foldR, stepR_length, foldR_length k last m wr ss j]
theorem tear_sect {old new : List Int} {m : Nat} (h1 : Sect old) (h2 : Sect new) (hm : m ≤ 64) : Sect (tear old new m) := by
  refine ⟨?_, fun x hx => ?_⟩
  · unfold tear
    rw [List.length_append, List.length_take, List.length_drop, h1.1, h2.1]
    omega
  · unfold tear at hx
    rcases List.mem_append.1 hx with hx | hx
    · exact h2.2 x (List.mem_of_mem_take hx)
    · exact h1.2 x (List.mem_of_mem_drop hx)
theorem foldR_sect {k : Nat → Bool} {last : Int} {m : Nat} {d : DS} (h : d.Ok) (hm : m ≤ 64) : ∀ j, j ≤ d.wr.length → ∀ s ∈ foldR k last m d.wr d.safe j, Sect s
  | 0, _ => h.safe
  | j + 1, hj => by
    have ih := foldR_sect (k := k) (last := last) h hm j (by omega)
    have hl := foldR_length k last m d.wr d.safe j
    obtain ⟨a, b, hab, ha, hb⟩ := h.nth (show j < d.wr.length by omega)
    have hg : d.wr.getD j (0, []) = ((a : Int), b) := by rw [List.getD_eq_getElem?_getD, List.getElem?_eq_getElem (by omega), Option.getD_some, hab]
    intro s hs
    rw [foldR, hg] at hs
    unfold stepR at hs
    simp only [Int.toNat_natCast] at hs
    have hal : a < (foldR k last m d.wr d.safe j).length := by rw [hl, h.len]; exact ha
    split at hs
    · rcases List.mem_or_eq_of_mem_set hs with h1 | h1
      · exact ih s h1
      · subst h1
        refine tear_sect (ih _ ?_) hb hm
        rw [List.getD_eq_getElem?_getD, List.getElem?_eq_getElem hal, Option.getD_some]
        exact List.getElem_mem hal
    · split at hs
      · rcases List.mem_or_eq_of_mem_set hs with h1 | h1
        · exact ih s h1
        · subst h1; exact hb
      · exact ih s hs
theorem foldR_rest (k : Nat → Bool) (last : Int) (m : Nat) (wr : List (Int × List Int)) (ss : List (List Int)) (j : Nat) (h : last < j) : ∀ d, foldR k last m wr ss (j + d) = foldR k last m wr ss j
  | 0 => rfl
  | d + 1 => by
    rw [← Nat.add_assoc, foldR, foldR_rest k last m wr ss j h d]
    unfold stepR
    rw [if_neg (by omega), if_neg (fun hh => by omega)]
/-- How much of the last one is kept. -/
def tornN (keep : ByteArray) (last : Int) : Nat := min (bt keep last).toNat 64
def DS.last (d : DS) (keep : ByteArray) : Int := lastF (kb keep) d.wr.length
def DS.kept (d : DS) (keep : ByteArray) : List (List Int) := foldR (kb keep) (d.last keep) (tornN keep (d.last keep)) d.wr d.safe d.wr.length
def DS.restart (d : DS) (keep : ByteArray) : DS := { safe := d.kept keep, now := d.kept keep, wr := [], armed := 0, down := false, falls := if d.down = true then d.falls else d.falls + 1 }
theorem tornN_le (keep : ByteArray) (last : Int) : tornN keep last ≤ 64 := Nat.min_le_right _ _
theorem DS.Ok.restart {d : DS} (h : d.Ok) (keep : ByteArray) : (d.restart keep).Ok := by
  have hl : (d.kept keep).length = d.safe.length := foldR_length _ _ _ _ _ _
  have hs : ∀ s ∈ d.kept keep, Sect s := foldR_sect h (tornN_le _ _) _ (Nat.le_refl _)
  have hp := h.pos
  have hlim := h.lim
  have hlen := h.len
  have hf := h.falls0
  refine ⟨rfl, ?_, ?_, hs, hs, (fun x hx => by cases hx), Int.le_refl 0, by show (0 : Int) ≤ 9223372036854775807; decide, ?_⟩
  · show 1 ≤ (d.kept keep).length; omega
  · show (d.kept keep).length ≤ 4096; omega
  · show 0 ≤ (if d.down = true then d.falls else d.falls + 1); split <;> omega
theorem DS.restart_inv (d : DS) (keep : ByteArray) : (d.restart keep).Inv := rfl
theorem strOfNums_append (xs ys : List Int) : strOfNums (xs ++ ys) = strOfNums xs ++ strOfNums ys := by
  apply ByteArray.ext
  apply Array.toList_inj.1
  simp [strOfNums]
theorem str_take (xs : List Int) (m : Nat) : (strOfNums xs).extract 0 m = strOfNums (xs.take m) := by
  apply ByteArray.ext
  apply Array.toList_inj.1
  simp [strOfNums, List.map_take]
theorem str_drop (xs : List Int) (m : Nat) : (strOfNums xs).extract m (strOfNums xs).size = strOfNums (xs.drop m) := by
  apply ByteArray.ext
  apply Array.toList_inj.1
  simp [strOfNums, List.map_drop]
  refine List.take_of_length_le ?_
  rw [List.length_drop]
  exact Nat.le_refl _
theorem str_tear {old new : List Int} {m : Nat} (h1 : Sect old) (h2 : Sect new) (hm : m ≤ 64) : (strOfNums new).extract 0 m ++ (strOfNums old).extract m (strOfNums old).size = strOfNums (tear old new m) := by
  have e : strOfNums (tear old new m) = strOfNums (new.take m) ++ strOfNums (old.drop m) := strOfNums_append _ _
  rw [e, str_take, str_drop]
def RRs (w : World) (S : Nat → Prop) (g : Nat) (d : DS) (keep : ByteArray) (e : Ending) (w' : World) : Prop := e = .returned (.tuple #[]) ∧ ∃ vs' vn' vw', RAt w' (Nw S w) g (d.restart keep) vs' vn' vw' ∧ Kp S w w'
theorem RAt.lifeSet {w : World} {S : Nat → Prop} {g : Nat} {d : DS} {vs vn vw : Value} (h : RAt w S g d vs vn vw) (x : Int) : RAt (w.setCell ⟨g, 5, none⟩ (.int .i64 x)) S g d vs vn vw := h.set h.1 (fun life => ⟨x, rfl⟩) rfl rfl rfl
theorem kb_eq {keep : ByteArray} {j : Nat} (h : j < keep.size) : kb keep j = (((keep[j]'h).toNat : Int) != 0) := by
  unfold kb bt
  rw [dif_pos (by simpa using h)]
  rfl
theorem Sect.size {b : List Int} (h : Sect b) : (strOfNums b).size = 64 := by
  rw [← h.1]
  show (List.map (fun n => UInt8.ofNat n.toNat) b).toArray.size = b.length
  simp
theorem torn_eq {keep : ByteArray} {j : Nat} (h : j < keep.size) : min (wrap64 (((keep[j]'h).toNat : Nat) : Int)) 64 = ((tornN keep (j : Int) : Nat) : Int) := by
  have hb : bt keep (j : Int) = (((keep[j]'h).toNat : Nat) : Int) := by
    unfold bt
    rw [dif_pos (by simpa using h)]
    rfl
  have : (keep[j]'h).toNat < 256 := (keep[j]'h).toNat_lt
  unfold tornN
  rw [hb]
  generalize (keep[j]'h).toNat = n at *
  have e : wrap64 (n : Int) = (n : Int) := by unfold wrap64; omega
  rw [e, Int.toNat_natCast]
  omega
def copyR (a b : List (List Int)) (j : Nat) : List (List Int) := a.take j ++ b.drop j
theorem copyR_length {a b : List (List Int)} {j : Nat} (h : a.length = b.length) (hj : j ≤ b.length) : (copyR a b j).length = b.length := by
  unfold copyR
  rw [List.length_append, List.length_take, List.length_drop]
  omega
theorem copyR_all {a b : List (List Int)} {j : Nat} (h : a.length = b.length) (hj : b.length ≤ j) : copyR a b j = a := by
  unfold copyR
  rw [List.take_of_length_le (by omega), List.drop_of_length_le hj, List.append_nil]
theorem copyR_set {a b : List (List Int)} {j : Nat} {x : List Int} (h : a.length = b.length) (hx : a[j]? = some x) (hj : j < b.length) : (copyR a b j).set j x = copyR a b (j + 1) := by
  unfold copyR
  have ha : j < a.length := by omega
  have e : a[j] = x := by rw [List.getElem?_eq_getElem ha] at hx; exact Option.some.inj hx
  rw [List.set_append_right j x (by rw [List.length_take]; omega), List.length_take, Nat.min_eq_left (by omega), Nat.sub_self, List.drop_eq_getElem_cons hj, List.set_cons_zero, List.take_succ_eq_append_getElem ha, e, List.append_assoc]
  rfl
theorem RAt.finish {w : World} {S : Nat → Prop} {g : Nat} {d : DS} {vs vn vw : Value} (h : RAt w S g d vs vn vw) (f : Int) (hf : 0 ≤ f) :
    RAt (((w.setCell ⟨g, 2, none⟩ (.slice none 0 0)).setCell ⟨g, 4, none⟩ (.int .i64 0)).setCell ⟨g, 3, none⟩ (.bool true)) S g { safe := d.safe, now := d.now, wr := [], armed := 0, down := false, falls := f } vs vn (.slice none 0 0) := by
  have h1 := h.wiped
  have hok1 := h1.1
  have h2 := h1.set (i := 4) (u := .int .i64 0) (d' := { safe := d.safe, now := d.now, wr := [], armed := 0, down := d.down, falls := f }) ⟨hok1.len, hok1.pos, hok1.lim, hok1.safe, hok1.now, (fun x hx => by cases hx), Int.le_refl 0, by show (0 : Int) ≤ 9223372036854775807; decide, hf⟩ (fun life => ⟨life, rfl⟩) rfl rfl rfl
  exact h2.set (i := 3) (u := .bool true) (d' := { safe := d.safe, now := d.now, wr := [], armed := 0, down := false, falls := f }) ⟨hok1.len, hok1.pos, hok1.lim, hok1.safe, hok1.now, (fun x hx => by cases hx), Int.le_refl 0, by show (0 : Int) ≤ 9223372036854775807; decide, hf⟩ (fun life => ⟨life, rfl⟩) rfl rfl rfl
set_option maxHeartbeats 16000000 in
set_option maxRecDepth 100000 in
theorem rrestart_true1 (w : World) (S : Nat → Prop) (g : Nat) (d : DS) (vs vn vw : Value) (keep : ByteArray) (h0 : RAt w S g d vs vn vw) (hl : d.wr.length ≤ 1000000) (hd : d.down = true) (hsz : keep.size < d.wr.length) :
    Calls Try.prog 41 #[.pointer (some ⟨g, 0, none⟩), .string keep] w (RRs w S g d keep) := by
  obtain ⟨Aw, cw, hvw⟩ := h0.2.2.2.2.2.1.slice
  subst hvw
  obtain ⟨gs, cs, curs, hvs, _⟩ := h0.2.2.2.1.form (by have := h0.1.pos; have := h0.1.len; omega)
  subst hvs
  obtain ⟨gn, cn, curn, hvn, _⟩ := h0.2.2.2.2.1.form h0.1.pos
  subst hvn
  have H := Aside0.mk h0
  have HOk := Aside0.mk h0.1
  obtain ⟨life, hb⟩ := h0.2.2.1
  have c3 : w.cell? ⟨g, 3, none⟩ = some (.bool (!d.down)) := (blk_cell hb 3).trans rfl
  have c5 : w.cell? ⟨g, 5, none⟩ = some (.int .i64 life) := (blk_cell hb 5).trans rfl
  have f5 := blk_frozen hb 5
  clear h0 hb
  rw [hd] at c3
  have HA := Aside0.mk H.out
  have HK := Aside0.mk (Kp.refl S w)
  clear H
  go_enter Try.func41, Try.ntmps41
  go_wp2
  clear c3 c5 f5
  go_loopw [4, 5] (fun v4 v5 W => ∃ j : Nat, v4 = .int .i64 (lastF (kb keep) j) ∧ v5 = .int .i64 (j : Int) ∧ j ≤ d.wr.length ∧ j ≤ keep.size ∧ Aside0 (RAt W S g d (.slice (some ⟨gs, 0, none⟩) d.safe.length cs) (.slice (some ⟨gn, 0, none⟩) d.now.length cn) (.slice Aw d.wr.length cw)) ∧ Aside0 (Kp S w W)) (fun _ v _ => d.wr.length - (intOf v).toNat)
  case atStart => exact ⟨0, rfl, rfl, Nat.zero_le _, Nat.zero_le _, HA, HK⟩
  case round =>
    obtain ⟨j, rfl, rfl, hj, hjk, HA, HK⟩ := hrel
    obtain ⟨lifeA, hbA⟩ := HA.out.2.2.1
    have c2 : wr.cell? ⟨g, 2, none⟩ = some (.slice Aw d.wr.length cw) := (blk_cell hbA 2).trans rfl
    clear hbA
    have hcont : (∃ j1 : Nat, .int .i64 (lastF (kb keep) (j + 1)) = Value.int .i64 (lastF (kb keep) j1) ∧ Value.int .i64 ((j : Int) + 1) = .int .i64 (j1 : Int) ∧ j1 ≤ d.wr.length) ∨ ¬ j < d.wr.length := by
      by_cases h : j < d.wr.length
      · exact .inl ⟨j + 1, rfl, rfl, h⟩
      · exact .inr h
    have HC := Aside0.mk hcont
    clear hcont
    by_cases hlt : j < d.wr.length
    · have l1 : decide ((j : Int) < (d.wr.length : Int)) = true := decide_eq_true (by omega)
      have l2 : decide (j < d.wr.length) = true := decide_eq_true hlt
      by_cases hks : j < keep.size
      · have l3 : decide ((j : Int) < (keep.size : Int)) = true := decide_eq_true (by omega)
        have l4 : decide (j < keep.size) = true := decide_eq_true hks
        have l5 : (j : Int) < (keep.size : Int) := by omega
        have hkb := kb_eq hks
        cases hk : (((keep[j]'hks).toNat : Int) != 0) with
        | true =>
          have HL := Aside0.mk (show lastF (kb keep) (j + 1) = (j : Int) by rw [lastF, if_pos (by rw [hkb, hk])])
          clear hkb
          go_wp2
          refine ⟨⟨j + 1, by rw [HL.out], rfl, hlt, hks, HA, HK⟩, ?_⟩
          simp [intOf]
          omega
        | false =>
          have HL := Aside0.mk (show lastF (kb keep) (j + 1) = lastF (kb keep) j by rw [lastF, if_neg (by rw [hkb, hk]; simp)])
          clear hkb
          go_wp2
          refine ⟨⟨j + 1, by rw [HL.out], rfl, hlt, hks, HA, HK⟩, ?_⟩
          simp [intOf]
          omega
      · skip
        have l3 : decide ((j : Int) < (keep.size : Int)) = false := decide_eq_false (by omega)
        have l4 : decide (j < keep.size) = false := decide_eq_false hks
        have HLast := Aside0.mk (show lastF (kb keep) j = d.last keep by unfold DS.last; obtain ⟨e, he⟩ : ∃ e, d.wr.length = j + e := ⟨d.wr.length - j, by omega⟩; rw [he, lastF_ext (kb keep) j (fun i hi => kb_out (by omega))])
        go_wp2
        rw [HLast.out]
        have hl3 := (lastF_lt (kb keep) d.wr.length)
        have hlk : ∀ i : Nat, d.last keep = (i : Int) → i < keep.size ∧ kb keep i = true := fun i hi => by
          have h := lastF_kept (kb keep) d.wr.length i hi
          refine ⟨?_, h⟩
          rcases Nat.lt_or_ge i keep.size with h1 | h1
          · exact h1
          · rw [kb_out h1] at h; cases h
        have HLK := Aside0.mk hlk
        have HL3 : Aside0 (d.last keep < d.wr.length ∧ -1 ≤ d.last keep) := Aside0.mk hl3
        have HTm := Aside0.mk (show tornN keep (d.last keep) = tornN keep (d.last keep) from rfl)
        have HKd := Aside0.mk (show d.kept keep = foldR (kb keep) (d.last keep) (tornN keep (d.last keep)) d.wr d.safe d.wr.length from rfl)
        have HRs := Aside0.mk (show d.restart keep = { safe := d.kept keep, now := d.kept keep, wr := [], armed := 0, down := false, falls := if d.down = true then d.falls else d.falls + 1 } from rfl)
        clear hl3 hlk HLast
        generalize d.last keep = last at *
        generalize htm : tornN keep last = tm at HTm HKd
        rw [← htm] at HTm
        replace HTm := Aside0.mk htm
        clear htm
        go_loopw [6] (fun v W => ∃ j : Nat, v = .int .i64 (j : Int) ∧ (j : Int) ≤ last + 1 ∧ Aside0 (RAt W (Nw S w) g { d with safe := foldR (kb keep) last tm d.wr d.safe j } (.slice (some ⟨gs, 0, none⟩) d.safe.length cs) (.slice (some ⟨gn, 0, none⟩) d.now.length cn) (.slice Aw d.wr.length cw)) ∧ Aside0 (Kp S w W)) (fun v _ => d.wr.length - (intOf v).toNat)
        case atStart => exact ⟨0, rfl, by have := HL3.out.2; omega, Aside0.mk (HA.out.mono fun k hk => .inl hk), HK⟩
        case round =>
          clear HC HA HK c2
          obtain ⟨j, rfl, hj, HA, HK⟩ := hrel
          obtain ⟨lifeA, hbA⟩ := HA.out.2.2.1
          have c0 : wr.cell? ⟨g, 0, none⟩ = some (.slice (some ⟨gs, 0, none⟩) d.safe.length cs) := (blk_cell hbA 0).trans rfl
          have c2 : wr.cell? ⟨g, 2, none⟩ = some (.slice Aw d.wr.length cw) := (blk_cell hbA 2).trans rfl
          clear hbA
          by_cases hlt : (j : Int) ≤ last
          · have l1 : decide ((j : Int) ≤ last) = true := decide_eq_true hlt
            obtain ⟨i, hi⟩ := Int.eq_ofNat_of_zero_le (show 0 ≤ last by omega)
            have hks : j < keep.size := by have := (HLK.out i hi).1; omega
            have hjw : j < d.wr.length := by have := HL3.out.1; omega
            have l3 : (j : Int) < (keep.size : Int) := by omega
            have hkb := kb_eq hks
            cases hk : (((keep[j]'hks).toNat : Int) == 0) with
            | true =>
              have hkf : kb keep j = false := by rw [hkb, bne, hk]; rfl
              have hjl : (j : Int) ≠ last := fun e => by have := (HLK.out j e.symm).2; rw [hkf] at this; cases this
              have HNx := Aside0.mk (show foldR (kb keep) last tm d.wr d.safe (j + 1) = foldR (kb keep) last tm d.wr d.safe j by rw [foldR]; unfold stepR; rw [if_neg hjl, if_neg (fun h => by rw [hkf] at h; cases h.2)])
              clear hkb hkf
              go_wp2
              refine ⟨⟨j + 1, rfl, by omega, by rw [HNx.out]; exact HA, HK⟩, ?_⟩
              simp [intOf]
              omega
            | false =>
              have hkt : kb keep j = true := by rw [hkb, bne, hk]; rfl
              have hOW : Own wr (Nw S w) 126 2 (.slice Aw d.wr.length cw) d.wr.length (wstrs d.wr) := HA.out.2.2.2.2.2.1
              obtain ⟨gw, cw', curw, hvw, _⟩ := hOW.form (by omega)
              injection hvw with hvw _ hcw
              subst hvw
              subst hcw
              obtain ⟨a, b, hab, han, hbs⟩ := HOk.out.nth hjw
              have hget : d.wr[j]? = some ((a : Int), b) := by rw [List.getElem?_eq_getElem hjw, hab]
              have hwg := wstrs_get d.wr j _ hget
              obtain ⟨k0, _⟩ := hOW.cellsAt (j * 2) _ hwg.1
              obtain ⟨k1, _⟩ := hOW.cellsAt (j * 2 + 1) _ hwg.2
              have has : a < d.safe.length := by rw [HOk.out.len]; exact han
              have hsl : (foldR (kb keep) last tm d.wr d.safe j).length = d.safe.length := foldR_length _ _ _ _ _ _
              obtain ⟨b0, hsg⟩ : ∃ b0, (foldR (kb keep) last tm d.wr d.safe j)[a]? = some b0 := ⟨_, List.getElem?_eq_getElem (by rw [hsl]; exact has)⟩
              have hb0 : Sect b0 := HA.out.1.safe b0 (List.mem_of_getElem? hsg)
              have hOwnS : Own wr (Nw S w) 9 1 (.slice (some ⟨gs, 0, none⟩) (foldR (kb keep) last tm d.wr d.safe j).length cs) (foldR (kb keep) last tm d.wr d.safe j).length (strs (foldR (kb keep) last tm d.wr d.safe j)) := by rw [hsl]; have h := HA.out.2.2.2.1; rw [show ({ d with safe := foldR (kb keep) last tm d.wr d.safe j } : DS).safe.length = d.safe.length from hsl] at h; exact h
              obtain ⟨k2, k3⟩ := hOwnS.cellsAt a _ (strs_get hsg)
              have hgd : d.wr.getD j (0, []) = ((a : Int), b) := by rw [List.getD_eq_getElem?_getD, hget]; rfl
              have HNext : ∀ b2, Sect b2 → stepR (kb keep) last tm (foldR (kb keep) last tm d.wr d.safe j) j ((a : Int), b) = (foldR (kb keep) last tm d.wr d.safe j).set a b2 → ∀ W', Below wr.heap.size wr W' → RAt (W'.setCell ⟨gs, a, none⟩ (sstr b2)) (Nw S w) g { d with safe := foldR (kb keep) last tm d.wr d.safe (j + 1) } (.slice (some ⟨gs, 0, none⟩) d.safe.length cs) (.slice (some ⟨gn, 0, none⟩) d.now.length cn) (.slice (some ⟨gw, 0, none⟩) d.wr.length cw) ∧ Kp S w (W'.setCell ⟨gs, a, none⟩ (sstr b2)) := by
                intro b2 hb2 hst W' hW'
                have h := HA.out.below hW'
                rw [show Value.slice (some ⟨gs, 0, none⟩) d.safe.length cs = Value.slice (some ⟨gs, 0, none⟩) ({ d with safe := foldR (kb keep) last tm d.wr d.safe j } : DS).safe.length cs from by rw [show ({ d with safe := foldR (kb keep) last tm d.wr d.safe j } : DS).safe.length = d.safe.length from hsl]] at h
                have h2 := h.safe (i := a) (b := b2) (by rw [show ({ d with safe := foldR (kb keep) last tm d.wr d.safe j } : DS).safe.length = d.safe.length from hsl]; exact has) hb2
                rw [show ({ d with safe := foldR (kb keep) last tm d.wr d.safe j } : DS).safe.length = d.safe.length from hsl] at h2
                rw [foldR, hgd, hst]
                exact ⟨h2, (HK.out.below hW').setCell (p := ⟨gs, a, none⟩) (hOwnS.2 gs rfl) _⟩
              have HNX := Aside0.mk HNext
              have l2 : (j : Int) < (d.wr.length : Int) := by omega
              have l4 : (a : Int) < (d.safe.length : Int) := by omega
              have HB := Aside0.mk hbs
              have HB0 := Aside0.mk hb0
              have HGA := Aside0.mk (show (foldR (kb keep) last tm d.wr d.safe j).getD a [] = b0 by rw [List.getD_eq_getElem?_getD, hsg]; rfl)
              have HKT := Aside0.mk hkt
              unfold sstr at k1 k2
              clear hab hget hwg hsg hOwnS hbs hOW HNext hb0 hgd hsl hkb hkt
              by_cases hjl : (j : Int) = last
              · have m1 : ((j : Int) == last) = true := by rw [beq_iff_eq]; exact hjl
                have HJL := Aside0.mk hjl
                clear hjl hi hlt hj
                go_wp2
                have hB1 : Below wr.heap.size wr (wr.alloc (.cells #[.int .i64 (a : Int), .string (strOfNums b)] 126)) := below_alloc (Below.refl _ _) _
                have c0' := (hB1.cell (World.block_lt_of_cell? wr _ c0)).trans c0
                have k2' := (hB1.cell (World.block_lt_of_cell? wr _ k2)).trans k2
                have k3' : (wr.alloc (.cells #[.int .i64 (a : Int), .string (strOfNums b)] 126)).frozen? ⟨gs, a, none⟩ = false := by
                  have hlt' := World.block_lt_of_cell? wr _ k2
                  have e := hB1.block gs hlt'
                  unfold World.frozen? at k3 ⊢
                  simp only [e]
                  exact k3
                have bx0 : (wr.alloc (.cells #[.int .i64 (a : Int), .string (strOfNums b)] 126)).cell? ⟨wr.heap.size, 0, none⟩ = some (.int .i64 (a : Int)) := (blk_cell (blk_new wr _) 0).trans rfl
                have bx1 : (wr.alloc (.cells #[.int .i64 (a : Int), .string (strOfNums b)] 126)).cell? ⟨wr.heap.size, 1, none⟩ = some (.string (strOfNums b)) := (blk_cell (blk_new wr _) 1).trans rfl
                have HB1 := Aside0.mk hB1
                generalize hW1 : wr.alloc (.cells #[.int .i64 (a : Int), .string (strOfNums b)] 126) = W1 at *
                generalize hgx : wr.heap.size = gx at *
                have HW1 := Aside0.mk hW1
                have HGX := Aside0.mk hgx
                clear hB1 c0 k0 k1 k2 k3 c2 hW1 hgx
                have hm64 : tm ≤ 64 := by rw [← HTm.out]; exact tornN_le _ _
                have hmn := torn_eq hks
                rw [HJL.out, HTm.out] at hmn
                have m2 : 0 ≤ (tm : Int) := Int.natCast_nonneg tm
                have m3 : (tm : Int) ≤ 64 := Int.ofNat_le.2 hm64
                have m4 : (strOfNums b).size = 64 := HB.out.size
                have m5 : (strOfNums b0).size = 64 := HB0.out.size
                have m6 : (tm : Int) ≤ ((strOfNums b).size : Int) := by rw [m4]; exact m3
                have m7 : (tm : Int) ≤ ((strOfNums b0).size : Int) := by rw [m5]; exact m3
                have HT := Aside0.mk (by have h := str_tear HB0.out HB.out hm64; rw [m5] at h; exact h)
                have HTS := Aside0.mk (tear_sect HB0.out HB.out hm64)
                have HST := Aside0.mk (show stepR (kb keep) last tm (foldR (kb keep) last tm d.wr d.safe j) j ((a : Int), b) = (foldR (kb keep) last tm d.wr d.safe j).set a (tear b0 b tm) by unfold stepR; rw [if_pos HJL.out, Int.toNat_natCast, HGA.out])
                clear hm64
                go_region
                all_goals go_wp2
                rw [HT.out]
                go_roundw
                case rel => exact ⟨j + 1, rfl, by have := HJL.out; omega, Aside0.mk ((HNX.out (tear b0 b tm) HTS.out HST.out W1 HB1.out).1.below (below_drew (Below.refl _ _))), Aside0.mk ((HNX.out (tear b0 b tm) HTS.out HST.out W1 HB1.out).2.below (below_drew (Below.refl _ _)))⟩
                case measure => simp [intOf]; omega
              · have m1 : ((j : Int) == last) = false := by rw [beq_eq_false_iff_ne]; exact hjl
                have HST := Aside0.mk (show stepR (kb keep) last tm (foldR (kb keep) last tm d.wr d.safe j) j ((a : Int), b) = (foldR (kb keep) last tm d.wr d.safe j).set a b by unfold stepR; rw [if_neg hjl, if_pos ⟨by omega, HKT.out⟩, Int.toNat_natCast])
                have HLT := Aside0.mk hlt
                clear hjl hi hlt hj
                go_wp2
                have hB1 : Below wr.heap.size wr (wr.alloc (.cells #[.int .i64 (a : Int), .string (strOfNums b)] 126)) := below_alloc (Below.refl _ _) _
                have c0' := (hB1.cell (World.block_lt_of_cell? wr _ c0)).trans c0
                have k2' := (hB1.cell (World.block_lt_of_cell? wr _ k2)).trans k2
                have k3' : (wr.alloc (.cells #[.int .i64 (a : Int), .string (strOfNums b)] 126)).frozen? ⟨gs, a, none⟩ = false := by
                  have hlt' := World.block_lt_of_cell? wr _ k2
                  have e := hB1.block gs hlt'
                  unfold World.frozen? at k3 ⊢
                  simp only [e]
                  exact k3
                have bx0 : (wr.alloc (.cells #[.int .i64 (a : Int), .string (strOfNums b)] 126)).cell? ⟨wr.heap.size, 0, none⟩ = some (.int .i64 (a : Int)) := (blk_cell (blk_new wr _) 0).trans rfl
                have bx1 : (wr.alloc (.cells #[.int .i64 (a : Int), .string (strOfNums b)] 126)).cell? ⟨wr.heap.size, 1, none⟩ = some (.string (strOfNums b)) := (blk_cell (blk_new wr _) 1).trans rfl
                have HB1 := Aside0.mk hB1
                generalize hW1 : wr.alloc (.cells #[.int .i64 (a : Int), .string (strOfNums b)] 126) = W1 at *
                generalize hgx : wr.heap.size = gx at *
                have HW1 := Aside0.mk hW1
                have HGX := Aside0.mk hgx
                clear hB1 c0 k0 k1 k2 k3 c2 hW1 hgx
                go_region
                all_goals go_wp2
                go_roundw
                case rel => exact ⟨j + 1, rfl, by have := HLT.out; omega, Aside0.mk ((HNX.out b HB.out HST.out W1 HB1.out).1.below (below_drew (Below.refl _ _))), Aside0.mk ((HNX.out b HB.out HST.out W1 HB1.out).2.below (below_drew (Below.refl _ _)))⟩
                case measure => simp [intOf]; omega
          · have l1 : decide ((j : Int) ≤ last) = false := decide_eq_false hlt
            have hjw : j ≤ d.wr.length := by have := HL3.out.1; omega
            have hfk : foldR (kb keep) last tm d.wr d.safe j = d.kept keep := by
              rw [HKd.out]
              obtain ⟨e, he⟩ : ∃ e, d.wr.length = j + e := ⟨d.wr.length - j, by omega⟩
              rw [he, foldR_rest _ _ _ _ _ _ (by omega)]
            rw [hfk] at HA
            have hkl : (d.kept keep).length = d.safe.length := foldR_length _ _ _ _ _ _
            have HA3 := HA.out
            have hd3 : ∃ d3 : DS, d3 = { d with safe := d.kept keep } := ⟨_, rfl⟩
            obtain ⟨d3, hd3⟩ := hd3
            rw [← hkl] at HA3
            replace HA3 : RAt wr (Nw S w) g d3 (.slice (some ⟨gs, 0, none⟩) d3.safe.length cs) (.slice (some ⟨gn, 0, none⟩) d3.now.length cn) (.slice Aw d3.wr.length cw) := by rw [hd3]; exact HA3
            have HR3 : Aside0 (d.restart keep = { safe := d3.safe, now := d3.safe, wr := [], armed := 0, down := false, falls := if d3.down = true then d3.falls else d3.falls + 1 }) := Aside0.mk (by rw [hd3]; exact HRs.out)
            have HA3 := Aside0.mk HA3
            rw [show d.safe.length = d3.safe.length from by rw [hd3]; exact hkl.symm] at c0
            rw [show d.wr = d3.wr from by rw [hd3]] at c2
            clear HA HRs HKd HTm hfk hkl hd3 HL3 HLK hlt hj hjw HOk
            go_wp2
            go_loopw [9] (fun v W => ∃ j : Nat, v = .int .i64 (j : Int) ∧ j ≤ d3.now.length ∧ Aside0 (RAt W (Nw S w) g { d3 with now := copyR d3.safe d3.now j } (.slice (some ⟨gs, 0, none⟩) d3.safe.length cs) (.slice (some ⟨gn, 0, none⟩) d3.now.length cn) (.slice Aw d3.wr.length cw)) ∧ Aside0 (Kp S w W)) (fun v _ => d3.now.length - (intOf v).toNat)
            case atStart => exact ⟨0, rfl, Nat.zero_le _, HA3, HK⟩
            case round =>
              have HOk := Aside0.mk HA3.out.1
              clear HA3 HK c0 c2
              obtain ⟨j, rfl, hj, HA, HK⟩ := hrel
              obtain ⟨lifeA, hbA⟩ := HA.out.2.2.1
              have c0 : wr.cell? ⟨g, 0, none⟩ = some (.slice (some ⟨gs, 0, none⟩) d3.safe.length cs) := (blk_cell hbA 0).trans rfl
              have c1 : wr.cell? ⟨g, 1, none⟩ = some (.slice (some ⟨gn, 0, none⟩) d3.now.length cn) := (blk_cell hbA 1).trans rfl
              have hls : d3.safe.length = d3.now.length := HOk.out.len
              have hlim : d3.now.length ≤ 4096 := HOk.out.lim
              by_cases hlt : j < d3.now.length
              · have l1 : (j : Int) < (d3.now.length : Int) := Int.ofNat_lt.2 hlt
                have l2 : (j : Int) < (d3.safe.length : Int) := by rw [hls]; exact l1
                have l3 : decide ((j : Int) < (d3.safe.length : Int)) = true := decide_eq_true l2
                have l4 : decide (j < d3.safe.length) = true := decide_eq_true (by omega)
                obtain ⟨b, hb⟩ : ∃ b, d3.safe[j]? = some b := ⟨_, List.getElem?_eq_getElem (by omega)⟩
                have hbs : Sect b := HOk.out.safe b (List.mem_of_getElem? hb)
                have hOS : Own wr (Nw S w) 9 1 (.slice (some ⟨gs, 0, none⟩) d3.safe.length cs) d3.safe.length (strs d3.safe) := HA.out.2.2.2.1
                have hcl : (copyR d3.safe d3.now j).length = d3.now.length := copyR_length hls hj
                have hON : Own wr (Nw S w) 9 1 (.slice (some ⟨gn, 0, none⟩) (copyR d3.safe d3.now j).length cn) (copyR d3.safe d3.now j).length (strs (copyR d3.safe d3.now j)) := by rw [hcl]; have h := HA.out.2.2.2.2.1; rw [show ({ d3 with now := copyR d3.safe d3.now j } : DS).now.length = d3.now.length from hcl] at h; exact h
                obtain ⟨b0, hb0⟩ : ∃ b, (copyR d3.safe d3.now j)[j]? = some b := ⟨_, List.getElem?_eq_getElem (by omega)⟩
                obtain ⟨k0, _⟩ := hOS.cellsAt j _ (strs_get hb)
                obtain ⟨k1, k2⟩ := hON.cellsAt j _ (strs_get hb0)
                have HNext : RAt (wr.setCell ⟨gn, j, none⟩ (sstr b)) (Nw S w) g { d3 with now := copyR d3.safe d3.now (j + 1) } (.slice (some ⟨gs, 0, none⟩) d3.safe.length cs) (.slice (some ⟨gn, 0, none⟩) d3.now.length cn) (.slice Aw d3.wr.length cw) ∧ Kp S w (wr.setCell ⟨gn, j, none⟩ (sstr b)) := by
                  have h := HA.out
                  rw [show Value.slice (some ⟨gn, 0, none⟩) d3.now.length cn = Value.slice (some ⟨gn, 0, none⟩) ({ d3 with now := copyR d3.safe d3.now j } : DS).now.length cn from by rw [show ({ d3 with now := copyR d3.safe d3.now j } : DS).now.length = d3.now.length from hcl]] at h
                  have h2 := h.now (i := j) (b := b) (by rw [show ({ d3 with now := copyR d3.safe d3.now j } : DS).now.length = d3.now.length from hcl]; exact hlt) hbs
                  rw [show ({ d3 with now := copyR d3.safe d3.now j } : DS).now.length = d3.now.length from hcl] at h2
                  rw [← copyR_set hls hb hlt]
                  exact ⟨h2, HK.out.setCell (p := ⟨gn, j, none⟩) (hON.2 gn rfl) _⟩
                have HNX := Aside0.mk HNext
                unfold sstr at k0 k1
                clear hb hbs hOS hcl hON hb0 HNext hbA hls HOk
                go_wp2
                go_region
                all_goals go_wp2
                go_roundw
                case rel => exact ⟨j + 1, rfl, hlt, Aside0.mk (HNX.out.1.below (below_drew (Below.refl _ _))), Aside0.mk (HNX.out.2.below (below_drew (Below.refl _ _)))⟩
                case measure => simp [intOf]; omega
              · have l3 : decide ((j : Int) < (d3.safe.length : Int)) = false := decide_eq_false (by omega)
                have l4 : decide (j < d3.safe.length) = false := decide_eq_false (by omega)
                have c2 : wr.cell? ⟨g, 2, none⟩ = some (.slice Aw d3.wr.length cw) := (blk_cell hbA 2).trans rfl
                have c3 : wr.cell? ⟨g, 3, none⟩ = some (.bool (!d3.down)) := (blk_cell hbA 3).trans rfl
                have c4 : wr.cell? ⟨g, 4, none⟩ = some (.int .i64 d3.armed) := (blk_cell hbA 4).trans rfl
                have f2 := blk_frozen hbA 2
                have f3 := blk_frozen hbA 3
                have f4 := blk_frozen hbA 4
                have hfin : copyR d3.safe d3.now j = d3.safe := copyR_all hls (by omega)
                have HF := Aside0.mk (HA.out.finish (if d3.down = true then d3.falls else d3.falls + 1) (by have := HOk.out.falls0; split <;> omega))
                rw [hfin] at HF
                have HKF := Aside0.mk (show Kp S w (((wr.setCell ⟨g, 2, none⟩ (.slice none 0 0)).setCell ⟨g, 4, none⟩ (.int .i64 0)).setCell ⟨g, 3, none⟩ (.bool true)) from ((HK.out.setCell (p := ⟨g, 2, none⟩) HA.out.2.1 _).setCell (p := ⟨g, 4, none⟩) HA.out.2.1 _).setCell (p := ⟨g, 3, none⟩) HA.out.2.1 _)
                clear hbA hfin hls
                go_wp2
                go_end0
                exact ⟨rfl, _, _, _, by rw [HR3.out]; exact HF.out, HKF.out⟩
    · exact absurd hsz (by omega)
set_option maxHeartbeats 16000000 in
set_option maxRecDepth 100000 in
theorem rrestart_true2 (w : World) (S : Nat → Prop) (g : Nat) (d : DS) (vs vn vw : Value) (keep : ByteArray) (h0 : RAt w S g d vs vn vw) (hl : d.wr.length ≤ 1000000) (hd : d.down = true) (hsz : d.wr.length ≤ keep.size) :
    Calls Try.prog 41 #[.pointer (some ⟨g, 0, none⟩), .string keep] w (RRs w S g d keep) := by
  obtain ⟨Aw, cw, hvw⟩ := h0.2.2.2.2.2.1.slice
  subst hvw
  obtain ⟨gs, cs, curs, hvs, _⟩ := h0.2.2.2.1.form (by have := h0.1.pos; have := h0.1.len; omega)
  subst hvs
  obtain ⟨gn, cn, curn, hvn, _⟩ := h0.2.2.2.2.1.form h0.1.pos
  subst hvn
  have H := Aside0.mk h0
  have HOk := Aside0.mk h0.1
  obtain ⟨life, hb⟩ := h0.2.2.1
  have c3 : w.cell? ⟨g, 3, none⟩ = some (.bool (!d.down)) := (blk_cell hb 3).trans rfl
  have c5 : w.cell? ⟨g, 5, none⟩ = some (.int .i64 life) := (blk_cell hb 5).trans rfl
  have f5 := blk_frozen hb 5
  clear h0 hb
  rw [hd] at c3
  have HA := Aside0.mk H.out
  have HK := Aside0.mk (Kp.refl S w)
  clear H
  go_enter Try.func41, Try.ntmps41
  go_wp2
  clear c3 c5 f5
  go_loopw [4, 5] (fun v4 v5 W => ∃ j : Nat, v4 = .int .i64 (lastF (kb keep) j) ∧ v5 = .int .i64 (j : Int) ∧ j ≤ d.wr.length ∧ j ≤ keep.size ∧ Aside0 (RAt W S g d (.slice (some ⟨gs, 0, none⟩) d.safe.length cs) (.slice (some ⟨gn, 0, none⟩) d.now.length cn) (.slice Aw d.wr.length cw)) ∧ Aside0 (Kp S w W)) (fun _ v _ => d.wr.length - (intOf v).toNat)
  case atStart => exact ⟨0, rfl, rfl, Nat.zero_le _, Nat.zero_le _, HA, HK⟩
  case round =>
    obtain ⟨j, rfl, rfl, hj, hjk, HA, HK⟩ := hrel
    obtain ⟨lifeA, hbA⟩ := HA.out.2.2.1
    have c2 : wr.cell? ⟨g, 2, none⟩ = some (.slice Aw d.wr.length cw) := (blk_cell hbA 2).trans rfl
    clear hbA
    have hcont : (∃ j1 : Nat, .int .i64 (lastF (kb keep) (j + 1)) = Value.int .i64 (lastF (kb keep) j1) ∧ Value.int .i64 ((j : Int) + 1) = .int .i64 (j1 : Int) ∧ j1 ≤ d.wr.length) ∨ ¬ j < d.wr.length := by
      by_cases h : j < d.wr.length
      · exact .inl ⟨j + 1, rfl, rfl, h⟩
      · exact .inr h
    have HC := Aside0.mk hcont
    clear hcont
    by_cases hlt : j < d.wr.length
    · have l1 : decide ((j : Int) < (d.wr.length : Int)) = true := decide_eq_true (by omega)
      have l2 : decide (j < d.wr.length) = true := decide_eq_true hlt
      by_cases hks : j < keep.size
      · have l3 : decide ((j : Int) < (keep.size : Int)) = true := decide_eq_true (by omega)
        have l4 : decide (j < keep.size) = true := decide_eq_true hks
        have l5 : (j : Int) < (keep.size : Int) := by omega
        have hkb := kb_eq hks
        cases hk : (((keep[j]'hks).toNat : Int) != 0) with
        | true =>
          have HL := Aside0.mk (show lastF (kb keep) (j + 1) = (j : Int) by rw [lastF, if_pos (by rw [hkb, hk])])
          clear hkb
          go_wp2
          refine ⟨⟨j + 1, by rw [HL.out], rfl, hlt, hks, HA, HK⟩, ?_⟩
          simp [intOf]
          omega
        | false =>
          have HL := Aside0.mk (show lastF (kb keep) (j + 1) = lastF (kb keep) j by rw [lastF, if_neg (by rw [hkb, hk]; simp)])
          clear hkb
          go_wp2
          refine ⟨⟨j + 1, by rw [HL.out], rfl, hlt, hks, HA, HK⟩, ?_⟩
          simp [intOf]
          omega
      · exact absurd hsz (by omega)
    · skip
      have l1 : decide ((j : Int) < (d.wr.length : Int)) = false := decide_eq_false (by omega)
      have l2 : decide (j < d.wr.length) = false := decide_eq_false hlt
      have HLast := Aside0.mk (show lastF (kb keep) j = d.last keep by unfold DS.last; rw [show j = d.wr.length by omega])
      go_wp2
      rw [HLast.out]
      have hl3 := (lastF_lt (kb keep) d.wr.length)
      have hlk : ∀ i : Nat, d.last keep = (i : Int) → i < keep.size ∧ kb keep i = true := fun i hi => by
        have h := lastF_kept (kb keep) d.wr.length i hi
        refine ⟨?_, h⟩
        rcases Nat.lt_or_ge i keep.size with h1 | h1
        · exact h1
        · rw [kb_out h1] at h; cases h
      have HLK := Aside0.mk hlk
      have HL3 : Aside0 (d.last keep < d.wr.length ∧ -1 ≤ d.last keep) := Aside0.mk hl3
      have HTm := Aside0.mk (show tornN keep (d.last keep) = tornN keep (d.last keep) from rfl)
      have HKd := Aside0.mk (show d.kept keep = foldR (kb keep) (d.last keep) (tornN keep (d.last keep)) d.wr d.safe d.wr.length from rfl)
      have HRs := Aside0.mk (show d.restart keep = { safe := d.kept keep, now := d.kept keep, wr := [], armed := 0, down := false, falls := if d.down = true then d.falls else d.falls + 1 } from rfl)
      clear hl3 hlk HLast
      generalize d.last keep = last at *
      generalize htm : tornN keep last = tm at HTm HKd
      rw [← htm] at HTm
      replace HTm := Aside0.mk htm
      clear htm
      go_loopw [6] (fun v W => ∃ j : Nat, v = .int .i64 (j : Int) ∧ (j : Int) ≤ last + 1 ∧ Aside0 (RAt W (Nw S w) g { d with safe := foldR (kb keep) last tm d.wr d.safe j } (.slice (some ⟨gs, 0, none⟩) d.safe.length cs) (.slice (some ⟨gn, 0, none⟩) d.now.length cn) (.slice Aw d.wr.length cw)) ∧ Aside0 (Kp S w W)) (fun v _ => d.wr.length - (intOf v).toNat)
      case atStart => exact ⟨0, rfl, by have := HL3.out.2; omega, Aside0.mk (HA.out.mono fun k hk => .inl hk), HK⟩
      case round =>
        clear HC HA HK c2
        obtain ⟨j, rfl, hj, HA, HK⟩ := hrel
        obtain ⟨lifeA, hbA⟩ := HA.out.2.2.1
        have c0 : wr.cell? ⟨g, 0, none⟩ = some (.slice (some ⟨gs, 0, none⟩) d.safe.length cs) := (blk_cell hbA 0).trans rfl
        have c2 : wr.cell? ⟨g, 2, none⟩ = some (.slice Aw d.wr.length cw) := (blk_cell hbA 2).trans rfl
        clear hbA
        by_cases hlt : (j : Int) ≤ last
        · have l1 : decide ((j : Int) ≤ last) = true := decide_eq_true hlt
          obtain ⟨i, hi⟩ := Int.eq_ofNat_of_zero_le (show 0 ≤ last by omega)
          have hks : j < keep.size := by have := (HLK.out i hi).1; omega
          have hjw : j < d.wr.length := by have := HL3.out.1; omega
          have l3 : (j : Int) < (keep.size : Int) := by omega
          have hkb := kb_eq hks
          cases hk : (((keep[j]'hks).toNat : Int) == 0) with
          | true =>
            have hkf : kb keep j = false := by rw [hkb, bne, hk]; rfl
            have hjl : (j : Int) ≠ last := fun e => by have := (HLK.out j e.symm).2; rw [hkf] at this; cases this
            have HNx := Aside0.mk (show foldR (kb keep) last tm d.wr d.safe (j + 1) = foldR (kb keep) last tm d.wr d.safe j by rw [foldR]; unfold stepR; rw [if_neg hjl, if_neg (fun h => by rw [hkf] at h; cases h.2)])
            clear hkb hkf
            go_wp2
            refine ⟨⟨j + 1, rfl, by omega, by rw [HNx.out]; exact HA, HK⟩, ?_⟩
            simp [intOf]
            omega
          | false =>
            have hkt : kb keep j = true := by rw [hkb, bne, hk]; rfl
            have hOW : Own wr (Nw S w) 126 2 (.slice Aw d.wr.length cw) d.wr.length (wstrs d.wr) := HA.out.2.2.2.2.2.1
            obtain ⟨gw, cw', curw, hvw, _⟩ := hOW.form (by omega)
            injection hvw with hvw _ hcw
            subst hvw
            subst hcw
            obtain ⟨a, b, hab, han, hbs⟩ := HOk.out.nth hjw
            have hget : d.wr[j]? = some ((a : Int), b) := by rw [List.getElem?_eq_getElem hjw, hab]
            have hwg := wstrs_get d.wr j _ hget
            obtain ⟨k0, _⟩ := hOW.cellsAt (j * 2) _ hwg.1
            obtain ⟨k1, _⟩ := hOW.cellsAt (j * 2 + 1) _ hwg.2
            have has : a < d.safe.length := by rw [HOk.out.len]; exact han
            have hsl : (foldR (kb keep) last tm d.wr d.safe j).length = d.safe.length := foldR_length _ _ _ _ _ _
            obtain ⟨b0, hsg⟩ : ∃ b0, (foldR (kb keep) last tm d.wr d.safe j)[a]? = some b0 := ⟨_, List.getElem?_eq_getElem (by rw [hsl]; exact has)⟩
            have hb0 : Sect b0 := HA.out.1.safe b0 (List.mem_of_getElem? hsg)
            have hOwnS : Own wr (Nw S w) 9 1 (.slice (some ⟨gs, 0, none⟩) (foldR (kb keep) last tm d.wr d.safe j).length cs) (foldR (kb keep) last tm d.wr d.safe j).length (strs (foldR (kb keep) last tm d.wr d.safe j)) := by rw [hsl]; have h := HA.out.2.2.2.1; rw [show ({ d with safe := foldR (kb keep) last tm d.wr d.safe j } : DS).safe.length = d.safe.length from hsl] at h; exact h
            obtain ⟨k2, k3⟩ := hOwnS.cellsAt a _ (strs_get hsg)
            have hgd : d.wr.getD j (0, []) = ((a : Int), b) := by rw [List.getD_eq_getElem?_getD, hget]; rfl
            have HNext : ∀ b2, Sect b2 → stepR (kb keep) last tm (foldR (kb keep) last tm d.wr d.safe j) j ((a : Int), b) = (foldR (kb keep) last tm d.wr d.safe j).set a b2 → ∀ W', Below wr.heap.size wr W' → RAt (W'.setCell ⟨gs, a, none⟩ (sstr b2)) (Nw S w) g { d with safe := foldR (kb keep) last tm d.wr d.safe (j + 1) } (.slice (some ⟨gs, 0, none⟩) d.safe.length cs) (.slice (some ⟨gn, 0, none⟩) d.now.length cn) (.slice (some ⟨gw, 0, none⟩) d.wr.length cw) ∧ Kp S w (W'.setCell ⟨gs, a, none⟩ (sstr b2)) := by
              intro b2 hb2 hst W' hW'
              have h := HA.out.below hW'
              rw [show Value.slice (some ⟨gs, 0, none⟩) d.safe.length cs = Value.slice (some ⟨gs, 0, none⟩) ({ d with safe := foldR (kb keep) last tm d.wr d.safe j } : DS).safe.length cs from by rw [show ({ d with safe := foldR (kb keep) last tm d.wr d.safe j } : DS).safe.length = d.safe.length from hsl]] at h
              have h2 := h.safe (i := a) (b := b2) (by rw [show ({ d with safe := foldR (kb keep) last tm d.wr d.safe j } : DS).safe.length = d.safe.length from hsl]; exact has) hb2
              rw [show ({ d with safe := foldR (kb keep) last tm d.wr d.safe j } : DS).safe.length = d.safe.length from hsl] at h2
              rw [foldR, hgd, hst]
              exact ⟨h2, (HK.out.below hW').setCell (p := ⟨gs, a, none⟩) (hOwnS.2 gs rfl) _⟩
            have HNX := Aside0.mk HNext
            have l2 : (j : Int) < (d.wr.length : Int) := by omega
            have l4 : (a : Int) < (d.safe.length : Int) := by omega
            have HB := Aside0.mk hbs
            have HB0 := Aside0.mk hb0
            have HGA := Aside0.mk (show (foldR (kb keep) last tm d.wr d.safe j).getD a [] = b0 by rw [List.getD_eq_getElem?_getD, hsg]; rfl)
            have HKT := Aside0.mk hkt
            unfold sstr at k1 k2
            clear hab hget hwg hsg hOwnS hbs hOW HNext hb0 hgd hsl hkb hkt
            by_cases hjl : (j : Int) = last
            · have m1 : ((j : Int) == last) = true := by rw [beq_iff_eq]; exact hjl
              have HJL := Aside0.mk hjl
              clear hjl hi hlt hj
              go_wp2
              have hB1 : Below wr.heap.size wr (wr.alloc (.cells #[.int .i64 (a : Int), .string (strOfNums b)] 126)) := below_alloc (Below.refl _ _) _
              have c0' := (hB1.cell (World.block_lt_of_cell? wr _ c0)).trans c0
              have k2' := (hB1.cell (World.block_lt_of_cell? wr _ k2)).trans k2
              have k3' : (wr.alloc (.cells #[.int .i64 (a : Int), .string (strOfNums b)] 126)).frozen? ⟨gs, a, none⟩ = false := by
                have hlt' := World.block_lt_of_cell? wr _ k2
                have e := hB1.block gs hlt'
                unfold World.frozen? at k3 ⊢
                simp only [e]
                exact k3
              have bx0 : (wr.alloc (.cells #[.int .i64 (a : Int), .string (strOfNums b)] 126)).cell? ⟨wr.heap.size, 0, none⟩ = some (.int .i64 (a : Int)) := (blk_cell (blk_new wr _) 0).trans rfl
              have bx1 : (wr.alloc (.cells #[.int .i64 (a : Int), .string (strOfNums b)] 126)).cell? ⟨wr.heap.size, 1, none⟩ = some (.string (strOfNums b)) := (blk_cell (blk_new wr _) 1).trans rfl
              have HB1 := Aside0.mk hB1
              generalize hW1 : wr.alloc (.cells #[.int .i64 (a : Int), .string (strOfNums b)] 126) = W1 at *
              generalize hgx : wr.heap.size = gx at *
              have HW1 := Aside0.mk hW1
              have HGX := Aside0.mk hgx
              clear hB1 c0 k0 k1 k2 k3 c2 hW1 hgx
              have hm64 : tm ≤ 64 := by rw [← HTm.out]; exact tornN_le _ _
              have hmn := torn_eq hks
              rw [HJL.out, HTm.out] at hmn
              have m2 : 0 ≤ (tm : Int) := Int.natCast_nonneg tm
              have m3 : (tm : Int) ≤ 64 := Int.ofNat_le.2 hm64
              have m4 : (strOfNums b).size = 64 := HB.out.size
              have m5 : (strOfNums b0).size = 64 := HB0.out.size
              have m6 : (tm : Int) ≤ ((strOfNums b).size : Int) := by rw [m4]; exact m3
              have m7 : (tm : Int) ≤ ((strOfNums b0).size : Int) := by rw [m5]; exact m3
              have HT := Aside0.mk (by have h := str_tear HB0.out HB.out hm64; rw [m5] at h; exact h)
              have HTS := Aside0.mk (tear_sect HB0.out HB.out hm64)
              have HST := Aside0.mk (show stepR (kb keep) last tm (foldR (kb keep) last tm d.wr d.safe j) j ((a : Int), b) = (foldR (kb keep) last tm d.wr d.safe j).set a (tear b0 b tm) by unfold stepR; rw [if_pos HJL.out, Int.toNat_natCast, HGA.out])
              clear hm64
              go_region
              all_goals go_wp2
              rw [HT.out]
              go_roundw
              case rel => exact ⟨j + 1, rfl, by have := HJL.out; omega, Aside0.mk ((HNX.out (tear b0 b tm) HTS.out HST.out W1 HB1.out).1.below (below_drew (Below.refl _ _))), Aside0.mk ((HNX.out (tear b0 b tm) HTS.out HST.out W1 HB1.out).2.below (below_drew (Below.refl _ _)))⟩
              case measure => simp [intOf]; omega
            · have m1 : ((j : Int) == last) = false := by rw [beq_eq_false_iff_ne]; exact hjl
              have HST := Aside0.mk (show stepR (kb keep) last tm (foldR (kb keep) last tm d.wr d.safe j) j ((a : Int), b) = (foldR (kb keep) last tm d.wr d.safe j).set a b by unfold stepR; rw [if_neg hjl, if_pos ⟨by omega, HKT.out⟩, Int.toNat_natCast])
              have HLT := Aside0.mk hlt
              clear hjl hi hlt hj
              go_wp2
              have hB1 : Below wr.heap.size wr (wr.alloc (.cells #[.int .i64 (a : Int), .string (strOfNums b)] 126)) := below_alloc (Below.refl _ _) _
              have c0' := (hB1.cell (World.block_lt_of_cell? wr _ c0)).trans c0
              have k2' := (hB1.cell (World.block_lt_of_cell? wr _ k2)).trans k2
              have k3' : (wr.alloc (.cells #[.int .i64 (a : Int), .string (strOfNums b)] 126)).frozen? ⟨gs, a, none⟩ = false := by
                have hlt' := World.block_lt_of_cell? wr _ k2
                have e := hB1.block gs hlt'
                unfold World.frozen? at k3 ⊢
                simp only [e]
                exact k3
              have bx0 : (wr.alloc (.cells #[.int .i64 (a : Int), .string (strOfNums b)] 126)).cell? ⟨wr.heap.size, 0, none⟩ = some (.int .i64 (a : Int)) := (blk_cell (blk_new wr _) 0).trans rfl
              have bx1 : (wr.alloc (.cells #[.int .i64 (a : Int), .string (strOfNums b)] 126)).cell? ⟨wr.heap.size, 1, none⟩ = some (.string (strOfNums b)) := (blk_cell (blk_new wr _) 1).trans rfl
              have HB1 := Aside0.mk hB1
              generalize hW1 : wr.alloc (.cells #[.int .i64 (a : Int), .string (strOfNums b)] 126) = W1 at *
              generalize hgx : wr.heap.size = gx at *
              have HW1 := Aside0.mk hW1
              have HGX := Aside0.mk hgx
              clear hB1 c0 k0 k1 k2 k3 c2 hW1 hgx
              go_region
              all_goals go_wp2
              go_roundw
              case rel => exact ⟨j + 1, rfl, by have := HLT.out; omega, Aside0.mk ((HNX.out b HB.out HST.out W1 HB1.out).1.below (below_drew (Below.refl _ _))), Aside0.mk ((HNX.out b HB.out HST.out W1 HB1.out).2.below (below_drew (Below.refl _ _)))⟩
              case measure => simp [intOf]; omega
        · have l1 : decide ((j : Int) ≤ last) = false := decide_eq_false hlt
          have hjw : j ≤ d.wr.length := by have := HL3.out.1; omega
          have hfk : foldR (kb keep) last tm d.wr d.safe j = d.kept keep := by
            rw [HKd.out]
            obtain ⟨e, he⟩ : ∃ e, d.wr.length = j + e := ⟨d.wr.length - j, by omega⟩
            rw [he, foldR_rest _ _ _ _ _ _ (by omega)]
          rw [hfk] at HA
          have hkl : (d.kept keep).length = d.safe.length := foldR_length _ _ _ _ _ _
          have HA3 := HA.out
          have hd3 : ∃ d3 : DS, d3 = { d with safe := d.kept keep } := ⟨_, rfl⟩
          obtain ⟨d3, hd3⟩ := hd3
          rw [← hkl] at HA3
          replace HA3 : RAt wr (Nw S w) g d3 (.slice (some ⟨gs, 0, none⟩) d3.safe.length cs) (.slice (some ⟨gn, 0, none⟩) d3.now.length cn) (.slice Aw d3.wr.length cw) := by rw [hd3]; exact HA3
          have HR3 : Aside0 (d.restart keep = { safe := d3.safe, now := d3.safe, wr := [], armed := 0, down := false, falls := if d3.down = true then d3.falls else d3.falls + 1 }) := Aside0.mk (by rw [hd3]; exact HRs.out)
          have HA3 := Aside0.mk HA3
          rw [show d.safe.length = d3.safe.length from by rw [hd3]; exact hkl.symm] at c0
          rw [show d.wr = d3.wr from by rw [hd3]] at c2
          clear HA HRs HKd HTm hfk hkl hd3 HL3 HLK hlt hj hjw HOk
          go_wp2
          go_loopw [9] (fun v W => ∃ j : Nat, v = .int .i64 (j : Int) ∧ j ≤ d3.now.length ∧ Aside0 (RAt W (Nw S w) g { d3 with now := copyR d3.safe d3.now j } (.slice (some ⟨gs, 0, none⟩) d3.safe.length cs) (.slice (some ⟨gn, 0, none⟩) d3.now.length cn) (.slice Aw d3.wr.length cw)) ∧ Aside0 (Kp S w W)) (fun v _ => d3.now.length - (intOf v).toNat)
          case atStart => exact ⟨0, rfl, Nat.zero_le _, HA3, HK⟩
          case round =>
            have HOk := Aside0.mk HA3.out.1
            clear HA3 HK c0 c2
            obtain ⟨j, rfl, hj, HA, HK⟩ := hrel
            obtain ⟨lifeA, hbA⟩ := HA.out.2.2.1
            have c0 : wr.cell? ⟨g, 0, none⟩ = some (.slice (some ⟨gs, 0, none⟩) d3.safe.length cs) := (blk_cell hbA 0).trans rfl
            have c1 : wr.cell? ⟨g, 1, none⟩ = some (.slice (some ⟨gn, 0, none⟩) d3.now.length cn) := (blk_cell hbA 1).trans rfl
            have hls : d3.safe.length = d3.now.length := HOk.out.len
            have hlim : d3.now.length ≤ 4096 := HOk.out.lim
            by_cases hlt : j < d3.now.length
            · have l1 : (j : Int) < (d3.now.length : Int) := Int.ofNat_lt.2 hlt
              have l2 : (j : Int) < (d3.safe.length : Int) := by rw [hls]; exact l1
              have l3 : decide ((j : Int) < (d3.safe.length : Int)) = true := decide_eq_true l2
              have l4 : decide (j < d3.safe.length) = true := decide_eq_true (by omega)
              obtain ⟨b, hb⟩ : ∃ b, d3.safe[j]? = some b := ⟨_, List.getElem?_eq_getElem (by omega)⟩
              have hbs : Sect b := HOk.out.safe b (List.mem_of_getElem? hb)
              have hOS : Own wr (Nw S w) 9 1 (.slice (some ⟨gs, 0, none⟩) d3.safe.length cs) d3.safe.length (strs d3.safe) := HA.out.2.2.2.1
              have hcl : (copyR d3.safe d3.now j).length = d3.now.length := copyR_length hls hj
              have hON : Own wr (Nw S w) 9 1 (.slice (some ⟨gn, 0, none⟩) (copyR d3.safe d3.now j).length cn) (copyR d3.safe d3.now j).length (strs (copyR d3.safe d3.now j)) := by rw [hcl]; have h := HA.out.2.2.2.2.1; rw [show ({ d3 with now := copyR d3.safe d3.now j } : DS).now.length = d3.now.length from hcl] at h; exact h
              obtain ⟨b0, hb0⟩ : ∃ b, (copyR d3.safe d3.now j)[j]? = some b := ⟨_, List.getElem?_eq_getElem (by omega)⟩
              obtain ⟨k0, _⟩ := hOS.cellsAt j _ (strs_get hb)
              obtain ⟨k1, k2⟩ := hON.cellsAt j _ (strs_get hb0)
              have HNext : RAt (wr.setCell ⟨gn, j, none⟩ (sstr b)) (Nw S w) g { d3 with now := copyR d3.safe d3.now (j + 1) } (.slice (some ⟨gs, 0, none⟩) d3.safe.length cs) (.slice (some ⟨gn, 0, none⟩) d3.now.length cn) (.slice Aw d3.wr.length cw) ∧ Kp S w (wr.setCell ⟨gn, j, none⟩ (sstr b)) := by
                have h := HA.out
                rw [show Value.slice (some ⟨gn, 0, none⟩) d3.now.length cn = Value.slice (some ⟨gn, 0, none⟩) ({ d3 with now := copyR d3.safe d3.now j } : DS).now.length cn from by rw [show ({ d3 with now := copyR d3.safe d3.now j } : DS).now.length = d3.now.length from hcl]] at h
                have h2 := h.now (i := j) (b := b) (by rw [show ({ d3 with now := copyR d3.safe d3.now j } : DS).now.length = d3.now.length from hcl]; exact hlt) hbs
                rw [show ({ d3 with now := copyR d3.safe d3.now j } : DS).now.length = d3.now.length from hcl] at h2
                rw [← copyR_set hls hb hlt]
                exact ⟨h2, HK.out.setCell (p := ⟨gn, j, none⟩) (hON.2 gn rfl) _⟩
              have HNX := Aside0.mk HNext
              unfold sstr at k0 k1
              clear hb hbs hOS hcl hON hb0 HNext hbA hls HOk
              go_wp2
              go_region
              all_goals go_wp2
              go_roundw
              case rel => exact ⟨j + 1, rfl, hlt, Aside0.mk (HNX.out.1.below (below_drew (Below.refl _ _))), Aside0.mk (HNX.out.2.below (below_drew (Below.refl _ _)))⟩
              case measure => simp [intOf]; omega
            · have l3 : decide ((j : Int) < (d3.safe.length : Int)) = false := decide_eq_false (by omega)
              have l4 : decide (j < d3.safe.length) = false := decide_eq_false (by omega)
              have c2 : wr.cell? ⟨g, 2, none⟩ = some (.slice Aw d3.wr.length cw) := (blk_cell hbA 2).trans rfl
              have c3 : wr.cell? ⟨g, 3, none⟩ = some (.bool (!d3.down)) := (blk_cell hbA 3).trans rfl
              have c4 : wr.cell? ⟨g, 4, none⟩ = some (.int .i64 d3.armed) := (blk_cell hbA 4).trans rfl
              have f2 := blk_frozen hbA 2
              have f3 := blk_frozen hbA 3
              have f4 := blk_frozen hbA 4
              have hfin : copyR d3.safe d3.now j = d3.safe := copyR_all hls (by omega)
              have HF := Aside0.mk (HA.out.finish (if d3.down = true then d3.falls else d3.falls + 1) (by have := HOk.out.falls0; split <;> omega))
              rw [hfin] at HF
              have HKF := Aside0.mk (show Kp S w (((wr.setCell ⟨g, 2, none⟩ (.slice none 0 0)).setCell ⟨g, 4, none⟩ (.int .i64 0)).setCell ⟨g, 3, none⟩ (.bool true)) from ((HK.out.setCell (p := ⟨g, 2, none⟩) HA.out.2.1 _).setCell (p := ⟨g, 4, none⟩) HA.out.2.1 _).setCell (p := ⟨g, 3, none⟩) HA.out.2.1 _)
              clear hbA hfin hls
              go_wp2
              go_end0
              exact ⟨rfl, _, _, _, by rw [HR3.out]; exact HF.out, HKF.out⟩
set_option maxHeartbeats 16000000 in
set_option maxRecDepth 100000 in
theorem rrestart_false1 (w : World) (S : Nat → Prop) (g : Nat) (d : DS) (vs vn vw : Value) (keep : ByteArray) (h0 : RAt w S g d vs vn vw) (hl : d.wr.length ≤ 1000000) (hd : d.down = false) (hsz : keep.size < d.wr.length) :
    Calls Try.prog 41 #[.pointer (some ⟨g, 0, none⟩), .string keep] w (RRs w S g d keep) := by
  obtain ⟨Aw, cw, hvw⟩ := h0.2.2.2.2.2.1.slice
  subst hvw
  obtain ⟨gs, cs, curs, hvs, _⟩ := h0.2.2.2.1.form (by have := h0.1.pos; have := h0.1.len; omega)
  subst hvs
  obtain ⟨gn, cn, curn, hvn, _⟩ := h0.2.2.2.2.1.form h0.1.pos
  subst hvn
  have H := Aside0.mk h0
  have HOk := Aside0.mk h0.1
  obtain ⟨life, hb⟩ := h0.2.2.1
  have c3 : w.cell? ⟨g, 3, none⟩ = some (.bool (!d.down)) := (blk_cell hb 3).trans rfl
  have c5 : w.cell? ⟨g, 5, none⟩ = some (.int .i64 life) := (blk_cell hb 5).trans rfl
  have f5 := blk_frozen hb 5
  clear h0 hb
  rw [hd] at c3
  have HA' := Aside0.mk (fun x => H.out.lifeSet x)
  have HK' := Aside0.mk (fun x : Int => (Kp.refl S w).setCell (p := ⟨g, 5, none⟩) (.inl H.out.2.1) (.int .i64 x))
  clear H
  go_enter Try.func41, Try.ntmps41
  go_wp2
  have HA := Aside0.mk (HA'.out (wrap64 (life + 1)))
  have HK := Aside0.mk (HK'.out (wrap64 (life + 1)))
  clear HA' HK' c3 c5 f5
  go_loopw [4, 5] (fun v4 v5 W => ∃ j : Nat, v4 = .int .i64 (lastF (kb keep) j) ∧ v5 = .int .i64 (j : Int) ∧ j ≤ d.wr.length ∧ j ≤ keep.size ∧ Aside0 (RAt W S g d (.slice (some ⟨gs, 0, none⟩) d.safe.length cs) (.slice (some ⟨gn, 0, none⟩) d.now.length cn) (.slice Aw d.wr.length cw)) ∧ Aside0 (Kp S w W)) (fun _ v _ => d.wr.length - (intOf v).toNat)
  case atStart => exact ⟨0, rfl, rfl, Nat.zero_le _, Nat.zero_le _, HA, HK⟩
  case round =>
    obtain ⟨j, rfl, rfl, hj, hjk, HA, HK⟩ := hrel
    obtain ⟨lifeA, hbA⟩ := HA.out.2.2.1
    have c2 : wr.cell? ⟨g, 2, none⟩ = some (.slice Aw d.wr.length cw) := (blk_cell hbA 2).trans rfl
    clear hbA
    have hcont : (∃ j1 : Nat, .int .i64 (lastF (kb keep) (j + 1)) = Value.int .i64 (lastF (kb keep) j1) ∧ Value.int .i64 ((j : Int) + 1) = .int .i64 (j1 : Int) ∧ j1 ≤ d.wr.length) ∨ ¬ j < d.wr.length := by
      by_cases h : j < d.wr.length
      · exact .inl ⟨j + 1, rfl, rfl, h⟩
      · exact .inr h
    have HC := Aside0.mk hcont
    clear hcont
    by_cases hlt : j < d.wr.length
    · have l1 : decide ((j : Int) < (d.wr.length : Int)) = true := decide_eq_true (by omega)
      have l2 : decide (j < d.wr.length) = true := decide_eq_true hlt
      by_cases hks : j < keep.size
      · have l3 : decide ((j : Int) < (keep.size : Int)) = true := decide_eq_true (by omega)
        have l4 : decide (j < keep.size) = true := decide_eq_true hks
        have l5 : (j : Int) < (keep.size : Int) := by omega
        have hkb := kb_eq hks
        cases hk : (((keep[j]'hks).toNat : Int) != 0) with
        | true =>
          have HL := Aside0.mk (show lastF (kb keep) (j + 1) = (j : Int) by rw [lastF, if_pos (by rw [hkb, hk])])
          clear hkb
          go_wp2
          refine ⟨⟨j + 1, by rw [HL.out], rfl, hlt, hks, HA, HK⟩, ?_⟩
          simp [intOf]
          omega
        | false =>
          have HL := Aside0.mk (show lastF (kb keep) (j + 1) = lastF (kb keep) j by rw [lastF, if_neg (by rw [hkb, hk]; simp)])
          clear hkb
          go_wp2
          refine ⟨⟨j + 1, by rw [HL.out], rfl, hlt, hks, HA, HK⟩, ?_⟩
          simp [intOf]
          omega
      · skip
        have l3 : decide ((j : Int) < (keep.size : Int)) = false := decide_eq_false (by omega)
        have l4 : decide (j < keep.size) = false := decide_eq_false hks
        have HLast := Aside0.mk (show lastF (kb keep) j = d.last keep by unfold DS.last; obtain ⟨e, he⟩ : ∃ e, d.wr.length = j + e := ⟨d.wr.length - j, by omega⟩; rw [he, lastF_ext (kb keep) j (fun i hi => kb_out (by omega))])
        go_wp2
        rw [HLast.out]
        have hl3 := (lastF_lt (kb keep) d.wr.length)
        have hlk : ∀ i : Nat, d.last keep = (i : Int) → i < keep.size ∧ kb keep i = true := fun i hi => by
          have h := lastF_kept (kb keep) d.wr.length i hi
          refine ⟨?_, h⟩
          rcases Nat.lt_or_ge i keep.size with h1 | h1
          · exact h1
          · rw [kb_out h1] at h; cases h
        have HLK := Aside0.mk hlk
        have HL3 : Aside0 (d.last keep < d.wr.length ∧ -1 ≤ d.last keep) := Aside0.mk hl3
        have HTm := Aside0.mk (show tornN keep (d.last keep) = tornN keep (d.last keep) from rfl)
        have HKd := Aside0.mk (show d.kept keep = foldR (kb keep) (d.last keep) (tornN keep (d.last keep)) d.wr d.safe d.wr.length from rfl)
        have HRs := Aside0.mk (show d.restart keep = { safe := d.kept keep, now := d.kept keep, wr := [], armed := 0, down := false, falls := if d.down = true then d.falls else d.falls + 1 } from rfl)
        clear hl3 hlk HLast
        generalize d.last keep = last at *
        generalize htm : tornN keep last = tm at HTm HKd
        rw [← htm] at HTm
        replace HTm := Aside0.mk htm
        clear htm
        go_loopw [6] (fun v W => ∃ j : Nat, v = .int .i64 (j : Int) ∧ (j : Int) ≤ last + 1 ∧ Aside0 (RAt W (Nw S w) g { d with safe := foldR (kb keep) last tm d.wr d.safe j } (.slice (some ⟨gs, 0, none⟩) d.safe.length cs) (.slice (some ⟨gn, 0, none⟩) d.now.length cn) (.slice Aw d.wr.length cw)) ∧ Aside0 (Kp S w W)) (fun v _ => d.wr.length - (intOf v).toNat)
        case atStart => exact ⟨0, rfl, by have := HL3.out.2; omega, Aside0.mk (HA.out.mono fun k hk => .inl hk), HK⟩
        case round =>
          clear HC HA HK c2
          obtain ⟨j, rfl, hj, HA, HK⟩ := hrel
          obtain ⟨lifeA, hbA⟩ := HA.out.2.2.1
          have c0 : wr.cell? ⟨g, 0, none⟩ = some (.slice (some ⟨gs, 0, none⟩) d.safe.length cs) := (blk_cell hbA 0).trans rfl
          have c2 : wr.cell? ⟨g, 2, none⟩ = some (.slice Aw d.wr.length cw) := (blk_cell hbA 2).trans rfl
          clear hbA
          by_cases hlt : (j : Int) ≤ last
          · have l1 : decide ((j : Int) ≤ last) = true := decide_eq_true hlt
            obtain ⟨i, hi⟩ := Int.eq_ofNat_of_zero_le (show 0 ≤ last by omega)
            have hks : j < keep.size := by have := (HLK.out i hi).1; omega
            have hjw : j < d.wr.length := by have := HL3.out.1; omega
            have l3 : (j : Int) < (keep.size : Int) := by omega
            have hkb := kb_eq hks
            cases hk : (((keep[j]'hks).toNat : Int) == 0) with
            | true =>
              have hkf : kb keep j = false := by rw [hkb, bne, hk]; rfl
              have hjl : (j : Int) ≠ last := fun e => by have := (HLK.out j e.symm).2; rw [hkf] at this; cases this
              have HNx := Aside0.mk (show foldR (kb keep) last tm d.wr d.safe (j + 1) = foldR (kb keep) last tm d.wr d.safe j by rw [foldR]; unfold stepR; rw [if_neg hjl, if_neg (fun h => by rw [hkf] at h; cases h.2)])
              clear hkb hkf
              go_wp2
              refine ⟨⟨j + 1, rfl, by omega, by rw [HNx.out]; exact HA, HK⟩, ?_⟩
              simp [intOf]
              omega
            | false =>
              have hkt : kb keep j = true := by rw [hkb, bne, hk]; rfl
              have hOW : Own wr (Nw S w) 126 2 (.slice Aw d.wr.length cw) d.wr.length (wstrs d.wr) := HA.out.2.2.2.2.2.1
              obtain ⟨gw, cw', curw, hvw, _⟩ := hOW.form (by omega)
              injection hvw with hvw _ hcw
              subst hvw
              subst hcw
              obtain ⟨a, b, hab, han, hbs⟩ := HOk.out.nth hjw
              have hget : d.wr[j]? = some ((a : Int), b) := by rw [List.getElem?_eq_getElem hjw, hab]
              have hwg := wstrs_get d.wr j _ hget
              obtain ⟨k0, _⟩ := hOW.cellsAt (j * 2) _ hwg.1
              obtain ⟨k1, _⟩ := hOW.cellsAt (j * 2 + 1) _ hwg.2
              have has : a < d.safe.length := by rw [HOk.out.len]; exact han
              have hsl : (foldR (kb keep) last tm d.wr d.safe j).length = d.safe.length := foldR_length _ _ _ _ _ _
              obtain ⟨b0, hsg⟩ : ∃ b0, (foldR (kb keep) last tm d.wr d.safe j)[a]? = some b0 := ⟨_, List.getElem?_eq_getElem (by rw [hsl]; exact has)⟩
              have hb0 : Sect b0 := HA.out.1.safe b0 (List.mem_of_getElem? hsg)
              have hOwnS : Own wr (Nw S w) 9 1 (.slice (some ⟨gs, 0, none⟩) (foldR (kb keep) last tm d.wr d.safe j).length cs) (foldR (kb keep) last tm d.wr d.safe j).length (strs (foldR (kb keep) last tm d.wr d.safe j)) := by rw [hsl]; have h := HA.out.2.2.2.1; rw [show ({ d with safe := foldR (kb keep) last tm d.wr d.safe j } : DS).safe.length = d.safe.length from hsl] at h; exact h
              obtain ⟨k2, k3⟩ := hOwnS.cellsAt a _ (strs_get hsg)
              have hgd : d.wr.getD j (0, []) = ((a : Int), b) := by rw [List.getD_eq_getElem?_getD, hget]; rfl
              have HNext : ∀ b2, Sect b2 → stepR (kb keep) last tm (foldR (kb keep) last tm d.wr d.safe j) j ((a : Int), b) = (foldR (kb keep) last tm d.wr d.safe j).set a b2 → ∀ W', Below wr.heap.size wr W' → RAt (W'.setCell ⟨gs, a, none⟩ (sstr b2)) (Nw S w) g { d with safe := foldR (kb keep) last tm d.wr d.safe (j + 1) } (.slice (some ⟨gs, 0, none⟩) d.safe.length cs) (.slice (some ⟨gn, 0, none⟩) d.now.length cn) (.slice (some ⟨gw, 0, none⟩) d.wr.length cw) ∧ Kp S w (W'.setCell ⟨gs, a, none⟩ (sstr b2)) := by
                intro b2 hb2 hst W' hW'
                have h := HA.out.below hW'
                rw [show Value.slice (some ⟨gs, 0, none⟩) d.safe.length cs = Value.slice (some ⟨gs, 0, none⟩) ({ d with safe := foldR (kb keep) last tm d.wr d.safe j } : DS).safe.length cs from by rw [show ({ d with safe := foldR (kb keep) last tm d.wr d.safe j } : DS).safe.length = d.safe.length from hsl]] at h
                have h2 := h.safe (i := a) (b := b2) (by rw [show ({ d with safe := foldR (kb keep) last tm d.wr d.safe j } : DS).safe.length = d.safe.length from hsl]; exact has) hb2
                rw [show ({ d with safe := foldR (kb keep) last tm d.wr d.safe j } : DS).safe.length = d.safe.length from hsl] at h2
                rw [foldR, hgd, hst]
                exact ⟨h2, (HK.out.below hW').setCell (p := ⟨gs, a, none⟩) (hOwnS.2 gs rfl) _⟩
              have HNX := Aside0.mk HNext
              have l2 : (j : Int) < (d.wr.length : Int) := by omega
              have l4 : (a : Int) < (d.safe.length : Int) := by omega
              have HB := Aside0.mk hbs
              have HB0 := Aside0.mk hb0
              have HGA := Aside0.mk (show (foldR (kb keep) last tm d.wr d.safe j).getD a [] = b0 by rw [List.getD_eq_getElem?_getD, hsg]; rfl)
              have HKT := Aside0.mk hkt
              unfold sstr at k1 k2
              clear hab hget hwg hsg hOwnS hbs hOW HNext hb0 hgd hsl hkb hkt
              by_cases hjl : (j : Int) = last
              · have m1 : ((j : Int) == last) = true := by rw [beq_iff_eq]; exact hjl
                have HJL := Aside0.mk hjl
                clear hjl hi hlt hj
                go_wp2
                have hB1 : Below wr.heap.size wr (wr.alloc (.cells #[.int .i64 (a : Int), .string (strOfNums b)] 126)) := below_alloc (Below.refl _ _) _
                have c0' := (hB1.cell (World.block_lt_of_cell? wr _ c0)).trans c0
                have k2' := (hB1.cell (World.block_lt_of_cell? wr _ k2)).trans k2
                have k3' : (wr.alloc (.cells #[.int .i64 (a : Int), .string (strOfNums b)] 126)).frozen? ⟨gs, a, none⟩ = false := by
                  have hlt' := World.block_lt_of_cell? wr _ k2
                  have e := hB1.block gs hlt'
                  unfold World.frozen? at k3 ⊢
                  simp only [e]
                  exact k3
                have bx0 : (wr.alloc (.cells #[.int .i64 (a : Int), .string (strOfNums b)] 126)).cell? ⟨wr.heap.size, 0, none⟩ = some (.int .i64 (a : Int)) := (blk_cell (blk_new wr _) 0).trans rfl
                have bx1 : (wr.alloc (.cells #[.int .i64 (a : Int), .string (strOfNums b)] 126)).cell? ⟨wr.heap.size, 1, none⟩ = some (.string (strOfNums b)) := (blk_cell (blk_new wr _) 1).trans rfl
                have HB1 := Aside0.mk hB1
                generalize hW1 : wr.alloc (.cells #[.int .i64 (a : Int), .string (strOfNums b)] 126) = W1 at *
                generalize hgx : wr.heap.size = gx at *
                have HW1 := Aside0.mk hW1
                have HGX := Aside0.mk hgx
                clear hB1 c0 k0 k1 k2 k3 c2 hW1 hgx
                have hm64 : tm ≤ 64 := by rw [← HTm.out]; exact tornN_le _ _
                have hmn := torn_eq hks
                rw [HJL.out, HTm.out] at hmn
                have m2 : 0 ≤ (tm : Int) := Int.natCast_nonneg tm
                have m3 : (tm : Int) ≤ 64 := Int.ofNat_le.2 hm64
                have m4 : (strOfNums b).size = 64 := HB.out.size
                have m5 : (strOfNums b0).size = 64 := HB0.out.size
                have m6 : (tm : Int) ≤ ((strOfNums b).size : Int) := by rw [m4]; exact m3
                have m7 : (tm : Int) ≤ ((strOfNums b0).size : Int) := by rw [m5]; exact m3
                have HT := Aside0.mk (by have h := str_tear HB0.out HB.out hm64; rw [m5] at h; exact h)
                have HTS := Aside0.mk (tear_sect HB0.out HB.out hm64)
                have HST := Aside0.mk (show stepR (kb keep) last tm (foldR (kb keep) last tm d.wr d.safe j) j ((a : Int), b) = (foldR (kb keep) last tm d.wr d.safe j).set a (tear b0 b tm) by unfold stepR; rw [if_pos HJL.out, Int.toNat_natCast, HGA.out])
                clear hm64
                go_region
                all_goals go_wp2
                rw [HT.out]
                go_roundw
                case rel => exact ⟨j + 1, rfl, by have := HJL.out; omega, Aside0.mk ((HNX.out (tear b0 b tm) HTS.out HST.out W1 HB1.out).1.below (below_drew (Below.refl _ _))), Aside0.mk ((HNX.out (tear b0 b tm) HTS.out HST.out W1 HB1.out).2.below (below_drew (Below.refl _ _)))⟩
                case measure => simp [intOf]; omega
              · have m1 : ((j : Int) == last) = false := by rw [beq_eq_false_iff_ne]; exact hjl
                have HST := Aside0.mk (show stepR (kb keep) last tm (foldR (kb keep) last tm d.wr d.safe j) j ((a : Int), b) = (foldR (kb keep) last tm d.wr d.safe j).set a b by unfold stepR; rw [if_neg hjl, if_pos ⟨by omega, HKT.out⟩, Int.toNat_natCast])
                have HLT := Aside0.mk hlt
                clear hjl hi hlt hj
                go_wp2
                have hB1 : Below wr.heap.size wr (wr.alloc (.cells #[.int .i64 (a : Int), .string (strOfNums b)] 126)) := below_alloc (Below.refl _ _) _
                have c0' := (hB1.cell (World.block_lt_of_cell? wr _ c0)).trans c0
                have k2' := (hB1.cell (World.block_lt_of_cell? wr _ k2)).trans k2
                have k3' : (wr.alloc (.cells #[.int .i64 (a : Int), .string (strOfNums b)] 126)).frozen? ⟨gs, a, none⟩ = false := by
                  have hlt' := World.block_lt_of_cell? wr _ k2
                  have e := hB1.block gs hlt'
                  unfold World.frozen? at k3 ⊢
                  simp only [e]
                  exact k3
                have bx0 : (wr.alloc (.cells #[.int .i64 (a : Int), .string (strOfNums b)] 126)).cell? ⟨wr.heap.size, 0, none⟩ = some (.int .i64 (a : Int)) := (blk_cell (blk_new wr _) 0).trans rfl
                have bx1 : (wr.alloc (.cells #[.int .i64 (a : Int), .string (strOfNums b)] 126)).cell? ⟨wr.heap.size, 1, none⟩ = some (.string (strOfNums b)) := (blk_cell (blk_new wr _) 1).trans rfl
                have HB1 := Aside0.mk hB1
                generalize hW1 : wr.alloc (.cells #[.int .i64 (a : Int), .string (strOfNums b)] 126) = W1 at *
                generalize hgx : wr.heap.size = gx at *
                have HW1 := Aside0.mk hW1
                have HGX := Aside0.mk hgx
                clear hB1 c0 k0 k1 k2 k3 c2 hW1 hgx
                go_region
                all_goals go_wp2
                go_roundw
                case rel => exact ⟨j + 1, rfl, by have := HLT.out; omega, Aside0.mk ((HNX.out b HB.out HST.out W1 HB1.out).1.below (below_drew (Below.refl _ _))), Aside0.mk ((HNX.out b HB.out HST.out W1 HB1.out).2.below (below_drew (Below.refl _ _)))⟩
                case measure => simp [intOf]; omega
          · have l1 : decide ((j : Int) ≤ last) = false := decide_eq_false hlt
            have hjw : j ≤ d.wr.length := by have := HL3.out.1; omega
            have hfk : foldR (kb keep) last tm d.wr d.safe j = d.kept keep := by
              rw [HKd.out]
              obtain ⟨e, he⟩ : ∃ e, d.wr.length = j + e := ⟨d.wr.length - j, by omega⟩
              rw [he, foldR_rest _ _ _ _ _ _ (by omega)]
            rw [hfk] at HA
            have hkl : (d.kept keep).length = d.safe.length := foldR_length _ _ _ _ _ _
            have HA3 := HA.out
            have hd3 : ∃ d3 : DS, d3 = { d with safe := d.kept keep } := ⟨_, rfl⟩
            obtain ⟨d3, hd3⟩ := hd3
            rw [← hkl] at HA3
            replace HA3 : RAt wr (Nw S w) g d3 (.slice (some ⟨gs, 0, none⟩) d3.safe.length cs) (.slice (some ⟨gn, 0, none⟩) d3.now.length cn) (.slice Aw d3.wr.length cw) := by rw [hd3]; exact HA3
            have HR3 : Aside0 (d.restart keep = { safe := d3.safe, now := d3.safe, wr := [], armed := 0, down := false, falls := if d3.down = true then d3.falls else d3.falls + 1 }) := Aside0.mk (by rw [hd3]; exact HRs.out)
            have HA3 := Aside0.mk HA3
            rw [show d.safe.length = d3.safe.length from by rw [hd3]; exact hkl.symm] at c0
            rw [show d.wr = d3.wr from by rw [hd3]] at c2
            clear HA HRs HKd HTm hfk hkl hd3 HL3 HLK hlt hj hjw HOk
            go_wp2
            go_loopw [9] (fun v W => ∃ j : Nat, v = .int .i64 (j : Int) ∧ j ≤ d3.now.length ∧ Aside0 (RAt W (Nw S w) g { d3 with now := copyR d3.safe d3.now j } (.slice (some ⟨gs, 0, none⟩) d3.safe.length cs) (.slice (some ⟨gn, 0, none⟩) d3.now.length cn) (.slice Aw d3.wr.length cw)) ∧ Aside0 (Kp S w W)) (fun v _ => d3.now.length - (intOf v).toNat)
            case atStart => exact ⟨0, rfl, Nat.zero_le _, HA3, HK⟩
            case round =>
              have HOk := Aside0.mk HA3.out.1
              clear HA3 HK c0 c2
              obtain ⟨j, rfl, hj, HA, HK⟩ := hrel
              obtain ⟨lifeA, hbA⟩ := HA.out.2.2.1
              have c0 : wr.cell? ⟨g, 0, none⟩ = some (.slice (some ⟨gs, 0, none⟩) d3.safe.length cs) := (blk_cell hbA 0).trans rfl
              have c1 : wr.cell? ⟨g, 1, none⟩ = some (.slice (some ⟨gn, 0, none⟩) d3.now.length cn) := (blk_cell hbA 1).trans rfl
              have hls : d3.safe.length = d3.now.length := HOk.out.len
              have hlim : d3.now.length ≤ 4096 := HOk.out.lim
              by_cases hlt : j < d3.now.length
              · have l1 : (j : Int) < (d3.now.length : Int) := Int.ofNat_lt.2 hlt
                have l2 : (j : Int) < (d3.safe.length : Int) := by rw [hls]; exact l1
                have l3 : decide ((j : Int) < (d3.safe.length : Int)) = true := decide_eq_true l2
                have l4 : decide (j < d3.safe.length) = true := decide_eq_true (by omega)
                obtain ⟨b, hb⟩ : ∃ b, d3.safe[j]? = some b := ⟨_, List.getElem?_eq_getElem (by omega)⟩
                have hbs : Sect b := HOk.out.safe b (List.mem_of_getElem? hb)
                have hOS : Own wr (Nw S w) 9 1 (.slice (some ⟨gs, 0, none⟩) d3.safe.length cs) d3.safe.length (strs d3.safe) := HA.out.2.2.2.1
                have hcl : (copyR d3.safe d3.now j).length = d3.now.length := copyR_length hls hj
                have hON : Own wr (Nw S w) 9 1 (.slice (some ⟨gn, 0, none⟩) (copyR d3.safe d3.now j).length cn) (copyR d3.safe d3.now j).length (strs (copyR d3.safe d3.now j)) := by rw [hcl]; have h := HA.out.2.2.2.2.1; rw [show ({ d3 with now := copyR d3.safe d3.now j } : DS).now.length = d3.now.length from hcl] at h; exact h
                obtain ⟨b0, hb0⟩ : ∃ b, (copyR d3.safe d3.now j)[j]? = some b := ⟨_, List.getElem?_eq_getElem (by omega)⟩
                obtain ⟨k0, _⟩ := hOS.cellsAt j _ (strs_get hb)
                obtain ⟨k1, k2⟩ := hON.cellsAt j _ (strs_get hb0)
                have HNext : RAt (wr.setCell ⟨gn, j, none⟩ (sstr b)) (Nw S w) g { d3 with now := copyR d3.safe d3.now (j + 1) } (.slice (some ⟨gs, 0, none⟩) d3.safe.length cs) (.slice (some ⟨gn, 0, none⟩) d3.now.length cn) (.slice Aw d3.wr.length cw) ∧ Kp S w (wr.setCell ⟨gn, j, none⟩ (sstr b)) := by
                  have h := HA.out
                  rw [show Value.slice (some ⟨gn, 0, none⟩) d3.now.length cn = Value.slice (some ⟨gn, 0, none⟩) ({ d3 with now := copyR d3.safe d3.now j } : DS).now.length cn from by rw [show ({ d3 with now := copyR d3.safe d3.now j } : DS).now.length = d3.now.length from hcl]] at h
                  have h2 := h.now (i := j) (b := b) (by rw [show ({ d3 with now := copyR d3.safe d3.now j } : DS).now.length = d3.now.length from hcl]; exact hlt) hbs
                  rw [show ({ d3 with now := copyR d3.safe d3.now j } : DS).now.length = d3.now.length from hcl] at h2
                  rw [← copyR_set hls hb hlt]
                  exact ⟨h2, HK.out.setCell (p := ⟨gn, j, none⟩) (hON.2 gn rfl) _⟩
                have HNX := Aside0.mk HNext
                unfold sstr at k0 k1
                clear hb hbs hOS hcl hON hb0 HNext hbA hls HOk
                go_wp2
                go_region
                all_goals go_wp2
                go_roundw
                case rel => exact ⟨j + 1, rfl, hlt, Aside0.mk (HNX.out.1.below (below_drew (Below.refl _ _))), Aside0.mk (HNX.out.2.below (below_drew (Below.refl _ _)))⟩
                case measure => simp [intOf]; omega
              · have l3 : decide ((j : Int) < (d3.safe.length : Int)) = false := decide_eq_false (by omega)
                have l4 : decide (j < d3.safe.length) = false := decide_eq_false (by omega)
                have c2 : wr.cell? ⟨g, 2, none⟩ = some (.slice Aw d3.wr.length cw) := (blk_cell hbA 2).trans rfl
                have c3 : wr.cell? ⟨g, 3, none⟩ = some (.bool (!d3.down)) := (blk_cell hbA 3).trans rfl
                have c4 : wr.cell? ⟨g, 4, none⟩ = some (.int .i64 d3.armed) := (blk_cell hbA 4).trans rfl
                have f2 := blk_frozen hbA 2
                have f3 := blk_frozen hbA 3
                have f4 := blk_frozen hbA 4
                have hfin : copyR d3.safe d3.now j = d3.safe := copyR_all hls (by omega)
                have HF := Aside0.mk (HA.out.finish (if d3.down = true then d3.falls else d3.falls + 1) (by have := HOk.out.falls0; split <;> omega))
                rw [hfin] at HF
                have HKF := Aside0.mk (show Kp S w (((wr.setCell ⟨g, 2, none⟩ (.slice none 0 0)).setCell ⟨g, 4, none⟩ (.int .i64 0)).setCell ⟨g, 3, none⟩ (.bool true)) from ((HK.out.setCell (p := ⟨g, 2, none⟩) HA.out.2.1 _).setCell (p := ⟨g, 4, none⟩) HA.out.2.1 _).setCell (p := ⟨g, 3, none⟩) HA.out.2.1 _)
                clear hbA hfin hls
                go_wp2
                go_end0
                exact ⟨rfl, _, _, _, by rw [HR3.out]; exact HF.out, HKF.out⟩
    · exact absurd hsz (by omega)
set_option maxHeartbeats 16000000 in
set_option maxRecDepth 100000 in
theorem rrestart_false2 (w : World) (S : Nat → Prop) (g : Nat) (d : DS) (vs vn vw : Value) (keep : ByteArray) (h0 : RAt w S g d vs vn vw) (hl : d.wr.length ≤ 1000000) (hd : d.down = false) (hsz : d.wr.length ≤ keep.size) :
    Calls Try.prog 41 #[.pointer (some ⟨g, 0, none⟩), .string keep] w (RRs w S g d keep) := by
  obtain ⟨Aw, cw, hvw⟩ := h0.2.2.2.2.2.1.slice
  subst hvw
  obtain ⟨gs, cs, curs, hvs, _⟩ := h0.2.2.2.1.form (by have := h0.1.pos; have := h0.1.len; omega)
  subst hvs
  obtain ⟨gn, cn, curn, hvn, _⟩ := h0.2.2.2.2.1.form h0.1.pos
  subst hvn
  have H := Aside0.mk h0
  have HOk := Aside0.mk h0.1
  obtain ⟨life, hb⟩ := h0.2.2.1
  have c3 : w.cell? ⟨g, 3, none⟩ = some (.bool (!d.down)) := (blk_cell hb 3).trans rfl
  have c5 : w.cell? ⟨g, 5, none⟩ = some (.int .i64 life) := (blk_cell hb 5).trans rfl
  have f5 := blk_frozen hb 5
  clear h0 hb
  rw [hd] at c3
  have HA' := Aside0.mk (fun x => H.out.lifeSet x)
  have HK' := Aside0.mk (fun x : Int => (Kp.refl S w).setCell (p := ⟨g, 5, none⟩) (.inl H.out.2.1) (.int .i64 x))
  clear H
  go_enter Try.func41, Try.ntmps41
  go_wp2
  have HA := Aside0.mk (HA'.out (wrap64 (life + 1)))
  have HK := Aside0.mk (HK'.out (wrap64 (life + 1)))
  clear HA' HK' c3 c5 f5
  go_loopw [4, 5] (fun v4 v5 W => ∃ j : Nat, v4 = .int .i64 (lastF (kb keep) j) ∧ v5 = .int .i64 (j : Int) ∧ j ≤ d.wr.length ∧ j ≤ keep.size ∧ Aside0 (RAt W S g d (.slice (some ⟨gs, 0, none⟩) d.safe.length cs) (.slice (some ⟨gn, 0, none⟩) d.now.length cn) (.slice Aw d.wr.length cw)) ∧ Aside0 (Kp S w W)) (fun _ v _ => d.wr.length - (intOf v).toNat)
  case atStart => exact ⟨0, rfl, rfl, Nat.zero_le _, Nat.zero_le _, HA, HK⟩
  case round =>
    obtain ⟨j, rfl, rfl, hj, hjk, HA, HK⟩ := hrel
    obtain ⟨lifeA, hbA⟩ := HA.out.2.2.1
    have c2 : wr.cell? ⟨g, 2, none⟩ = some (.slice Aw d.wr.length cw) := (blk_cell hbA 2).trans rfl
    clear hbA
    have hcont : (∃ j1 : Nat, .int .i64 (lastF (kb keep) (j + 1)) = Value.int .i64 (lastF (kb keep) j1) ∧ Value.int .i64 ((j : Int) + 1) = .int .i64 (j1 : Int) ∧ j1 ≤ d.wr.length) ∨ ¬ j < d.wr.length := by
      by_cases h : j < d.wr.length
      · exact .inl ⟨j + 1, rfl, rfl, h⟩
      · exact .inr h
    have HC := Aside0.mk hcont
    clear hcont
    by_cases hlt : j < d.wr.length
    · have l1 : decide ((j : Int) < (d.wr.length : Int)) = true := decide_eq_true (by omega)
      have l2 : decide (j < d.wr.length) = true := decide_eq_true hlt
      by_cases hks : j < keep.size
      · have l3 : decide ((j : Int) < (keep.size : Int)) = true := decide_eq_true (by omega)
        have l4 : decide (j < keep.size) = true := decide_eq_true hks
        have l5 : (j : Int) < (keep.size : Int) := by omega
        have hkb := kb_eq hks
        cases hk : (((keep[j]'hks).toNat : Int) != 0) with
        | true =>
          have HL := Aside0.mk (show lastF (kb keep) (j + 1) = (j : Int) by rw [lastF, if_pos (by rw [hkb, hk])])
          clear hkb
          go_wp2
          refine ⟨⟨j + 1, by rw [HL.out], rfl, hlt, hks, HA, HK⟩, ?_⟩
          simp [intOf]
          omega
        | false =>
          have HL := Aside0.mk (show lastF (kb keep) (j + 1) = lastF (kb keep) j by rw [lastF, if_neg (by rw [hkb, hk]; simp)])
          clear hkb
          go_wp2
          refine ⟨⟨j + 1, by rw [HL.out], rfl, hlt, hks, HA, HK⟩, ?_⟩
          simp [intOf]
          omega
      · exact absurd hsz (by omega)
    · skip
      have l1 : decide ((j : Int) < (d.wr.length : Int)) = false := decide_eq_false (by omega)
      have l2 : decide (j < d.wr.length) = false := decide_eq_false hlt
      have HLast := Aside0.mk (show lastF (kb keep) j = d.last keep by unfold DS.last; rw [show j = d.wr.length by omega])
      go_wp2
      rw [HLast.out]
      have hl3 := (lastF_lt (kb keep) d.wr.length)
      have hlk : ∀ i : Nat, d.last keep = (i : Int) → i < keep.size ∧ kb keep i = true := fun i hi => by
        have h := lastF_kept (kb keep) d.wr.length i hi
        refine ⟨?_, h⟩
        rcases Nat.lt_or_ge i keep.size with h1 | h1
        · exact h1
        · rw [kb_out h1] at h; cases h
      have HLK := Aside0.mk hlk
      have HL3 : Aside0 (d.last keep < d.wr.length ∧ -1 ≤ d.last keep) := Aside0.mk hl3
      have HTm := Aside0.mk (show tornN keep (d.last keep) = tornN keep (d.last keep) from rfl)
      have HKd := Aside0.mk (show d.kept keep = foldR (kb keep) (d.last keep) (tornN keep (d.last keep)) d.wr d.safe d.wr.length from rfl)
      have HRs := Aside0.mk (show d.restart keep = { safe := d.kept keep, now := d.kept keep, wr := [], armed := 0, down := false, falls := if d.down = true then d.falls else d.falls + 1 } from rfl)
      clear hl3 hlk HLast
      generalize d.last keep = last at *
      generalize htm : tornN keep last = tm at HTm HKd
      rw [← htm] at HTm
      replace HTm := Aside0.mk htm
      clear htm
      go_loopw [6] (fun v W => ∃ j : Nat, v = .int .i64 (j : Int) ∧ (j : Int) ≤ last + 1 ∧ Aside0 (RAt W (Nw S w) g { d with safe := foldR (kb keep) last tm d.wr d.safe j } (.slice (some ⟨gs, 0, none⟩) d.safe.length cs) (.slice (some ⟨gn, 0, none⟩) d.now.length cn) (.slice Aw d.wr.length cw)) ∧ Aside0 (Kp S w W)) (fun v _ => d.wr.length - (intOf v).toNat)
      case atStart => exact ⟨0, rfl, by have := HL3.out.2; omega, Aside0.mk (HA.out.mono fun k hk => .inl hk), HK⟩
      case round =>
        clear HC HA HK c2
        obtain ⟨j, rfl, hj, HA, HK⟩ := hrel
        obtain ⟨lifeA, hbA⟩ := HA.out.2.2.1
        have c0 : wr.cell? ⟨g, 0, none⟩ = some (.slice (some ⟨gs, 0, none⟩) d.safe.length cs) := (blk_cell hbA 0).trans rfl
        have c2 : wr.cell? ⟨g, 2, none⟩ = some (.slice Aw d.wr.length cw) := (blk_cell hbA 2).trans rfl
        clear hbA
        by_cases hlt : (j : Int) ≤ last
        · have l1 : decide ((j : Int) ≤ last) = true := decide_eq_true hlt
          obtain ⟨i, hi⟩ := Int.eq_ofNat_of_zero_le (show 0 ≤ last by omega)
          have hks : j < keep.size := by have := (HLK.out i hi).1; omega
          have hjw : j < d.wr.length := by have := HL3.out.1; omega
          have l3 : (j : Int) < (keep.size : Int) := by omega
          have hkb := kb_eq hks
          cases hk : (((keep[j]'hks).toNat : Int) == 0) with
          | true =>
            have hkf : kb keep j = false := by rw [hkb, bne, hk]; rfl
            have hjl : (j : Int) ≠ last := fun e => by have := (HLK.out j e.symm).2; rw [hkf] at this; cases this
            have HNx := Aside0.mk (show foldR (kb keep) last tm d.wr d.safe (j + 1) = foldR (kb keep) last tm d.wr d.safe j by rw [foldR]; unfold stepR; rw [if_neg hjl, if_neg (fun h => by rw [hkf] at h; cases h.2)])
            clear hkb hkf
            go_wp2
            refine ⟨⟨j + 1, rfl, by omega, by rw [HNx.out]; exact HA, HK⟩, ?_⟩
            simp [intOf]
            omega
          | false =>
            have hkt : kb keep j = true := by rw [hkb, bne, hk]; rfl
            have hOW : Own wr (Nw S w) 126 2 (.slice Aw d.wr.length cw) d.wr.length (wstrs d.wr) := HA.out.2.2.2.2.2.1
            obtain ⟨gw, cw', curw, hvw, _⟩ := hOW.form (by omega)
            injection hvw with hvw _ hcw
            subst hvw
            subst hcw
            obtain ⟨a, b, hab, han, hbs⟩ := HOk.out.nth hjw
            have hget : d.wr[j]? = some ((a : Int), b) := by rw [List.getElem?_eq_getElem hjw, hab]
            have hwg := wstrs_get d.wr j _ hget
            obtain ⟨k0, _⟩ := hOW.cellsAt (j * 2) _ hwg.1
            obtain ⟨k1, _⟩ := hOW.cellsAt (j * 2 + 1) _ hwg.2
            have has : a < d.safe.length := by rw [HOk.out.len]; exact han
            have hsl : (foldR (kb keep) last tm d.wr d.safe j).length = d.safe.length := foldR_length _ _ _ _ _ _
            obtain ⟨b0, hsg⟩ : ∃ b0, (foldR (kb keep) last tm d.wr d.safe j)[a]? = some b0 := ⟨_, List.getElem?_eq_getElem (by rw [hsl]; exact has)⟩
            have hb0 : Sect b0 := HA.out.1.safe b0 (List.mem_of_getElem? hsg)
            have hOwnS : Own wr (Nw S w) 9 1 (.slice (some ⟨gs, 0, none⟩) (foldR (kb keep) last tm d.wr d.safe j).length cs) (foldR (kb keep) last tm d.wr d.safe j).length (strs (foldR (kb keep) last tm d.wr d.safe j)) := by rw [hsl]; have h := HA.out.2.2.2.1; rw [show ({ d with safe := foldR (kb keep) last tm d.wr d.safe j } : DS).safe.length = d.safe.length from hsl] at h; exact h
            obtain ⟨k2, k3⟩ := hOwnS.cellsAt a _ (strs_get hsg)
            have hgd : d.wr.getD j (0, []) = ((a : Int), b) := by rw [List.getD_eq_getElem?_getD, hget]; rfl
            have HNext : ∀ b2, Sect b2 → stepR (kb keep) last tm (foldR (kb keep) last tm d.wr d.safe j) j ((a : Int), b) = (foldR (kb keep) last tm d.wr d.safe j).set a b2 → ∀ W', Below wr.heap.size wr W' → RAt (W'.setCell ⟨gs, a, none⟩ (sstr b2)) (Nw S w) g { d with safe := foldR (kb keep) last tm d.wr d.safe (j + 1) } (.slice (some ⟨gs, 0, none⟩) d.safe.length cs) (.slice (some ⟨gn, 0, none⟩) d.now.length cn) (.slice (some ⟨gw, 0, none⟩) d.wr.length cw) ∧ Kp S w (W'.setCell ⟨gs, a, none⟩ (sstr b2)) := by
              intro b2 hb2 hst W' hW'
              have h := HA.out.below hW'
              rw [show Value.slice (some ⟨gs, 0, none⟩) d.safe.length cs = Value.slice (some ⟨gs, 0, none⟩) ({ d with safe := foldR (kb keep) last tm d.wr d.safe j } : DS).safe.length cs from by rw [show ({ d with safe := foldR (kb keep) last tm d.wr d.safe j } : DS).safe.length = d.safe.length from hsl]] at h
              have h2 := h.safe (i := a) (b := b2) (by rw [show ({ d with safe := foldR (kb keep) last tm d.wr d.safe j } : DS).safe.length = d.safe.length from hsl]; exact has) hb2
              rw [show ({ d with safe := foldR (kb keep) last tm d.wr d.safe j } : DS).safe.length = d.safe.length from hsl] at h2
              rw [foldR, hgd, hst]
              exact ⟨h2, (HK.out.below hW').setCell (p := ⟨gs, a, none⟩) (hOwnS.2 gs rfl) _⟩
            have HNX := Aside0.mk HNext
            have l2 : (j : Int) < (d.wr.length : Int) := by omega
            have l4 : (a : Int) < (d.safe.length : Int) := by omega
            have HB := Aside0.mk hbs
            have HB0 := Aside0.mk hb0
            have HGA := Aside0.mk (show (foldR (kb keep) last tm d.wr d.safe j).getD a [] = b0 by rw [List.getD_eq_getElem?_getD, hsg]; rfl)
            have HKT := Aside0.mk hkt
            unfold sstr at k1 k2
            clear hab hget hwg hsg hOwnS hbs hOW HNext hb0 hgd hsl hkb hkt
            by_cases hjl : (j : Int) = last
            · have m1 : ((j : Int) == last) = true := by rw [beq_iff_eq]; exact hjl
              have HJL := Aside0.mk hjl
              clear hjl hi hlt hj
              go_wp2
              have hB1 : Below wr.heap.size wr (wr.alloc (.cells #[.int .i64 (a : Int), .string (strOfNums b)] 126)) := below_alloc (Below.refl _ _) _
              have c0' := (hB1.cell (World.block_lt_of_cell? wr _ c0)).trans c0
              have k2' := (hB1.cell (World.block_lt_of_cell? wr _ k2)).trans k2
              have k3' : (wr.alloc (.cells #[.int .i64 (a : Int), .string (strOfNums b)] 126)).frozen? ⟨gs, a, none⟩ = false := by
                have hlt' := World.block_lt_of_cell? wr _ k2
                have e := hB1.block gs hlt'
                unfold World.frozen? at k3 ⊢
                simp only [e]
                exact k3
              have bx0 : (wr.alloc (.cells #[.int .i64 (a : Int), .string (strOfNums b)] 126)).cell? ⟨wr.heap.size, 0, none⟩ = some (.int .i64 (a : Int)) := (blk_cell (blk_new wr _) 0).trans rfl
              have bx1 : (wr.alloc (.cells #[.int .i64 (a : Int), .string (strOfNums b)] 126)).cell? ⟨wr.heap.size, 1, none⟩ = some (.string (strOfNums b)) := (blk_cell (blk_new wr _) 1).trans rfl
              have HB1 := Aside0.mk hB1
              generalize hW1 : wr.alloc (.cells #[.int .i64 (a : Int), .string (strOfNums b)] 126) = W1 at *
              generalize hgx : wr.heap.size = gx at *
              have HW1 := Aside0.mk hW1
              have HGX := Aside0.mk hgx
              clear hB1 c0 k0 k1 k2 k3 c2 hW1 hgx
              have hm64 : tm ≤ 64 := by rw [← HTm.out]; exact tornN_le _ _
              have hmn := torn_eq hks
              rw [HJL.out, HTm.out] at hmn
              have m2 : 0 ≤ (tm : Int) := Int.natCast_nonneg tm
              have m3 : (tm : Int) ≤ 64 := Int.ofNat_le.2 hm64
              have m4 : (strOfNums b).size = 64 := HB.out.size
              have m5 : (strOfNums b0).size = 64 := HB0.out.size
              have m6 : (tm : Int) ≤ ((strOfNums b).size : Int) := by rw [m4]; exact m3
              have m7 : (tm : Int) ≤ ((strOfNums b0).size : Int) := by rw [m5]; exact m3
              have HT := Aside0.mk (by have h := str_tear HB0.out HB.out hm64; rw [m5] at h; exact h)
              have HTS := Aside0.mk (tear_sect HB0.out HB.out hm64)
              have HST := Aside0.mk (show stepR (kb keep) last tm (foldR (kb keep) last tm d.wr d.safe j) j ((a : Int), b) = (foldR (kb keep) last tm d.wr d.safe j).set a (tear b0 b tm) by unfold stepR; rw [if_pos HJL.out, Int.toNat_natCast, HGA.out])
              clear hm64
              go_region
              all_goals go_wp2
              rw [HT.out]
              go_roundw
              case rel => exact ⟨j + 1, rfl, by have := HJL.out; omega, Aside0.mk ((HNX.out (tear b0 b tm) HTS.out HST.out W1 HB1.out).1.below (below_drew (Below.refl _ _))), Aside0.mk ((HNX.out (tear b0 b tm) HTS.out HST.out W1 HB1.out).2.below (below_drew (Below.refl _ _)))⟩
              case measure => simp [intOf]; omega
            · have m1 : ((j : Int) == last) = false := by rw [beq_eq_false_iff_ne]; exact hjl
              have HST := Aside0.mk (show stepR (kb keep) last tm (foldR (kb keep) last tm d.wr d.safe j) j ((a : Int), b) = (foldR (kb keep) last tm d.wr d.safe j).set a b by unfold stepR; rw [if_neg hjl, if_pos ⟨by omega, HKT.out⟩, Int.toNat_natCast])
              have HLT := Aside0.mk hlt
              clear hjl hi hlt hj
              go_wp2
              have hB1 : Below wr.heap.size wr (wr.alloc (.cells #[.int .i64 (a : Int), .string (strOfNums b)] 126)) := below_alloc (Below.refl _ _) _
              have c0' := (hB1.cell (World.block_lt_of_cell? wr _ c0)).trans c0
              have k2' := (hB1.cell (World.block_lt_of_cell? wr _ k2)).trans k2
              have k3' : (wr.alloc (.cells #[.int .i64 (a : Int), .string (strOfNums b)] 126)).frozen? ⟨gs, a, none⟩ = false := by
                have hlt' := World.block_lt_of_cell? wr _ k2
                have e := hB1.block gs hlt'
                unfold World.frozen? at k3 ⊢
                simp only [e]
                exact k3
              have bx0 : (wr.alloc (.cells #[.int .i64 (a : Int), .string (strOfNums b)] 126)).cell? ⟨wr.heap.size, 0, none⟩ = some (.int .i64 (a : Int)) := (blk_cell (blk_new wr _) 0).trans rfl
              have bx1 : (wr.alloc (.cells #[.int .i64 (a : Int), .string (strOfNums b)] 126)).cell? ⟨wr.heap.size, 1, none⟩ = some (.string (strOfNums b)) := (blk_cell (blk_new wr _) 1).trans rfl
              have HB1 := Aside0.mk hB1
              generalize hW1 : wr.alloc (.cells #[.int .i64 (a : Int), .string (strOfNums b)] 126) = W1 at *
              generalize hgx : wr.heap.size = gx at *
              have HW1 := Aside0.mk hW1
              have HGX := Aside0.mk hgx
              clear hB1 c0 k0 k1 k2 k3 c2 hW1 hgx
              go_region
              all_goals go_wp2
              go_roundw
              case rel => exact ⟨j + 1, rfl, by have := HLT.out; omega, Aside0.mk ((HNX.out b HB.out HST.out W1 HB1.out).1.below (below_drew (Below.refl _ _))), Aside0.mk ((HNX.out b HB.out HST.out W1 HB1.out).2.below (below_drew (Below.refl _ _)))⟩
              case measure => simp [intOf]; omega
        · have l1 : decide ((j : Int) ≤ last) = false := decide_eq_false hlt
          have hjw : j ≤ d.wr.length := by have := HL3.out.1; omega
          have hfk : foldR (kb keep) last tm d.wr d.safe j = d.kept keep := by
            rw [HKd.out]
            obtain ⟨e, he⟩ : ∃ e, d.wr.length = j + e := ⟨d.wr.length - j, by omega⟩
            rw [he, foldR_rest _ _ _ _ _ _ (by omega)]
          rw [hfk] at HA
          have hkl : (d.kept keep).length = d.safe.length := foldR_length _ _ _ _ _ _
          have HA3 := HA.out
          have hd3 : ∃ d3 : DS, d3 = { d with safe := d.kept keep } := ⟨_, rfl⟩
          obtain ⟨d3, hd3⟩ := hd3
          rw [← hkl] at HA3
          replace HA3 : RAt wr (Nw S w) g d3 (.slice (some ⟨gs, 0, none⟩) d3.safe.length cs) (.slice (some ⟨gn, 0, none⟩) d3.now.length cn) (.slice Aw d3.wr.length cw) := by rw [hd3]; exact HA3
          have HR3 : Aside0 (d.restart keep = { safe := d3.safe, now := d3.safe, wr := [], armed := 0, down := false, falls := if d3.down = true then d3.falls else d3.falls + 1 }) := Aside0.mk (by rw [hd3]; exact HRs.out)
          have HA3 := Aside0.mk HA3
          rw [show d.safe.length = d3.safe.length from by rw [hd3]; exact hkl.symm] at c0
          rw [show d.wr = d3.wr from by rw [hd3]] at c2
          clear HA HRs HKd HTm hfk hkl hd3 HL3 HLK hlt hj hjw HOk
          go_wp2
          go_loopw [9] (fun v W => ∃ j : Nat, v = .int .i64 (j : Int) ∧ j ≤ d3.now.length ∧ Aside0 (RAt W (Nw S w) g { d3 with now := copyR d3.safe d3.now j } (.slice (some ⟨gs, 0, none⟩) d3.safe.length cs) (.slice (some ⟨gn, 0, none⟩) d3.now.length cn) (.slice Aw d3.wr.length cw)) ∧ Aside0 (Kp S w W)) (fun v _ => d3.now.length - (intOf v).toNat)
          case atStart => exact ⟨0, rfl, Nat.zero_le _, HA3, HK⟩
          case round =>
            have HOk := Aside0.mk HA3.out.1
            clear HA3 HK c0 c2
            obtain ⟨j, rfl, hj, HA, HK⟩ := hrel
            obtain ⟨lifeA, hbA⟩ := HA.out.2.2.1
            have c0 : wr.cell? ⟨g, 0, none⟩ = some (.slice (some ⟨gs, 0, none⟩) d3.safe.length cs) := (blk_cell hbA 0).trans rfl
            have c1 : wr.cell? ⟨g, 1, none⟩ = some (.slice (some ⟨gn, 0, none⟩) d3.now.length cn) := (blk_cell hbA 1).trans rfl
            have hls : d3.safe.length = d3.now.length := HOk.out.len
            have hlim : d3.now.length ≤ 4096 := HOk.out.lim
            by_cases hlt : j < d3.now.length
            · have l1 : (j : Int) < (d3.now.length : Int) := Int.ofNat_lt.2 hlt
              have l2 : (j : Int) < (d3.safe.length : Int) := by rw [hls]; exact l1
              have l3 : decide ((j : Int) < (d3.safe.length : Int)) = true := decide_eq_true l2
              have l4 : decide (j < d3.safe.length) = true := decide_eq_true (by omega)
              obtain ⟨b, hb⟩ : ∃ b, d3.safe[j]? = some b := ⟨_, List.getElem?_eq_getElem (by omega)⟩
              have hbs : Sect b := HOk.out.safe b (List.mem_of_getElem? hb)
              have hOS : Own wr (Nw S w) 9 1 (.slice (some ⟨gs, 0, none⟩) d3.safe.length cs) d3.safe.length (strs d3.safe) := HA.out.2.2.2.1
              have hcl : (copyR d3.safe d3.now j).length = d3.now.length := copyR_length hls hj
              have hON : Own wr (Nw S w) 9 1 (.slice (some ⟨gn, 0, none⟩) (copyR d3.safe d3.now j).length cn) (copyR d3.safe d3.now j).length (strs (copyR d3.safe d3.now j)) := by rw [hcl]; have h := HA.out.2.2.2.2.1; rw [show ({ d3 with now := copyR d3.safe d3.now j } : DS).now.length = d3.now.length from hcl] at h; exact h
              obtain ⟨b0, hb0⟩ : ∃ b, (copyR d3.safe d3.now j)[j]? = some b := ⟨_, List.getElem?_eq_getElem (by omega)⟩
              obtain ⟨k0, _⟩ := hOS.cellsAt j _ (strs_get hb)
              obtain ⟨k1, k2⟩ := hON.cellsAt j _ (strs_get hb0)
              have HNext : RAt (wr.setCell ⟨gn, j, none⟩ (sstr b)) (Nw S w) g { d3 with now := copyR d3.safe d3.now (j + 1) } (.slice (some ⟨gs, 0, none⟩) d3.safe.length cs) (.slice (some ⟨gn, 0, none⟩) d3.now.length cn) (.slice Aw d3.wr.length cw) ∧ Kp S w (wr.setCell ⟨gn, j, none⟩ (sstr b)) := by
                have h := HA.out
                rw [show Value.slice (some ⟨gn, 0, none⟩) d3.now.length cn = Value.slice (some ⟨gn, 0, none⟩) ({ d3 with now := copyR d3.safe d3.now j } : DS).now.length cn from by rw [show ({ d3 with now := copyR d3.safe d3.now j } : DS).now.length = d3.now.length from hcl]] at h
                have h2 := h.now (i := j) (b := b) (by rw [show ({ d3 with now := copyR d3.safe d3.now j } : DS).now.length = d3.now.length from hcl]; exact hlt) hbs
                rw [show ({ d3 with now := copyR d3.safe d3.now j } : DS).now.length = d3.now.length from hcl] at h2
                rw [← copyR_set hls hb hlt]
                exact ⟨h2, HK.out.setCell (p := ⟨gn, j, none⟩) (hON.2 gn rfl) _⟩
              have HNX := Aside0.mk HNext
              unfold sstr at k0 k1
              clear hb hbs hOS hcl hON hb0 HNext hbA hls HOk
              go_wp2
              go_region
              all_goals go_wp2
              go_roundw
              case rel => exact ⟨j + 1, rfl, hlt, Aside0.mk (HNX.out.1.below (below_drew (Below.refl _ _))), Aside0.mk (HNX.out.2.below (below_drew (Below.refl _ _)))⟩
              case measure => simp [intOf]; omega
            · have l3 : decide ((j : Int) < (d3.safe.length : Int)) = false := decide_eq_false (by omega)
              have l4 : decide (j < d3.safe.length) = false := decide_eq_false (by omega)
              have c2 : wr.cell? ⟨g, 2, none⟩ = some (.slice Aw d3.wr.length cw) := (blk_cell hbA 2).trans rfl
              have c3 : wr.cell? ⟨g, 3, none⟩ = some (.bool (!d3.down)) := (blk_cell hbA 3).trans rfl
              have c4 : wr.cell? ⟨g, 4, none⟩ = some (.int .i64 d3.armed) := (blk_cell hbA 4).trans rfl
              have f2 := blk_frozen hbA 2
              have f3 := blk_frozen hbA 3
              have f4 := blk_frozen hbA 4
              have hfin : copyR d3.safe d3.now j = d3.safe := copyR_all hls (by omega)
              have HF := Aside0.mk (HA.out.finish (if d3.down = true then d3.falls else d3.falls + 1) (by have := HOk.out.falls0; split <;> omega))
              rw [hfin] at HF
              have HKF := Aside0.mk (show Kp S w (((wr.setCell ⟨g, 2, none⟩ (.slice none 0 0)).setCell ⟨g, 4, none⟩ (.int .i64 0)).setCell ⟨g, 3, none⟩ (.bool true)) from ((HK.out.setCell (p := ⟨g, 2, none⟩) HA.out.2.1 _).setCell (p := ⟨g, 4, none⟩) HA.out.2.1 _).setCell (p := ⟨g, 3, none⟩) HA.out.2.1 _)
              clear hbA hfin hls
              go_wp2
              go_end0
              exact ⟨rfl, _, _, _, by rw [HR3.out]; exact HF.out, HKF.out⟩
theorem rrestart_calls (w : World) (S : Nat → Prop) (g : Nat) (d : DS) (vs vn vw : Value) (keep : ByteArray) (h0 : RAt w S g d vs vn vw) (hl : d.wr.length ≤ 1000000) :
    Calls Try.prog 41 #[.pointer (some ⟨g, 0, none⟩), .string keep] w (RRs w S g d keep) := by
  rcases Nat.lt_or_ge keep.size d.wr.length with hsz | hsz
  · cases hd : d.down with
    | true => exact rrestart_true1 w S g d vs vn vw keep h0 hl hd hsz
    | false => exact rrestart_false1 w S g d vs vn vw keep h0 hl hd hsz
  · cases hd : d.down with
    | true => exact rrestart_true2 w S g d vs vn vw keep h0 hl hd hsz
    | false => exact rrestart_false2 w S g d vs vn vw keep h0 hl hd hsz
end Go.Proofs.Ytkedodmlbepfnaa.Lg

-- from the working text Pa
set_option linter.unusedSimpArgs false
set_option linter.unusedVariables false
namespace Go.Proofs.Ytkedodmlbepfnaa.Lg
open Go.RowKit Go.Proofs.YtkedodmlbepfnaaW.PrintWords Go.Proofs.YtkedodmlbepfnaaW.PrintLast Go.Proofs.YtkedodmlbepfnaaW.PrintMore Go.Proofs.Ytkedodmlbepfnaa.Rg
/-- The first cells alone are changed, if the rest is as it was. -/
theorem patch_more {xs x y : List Value} {o : Nat} (h : (xs.drop (o + x.length)).take y.length = y) : patch xs o (x ++ y) = patch xs o x := by
  unfold patch
  have e : xs.drop (o + x.length) = y ++ xs.drop (o + x.length + y.length) := by
    conv => lhs; rw [← List.take_append_drop y.length (xs.drop (o + x.length)), h, List.drop_drop]
  rw [e, List.length_append, List.append_assoc, List.append_assoc, List.append_assoc, ← Nat.add_assoc]
theorem wflat_get : ∀ (ws : List (Int × List Int)) (i : Nat) (x : Int × List Int), (∀ y ∈ ws, y.2.length = 64) → ws[i]? = some x → ∀ j u, (Value.int .i64 x.1 :: nums .u8 x.2)[j]? = some u → (wflat ws)[i * 65 + j]? = some u
  | [], i, x, _, h, _, _, _ => by simp at h
  | y :: ws, i, x, hl, h, j, u, hu => by
    have hy := hl y List.mem_cons_self
    have hlen : (Value.int .i64 y.1 :: nums .u8 y.2).length = 65 := by simp [nums_length, hy]
    have e : wflat (y :: ws) = (Value.int .i64 y.1 :: nums .u8 y.2) ++ wflat ws := rfl
    rw [e]
    cases i with
    | zero =>
      simp only [List.getElem?_cons_zero, Option.some.injEq] at h
      subst h
      rw [Nat.zero_mul, Nat.zero_add, List.getElem?_append_left ((List.getElem?_eq_some_iff.1 hu).1)]
      exact hu
    | succ i =>
      rw [List.getElem?_cons_succ] at h
      rw [List.getElem?_append_right (by omega), hlen, show (i + 1) * 65 + j - 65 = i * 65 + j by omega]
      exact wflat_get ws i x (fun z hz => hl z (List.mem_cons_of_mem _ hz)) h j u hu
theorem wrange_of {w : World} {S : Nat → Prop} {gw n c : Nat} {ws : List (Int × List Int)} {i : Nat} {x : Int × List Int} (h : Own w S 124 65 (.slice (some ⟨gw, 0, none⟩) n c) n (wflat ws)) (hs : ∀ y ∈ ws, y.2.length = 64) (hx : ws[i]? = some x) :
    w.rangeAt gw (i * 65) (.int .i64 x.1 :: nums .u8 x.2) := fun j u hu => (h.cellsAt _ _ (wflat_get ws i x hs hx j u hu)).1
/-- One safe sector is changed. -/
theorem DiskAt.sectorS {w : World} {S : Nat → Prop} {g : Nat} {d : DS} {vn vw : Value} {gs c : Nat} {cur : Array Value} (h : DiskAt w S g d (.slice (some ⟨gs, 0, none⟩) d.safe.length c) vn vw) (hg : w.heap[gs]? = some (.cells cur 122 (0, 0)))
    {i : Nat} {b : List Int} (hi : i < d.safe.length) (hb : Sect b) :
    DiskAt (w.setRow gs (patch cur.toList (i * 64) (nums .u8 b)).toArray) S g { d with safe := d.safe.set i b } (.slice (some ⟨gs, 0, none⟩) d.safe.length c) vn vw := by
  obtain ⟨h1, h2, h3, h4, h5, h6, h7⟩ := h
  have hgn : g ≠ gs := by intro e; subst e; rw [h3] at hg; injection hg with hg; injection hg with _ hg _; cases hg
  have hbl : (nums .u8 b).length = 64 := by rw [nums_length, hb.1]
  refine ⟨h1.withSafe List.length_set ?_, h2, (setRow_other w gs g _ hgn).trans h3, ?_, h5.setRow ?_ _, h6.setRow ?_ _, h7⟩
  · intro s hs
    rcases List.mem_or_eq_of_mem_set hs with h | h
    · exact h1.safe s h
    · subst h; exact hb
  · show Own _ S 122 64 _ (d.safe.set i b).length (flat (d.safe.set i b))
    rw [List.length_set, ← flat_set d.safe i b (fun s hs => (h1.safe s hs).1) hi hb.1]
    exact h4.patch hg (by rw [hbl]; omega)
  · rcases h7 with h7 | h7
    · cases h7
    · intro e; exact h7 (by rw [e]; rfl)
  · exact h6.type_ne hg (by decide)
/-- The first bytes of one safe sector are changed. -/
theorem DiskAt.tornS {w : World} {S : Nat → Prop} {g : Nat} {d : DS} {vn vw : Value} {gs c : Nat} {cur : Array Value} (h : DiskAt w S g d (.slice (some ⟨gs, 0, none⟩) d.safe.length c) vn vw) (hg : w.heap[gs]? = some (.cells cur 122 (0, 0)))
    {i m : Nat} {b b0 : List Int} (hi : d.safe[i]? = some b0) (hb : Sect b) (hm : m ≤ 64) :
    DiskAt (w.setRow gs (patch cur.toList (i * 64) (nums .u8 (b.take m))).toArray) S g { d with safe := d.safe.set i (tear b0 b m) } (.slice (some ⟨gs, 0, none⟩) d.safe.length c) vn vw := by
  have hlt := (List.getElem?_eq_some_iff.1 hi).1
  have hb0 : Sect b0 := h.1.safe b0 (List.mem_of_getElem? hi)
  have h' := h.sectorS hg hlt (tear_sect hb0 hb hm)
  have hl1 : (nums .u8 (b.take m)).length = m := by rw [nums_length, List.length_take, hb.1, Nat.min_eq_left hm]
  have hl2 : (nums .u8 (b0.drop m)).length = 64 - m := by rw [nums_length, List.length_drop, hb0.1]
  have hr := range_of h.2.2.2.1 (fun x hx => (h.1.safe x hx).1) hi hb0.1 rfl
  have e : nums .u8 (tear b0 b m) = nums .u8 (b.take m) ++ nums .u8 (b0.drop m) := by unfold tear; exact nums_append _ _ _
  rw [e, patch_more ?_] at h'
  · exact h'
  · rw [hl1, hl2]
    apply List.ext_getElem?
    intro k
    rw [List.getElem?_take]
    by_cases hk : k < 64 - m
    · rw [if_pos hk, List.getElem?_drop]
      have hk2 : m + k < b0.length := by rw [hb0.1]; omega
      have h1 := hr (m + k) (.int .u8 b0[m + k]) (by simp [nums, hk2])
      rw [blk_cell hg, ← Array.getElem?_toList] at h1
      rw [show i * 64 + m + k = i * 64 + (m + k) by omega, h1]
      simp [nums, hk2]
    · rw [if_neg hk, List.getElem?_eq_none (by rw [hl2]; omega)]
/-- All is wiped: what is read is what is safe. -/
theorem DiskAt.finish {w0 w2 w3 : World} {S : Nat → Prop} {g : Nat} {d : DS} {vs vn vw v' : Value} (h : DiskAt w2 S g d vs vn vw) (hB : Below w2.heap.size w2 w3) (ho : Own w3 (fun k => w2.heap.size ≤ k) 122 64 v' d.safe.length (flat d.safe)) (hw : w0.heap.size ≤ w2.heap.size) :
    DiskAt ((((w3.setCell ⟨g, 1, none⟩ v').setCell ⟨g, 2, none⟩ (.slice none 0 0)).setCell ⟨g, 4, none⟩ (.bool false)).setCell ⟨g, 3, none⟩ (.int .i64 0)) (Nw S w0) g { safe := d.safe, now := d.safe, wr := [], armed := 0, down := false, falls := d.falls } vs v' (.slice none 0 0) := by
  obtain ⟨h1, h2, h3, h4, h5, h6, h7⟩ := h.below hB
  have hp := h1.pos
  have hln := h1.len
  have hne : vs.ownBlock ≠ v'.ownBlock := by
    intro hk
    obtain ⟨gs, cs, cur, rfl, _, hg, _⟩ := h.2.2.2.1.form (by have := h.1.pos; have := h.1.len; omega)
    have hlt := blk_lt hg
    have hk2 := ho.2 gs hk.symm
    omega
  have h4a : (w3.setCell ⟨g, 1, none⟩ v').heap[g]? = some (.cells #[vs, v', vw, .int .i64 d.armed, .bool d.down, .int .i64 d.falls] 115 (0, 0)) := by rw [blk_set h3]; rfl
  have h4b : ((w3.setCell ⟨g, 1, none⟩ v').setCell ⟨g, 2, none⟩ (.slice none 0 0)).heap[g]? = some (.cells #[vs, v', .slice none 0 0, .int .i64 d.armed, .bool d.down, .int .i64 d.falls] 115 (0, 0)) := by rw [blk_set h4a]; rfl
  have h4c : (((w3.setCell ⟨g, 1, none⟩ v').setCell ⟨g, 2, none⟩ (.slice none 0 0)).setCell ⟨g, 4, none⟩ (.bool false)).heap[g]? = some (.cells #[vs, v', .slice none 0 0, .int .i64 d.armed, .bool false, .int .i64 d.falls] 115 (0, 0)) := by rw [blk_set h4b]; rfl
  refine ⟨⟨rfl, ?_, ?_, h1.safe, h1.safe, fun x hx => (by cases hx), Int.le_refl 0, by show (0 : Int) ≤ 9223372036854775807; decide, h1.falls0⟩, .inl h2, by rw [blk_set h4c]; rfl, ?_, ?_, Own.nil _ _ _ _, .inr hne⟩
  · show 1 ≤ d.safe.length; omega
  · show d.safe.length ≤ 4096; have := h1.lim; omega
  · exact ((((h4.setCell (h4.type_ne h3 (by decide)) _).setCell (h4.type_ne h3 (by decide)) _).setCell (h4.type_ne h3 (by decide)) _).setCell (h4.type_ne h3 (by decide)) _).mono fun k hk => .inl hk
  · exact ((((ho.setCell (ho.type_ne h3 (by decide)) _).setCell (ho.type_ne h3 (by decide)) _).setCell (ho.type_ne h3 (by decide)) _).setCell (ho.type_ne h3 (by decide)) _).mono fun k hk => .inr (Nat.le_trans hw hk)
end Go.Proofs.Ytkedodmlbepfnaa.Lg

-- from the working text Pw
set_option linter.unusedSimpArgs false
set_option linter.unusedVariables false
namespace Go.Proofs.Ytkedodmlbepfnaa.Lg
open Go.RowKit Go.Proofs.YtkedodmlbepfnaaW.PrintWords Go.Proofs.YtkedodmlbepfnaaW.PrintLast Go.Proofs.YtkedodmlbepfnaaW.PrintMore Go.Proofs.Ytkedodmlbepfnaa.Rg
theorem size124 : (Try.prog.info? 124).map (·.size) = some 65 := by kernel_rfl
theorem row124 : (Try.prog.underlying 124).map TypeDesc.isRow = some true := by kernel_rfl
theorem wl_load124 {ops : Array Oper} {rest : List Oper} {op : Oper} {a : Act} {w : World} {Q : Exit → Act → World → Prop} (hgd : op.guard = none) (x : Operand) (ho : op.op = .load 124 x)
    {gw o : Nat} (hx : a.eval x = .pointer (some ⟨gw, o, none⟩)) {n : Int} {b : List Int} (h : w.rangeAt gw o (.int .i64 n :: nums .u8 b)) (hb : b.length = 64)
    (k : wpList Try.prog ops Q rest (a.put op.dst (.agg (Value.int .i64 n :: nums .u8 b).toArray)) w) : wpList Try.prog ops Q (op :: rest) a w := by
  have hr := row124
  cases hu : Try.prog.underlying 124 with
  | none => rw [hu] at hr; cases hr
  | some dd =>
    rw [hu] at hr
    exact wpList_load_mid hgd 124 x ho gw o hx _ dd h hu (by simpa using hr) (by rw [List.length_cons, nums_length, hb]; exact size124) k
theorem wl_alloc124 {ops : Array Oper} {rest : List Oper} {op : Oper} {a : Act} {w : World} {Q : Exit → Act → World → Prop} (hgd : op.guard = none) (ho : op.op = .alloc 124)
    (k : wpList Try.prog ops Q rest (a.put op.dst (.pointer (some ⟨w.heap.size, 0, none⟩))) (w.alloc (.cells (#[.int .i64 0] ++ zero64) 124))) : wpList Try.prog ops Q (op :: rest) a w := by
  have hz := info124z
  cases hi : Try.prog.info? 124 with
  | none => rw [hi] at hz; cases hz
  | some it =>
    cases hzz : it.zero with
    | none => rw [hi] at hz; simp [hzz] at hz
    | some z =>
      rw [hi] at hz
      simp [hzz] at hz
      obtain ⟨rfl, _, _⟩ := hz
      refine wpList_plain hgd fun K hK => ?_
      unfold Oper.wp execOp
      simp only [ho, Instr.alloc, zeroValue, typeInfo, Sem.run_bind, Sem.run_pure, Result.andThen_ok, hi, hzz]
      simp [newVar, newRow, newObj, hi, hzz, Sem.run_bind, Sem.run_pure]
      exact hK _ _ k
theorem wl_store124 {ops : Array Oper} {rest : List Oper} {op : Oper} {a : Act} {w0 w : World} {Q : Exit → Act → World → Prop} (hgd : op.guard = none) (x y : Operand) (ho : op.op = .store 124 x y)
    {z c : Array Value} (hw : w = w0.alloc (.cells z 124)) (hx : a.eval x = .pointer (some ⟨w0.heap.size, 0, none⟩)) (hy : a.eval y = .agg c) (hz : z.size = 65) (hc : c.size = 65) (h1 : c.all (·.oneCell') = true)
    (k : wpList Try.prog ops Q rest (a.put op.dst undef) (w0.alloc (.cells c 124))) : wpList Try.prog ops Q (op :: rest) a w := by
  subst hw
  refine wpList_plain hgd fun K hK => ?_
  unfold Oper.wp execOp
  simp only [ho, hx, hy, Sem.run_bind, Sem.run_pure, Result.andThen_ok, run_storeAt_new w0 124 z c (by rw [hc]; exact size124) (by omega) h1]
  exact hK _ _ k
theorem there_of {w : World} {g o n : Nat} {t : TypeId} {cur : Array Value} (hg : w.heap[g]? = some (.cells cur t (0, 0))) (hfit : o + n ≤ cur.size) : w.there g o n := fun j hj =>
  ⟨by rw [blk_cell hg, Array.getElem?_eq_getElem (show o + j < cur.size by omega)]; rfl, blk_frozen hg _⟩
theorem setCells_row {w : World} {g o : Nat} {t : TypeId} {cells : List Value} {cur : Array Value} (hg : w.heap[g]? = some (.cells cur t (0, 0))) (hfit : o + cells.length ≤ cur.size) (h1 : ∀ u ∈ cells, u.oneCell' = true) : w.setCells g o cells = w.setRow g (patch cur.toList o cells).toArray := by
  have ht := there_of hg hfit
  have h2 := run_storeCells_at Try.prog g o t cells 0 cur w hg (by simpa using hfit) h1
  have h3 := run_storeCells_cells (P := Try.prog) g o cells 0 w (fun j hj => by simpa using (ht j hj).1) (fun j hj => by simpa using (ht j hj).2) h1
  rw [h2] at h3
  injection h3 with _ h3
  simp only [Nat.add_zero] at h3
  exact h3.symm
def PRs (w : World) (S : Nat → Prop) (g : Nat) (d : DS) (keep : ByteArray) (e : Ending) (w' : World) : Prop := e = .returned (.tuple #[]) ∧ ∃ vs' vn' vw', DiskAt w' (Nw S w) g (d.restart keep) vs' vn' vw' ∧ Kp S w w'
/-- What is the same in a disk whose power went. -/
structure Gone (d d1 : DS) : Prop where
  safe : d1.safe = d.safe
  wr : d1.wr = d.wr
  down : d1.down = true
  falls : d1.falls = if d.down = true then d.falls else d.falls + 1
theorem Gone.restart {d d1 : DS} (h : Gone d d1) (keep : ByteArray) : d.restart keep = { safe := d1.kept keep, now := d1.kept keep, wr := [], armed := 0, down := false, falls := d1.falls } := by
  have e : d1.kept keep = d.kept keep := by unfold DS.kept DS.last; rw [h.safe, h.wr]
  unfold DS.restart
  rw [e, h.falls]
set_option maxHeartbeats 16000000 in
set_option maxRecDepth 100000 in
theorem prestart_on (w : World) (S : Nat → Prop) (g : Nat) (d : DS) (vs vn vw : Value) (keep : ByteArray) (h0 : DiskAt w S g d vs vn vw) (hl : d.wr.length ≤ 1000000) (hf : d.falls ≤ 1000000) (hd : d.down = true) :
    Calls Try.prog 40 #[.pointer (some ⟨g, 0, none⟩), .string keep] w (PRs w S g d keep) := by
  obtain ⟨Aw, cw, hvw⟩ := h0.2.2.2.2.2.1.slice
  subst hvw
  obtain ⟨gs, cs, curs, hvs, _⟩ := h0.2.2.2.1.form (by have := h0.1.pos; have := h0.1.len; omega)
  subst hvs
  obtain ⟨gn, cn, curn, hvn, _⟩ := h0.2.2.2.2.1.form h0.1.pos
  subst hvn
  have H := Aside0.mk h0
  have HF := Aside0.mk hf
  have hb := h0.2.2.1
  have c4 : w.cell? ⟨g, 4, none⟩ = some (.bool d.down) := (blk_cell hb 4).trans rfl
  clear h0 hb hf
  rw [hd] at c4
  go_enter Try.func40, Try.ntmps40
  have HG := Aside0.mk (show Gone d d from ⟨rfl, rfl, hd, by rw [if_pos hd]⟩)
  have HA := Aside0.mk H.out
  have HK := Aside0.mk (Kp.refl S w)
  have c2 : w.cell? ⟨g, 2, none⟩ = some (.slice Aw d.wr.length cw) := (blk_cell H.out.2.2.1 2).trans rfl
  have hd1 : ∃ d1 : DS, d1 = d := ⟨_, rfl⟩
  obtain ⟨d1, hd1⟩ := hd1
  rw [show d.wr.length = d1.wr.length from by rw [hd1], show d.safe.length = d1.safe.length from by rw [hd1], show d.now.length = d1.now.length from by rw [hd1]] at *
  rw [show DiskAt w S g d = DiskAt w S g d1 from by rw [hd1]] at HA
  rw [show Gone d d = Gone d d1 from by rw [hd1]] at HG
  clear hd1 H
  go_wp2
  clear c4 c2 hd
  go_loopw [4, 20] (fun v4 v20 W => ∃ j : Nat, v4 = .int .i64 (lastF (kb keep) j) ∧ v20 = .int .i64 (j : Int) ∧ j ≤ d1.wr.length ∧ Aside0 (DiskAt W S g d1 (.slice (some ⟨gs, 0, none⟩) d1.safe.length cs) (.slice (some ⟨gn, 0, none⟩) d1.now.length cn) (.slice Aw d1.wr.length cw)) ∧ Aside0 (Kp S w W)) (fun _ v _ => d1.wr.length - (intOf v).toNat)
  case atStart => exact ⟨0, rfl, rfl, Nat.zero_le _, HA, HK⟩
  case round =>
    clear HA HK
    obtain ⟨j, rfl, rfl, hj, HA, HK⟩ := hrel
    by_cases hlt : j < d1.wr.length
    · have l1 : decide ((j : Int) < (d1.wr.length : Int)) = true := decide_eq_true (by omega)
      have l2 : decide (j < d1.wr.length) = true := decide_eq_true hlt
      by_cases hks : j < keep.size
      · have l3 : decide ((j : Int) < (keep.size : Int)) = true := decide_eq_true (by omega)
        have l4 : decide (j < keep.size) = true := decide_eq_true hks
        have l5 : (j : Int) < (keep.size : Int) := by omega
        have hkb := kb_eq hks
        cases hk : (((keep[j]'hks).toNat : Int) != 0) with
        | true =>
          have HL := Aside0.mk (show lastF (kb keep) (j + 1) = (j : Int) by rw [lastF, if_pos (by rw [hkb, hk])])
          clear hkb
          go_wp2
          refine ⟨⟨j + 1, by rw [HL.out], rfl, hlt, HA, HK⟩, ?_⟩
          simp [intOf]
          omega
        | false =>
          have HL := Aside0.mk (show lastF (kb keep) (j + 1) = lastF (kb keep) j by rw [lastF, if_neg (by rw [hkb, hk]; simp)])
          clear hkb
          go_wp2
          refine ⟨⟨j + 1, by rw [HL.out], rfl, hlt, HA, HK⟩, ?_⟩
          simp [intOf]
          omega
      · have l3 : decide ((j : Int) < (keep.size : Int)) = false := decide_eq_false (by omega)
        have l4 : decide (j < keep.size) = false := decide_eq_false hks
        have HL := Aside0.mk (show lastF (kb keep) (j + 1) = lastF (kb keep) j by rw [lastF, if_neg (by rw [kb_out (by omega)]; simp)])
        go_wp2
        refine ⟨⟨j + 1, by rw [HL.out], rfl, hlt, HA, HK⟩, ?_⟩
        simp [intOf]
        omega
    · have l1 : decide ((j : Int) < (d1.wr.length : Int)) = false := decide_eq_false (by omega)
      have l2 : decide (j < d1.wr.length) = false := decide_eq_false hlt
      have HLast := Aside0.mk (show lastF (kb keep) j = d1.last keep by unfold DS.last; rw [show j = d1.wr.length by omega])
      have c2 : wr.cell? ⟨g, 2, none⟩ = some (.slice Aw d1.wr.length cw) := (blk_cell HA.out.2.2.1 2).trans rfl
      go_wp2
      rw [HLast.out]
      have hl3 := (lastF_lt (kb keep) d1.wr.length)
      have hlk : ∀ i : Nat, d1.last keep = (i : Int) → i < keep.size ∧ kb keep i = true := fun i hi => by
        have h := lastF_kept (kb keep) d1.wr.length i hi
        refine ⟨?_, h⟩
        rcases Nat.lt_or_ge i keep.size with h1 | h1
        · exact h1
        · rw [kb_out h1] at h; cases h
      have HLK := Aside0.mk hlk
      have HL3 : Aside0 (d1.last keep < d1.wr.length ∧ -1 ≤ d1.last keep) := Aside0.mk hl3
      have HKd := Aside0.mk (show d1.kept keep = foldR (kb keep) (d1.last keep) (tornN keep (d1.last keep)) d1.wr d1.safe d1.wr.length from rfl)
      have HOk := Aside0.mk HA.out.1
      clear hl3 hlk HLast
      generalize d1.last keep = last at *
      generalize htm : tornN keep last = tm at HKd
      have HTm := Aside0.mk htm
      clear htm hj hlt l1 l2
      go_loopw [40] (fun v W => ∃ j : Nat, v = .int .i64 (j : Int) ∧ j ≤ d1.wr.length ∧ Aside0 (DiskAt W (Nw S w) g { d1 with safe := foldR (kb keep) last tm d1.wr d1.safe j } (.slice (some ⟨gs, 0, none⟩) d1.safe.length cs) (.slice (some ⟨gn, 0, none⟩) d1.now.length cn) (.slice Aw d1.wr.length cw)) ∧ Aside0 (Kp S w W)) (fun v _ => d1.wr.length - (intOf v).toNat)
      case atStart => exact ⟨0, rfl, Nat.zero_le _, Aside0.mk (HA.out.mono fun k hk => .inl hk), HK⟩
      case round =>
        clear HA HK c2
        obtain ⟨j, rfl, hj, HA, HK⟩ := hrel
        by_cases hlt : j < d1.wr.length
        · have l1 : decide ((j : Int) < (d1.wr.length : Int)) = true := decide_eq_true (by omega)
          have l2 : decide (j < d1.wr.length) = true := decide_eq_true hlt
          have l5 : (j : Int) < (d1.wr.length : Int) := by omega
          have hOW : Own wr (Nw S w) 124 65 (.slice Aw d1.wr.length cw) d1.wr.length (wflat d1.wr) := HA.out.2.2.2.2.2.1
          obtain ⟨gw, cw', curw, hvw, _⟩ := hOW.form (by omega)
          injection hvw with hvw _ hcw
          subst hvw
          subst hcw
          obtain ⟨a, b, hab, han, hbs⟩ := HOk.out.nth hlt
          have hget : d1.wr[j]? = some ((a : Int), b) := by rw [List.getElem?_eq_getElem hlt, hab]
          have has : a < d1.safe.length := by rw [HOk.out.len]; exact han
          have hwl : ∀ y ∈ d1.wr, y.2.length = 64 := fun y hy => (HOk.out.wr y hy).2.2.1
          have hrw := wrange_of hOW hwl hget
          have HRW := Aside0.mk hrw
          have H64 := Aside0.mk hbs.1
          clear hrw hwl
          have HB := Aside0.mk hbs
          have HGet := Aside0.mk hget
          have HAS := Aside0.mk has
          clear hab han hbs hget has hOW
          have hsl : (foldR (kb keep) last tm d1.wr d1.safe j).length = d1.safe.length := foldR_length _ _ _ _ _ _
          obtain ⟨b0, hsg⟩ : ∃ b0, (foldR (kb keep) last tm d1.wr d1.safe j)[a]? = some b0 := ⟨_, List.getElem?_eq_getElem (by rw [hsl]; exact HAS.out)⟩
          have HSG := Aside0.mk hsg
          have HB0 := Aside0.mk (HA.out.1.safe b0 (List.mem_of_getElem? hsg))
          have hgd : d1.wr.getD j (0, []) = ((a : Int), b) := by rw [List.getD_eq_getElem?_getD, HGet.out]; rfl
          have HNX := Aside0.mk (show foldR (kb keep) last tm d1.wr d1.safe (j + 1) = stepR (kb keep) last tm (foldR (kb keep) last tm d1.wr d1.safe j) j ((a : Int), b) by rw [foldR, hgd])
          have HGA := Aside0.mk (show (foldR (kb keep) last tm d1.wr d1.safe j).getD a [] = b0 by rw [List.getD_eq_getElem?_getD, hsg]; rfl)
          have HW64 := Aside0.mk (show wr.heap.size = wr.heap.size from rfl)
          have hA' := HA.out
          rw [show Value.slice (some ⟨gs, 0, none⟩) d1.safe.length cs = Value.slice (some ⟨gs, 0, none⟩) ({ d1 with safe := foldR (kb keep) last tm d1.wr d1.safe j } : DS).safe.length cs from by rw [show ({ d1 with safe := foldR (kb keep) last tm d1.wr d1.safe j } : DS).safe.length = d1.safe.length from hsl]] at hA'
          have HA' := Aside0.mk hA'
          have HSL := Aside0.mk hsl
          have l6 : (a : Int) < (d1.safe.length : Int) := Int.ofNat_lt.2 HAS.out
          have HJT := Aside0.mk hlt
          clear hsl hsg hgd hA'
          by_cases hjl : (j : Int) = last
          · have m1 : ((j : Int) == last) = true := by rw [beq_iff_eq]; exact hjl
            have hks : j < keep.size := (HLK.out j hjl.symm).1
            have l3 : (j : Int) < (keep.size : Int) := by omega
            have HJL := Aside0.mk hjl
            have hm64 : tm ≤ 64 := by rw [← HTm.out]; exact tornN_le _ _
            have hmn := torn_eq hks
            rw [hjl, HTm.out] at hmn
            have m2 : 0 ≤ (tm : Int) := Int.natCast_nonneg tm
            have m3 : (tm : Int) ≤ 64 := Int.ofNat_le.2 hm64
            have HST := Aside0.mk (show stepR (kb keep) last tm (foldR (kb keep) last tm d1.wr d1.safe j) j ((a : Int), b) = (foldR (kb keep) last tm d1.wr d1.safe j).set a (tear b0 b tm) by unfold stepR; rw [if_pos HJL.out, Int.toNat_natCast, HGA.out])
            have HM64 := Aside0.mk hm64
            clear hjl hj hm64
            go_wp2_with (first
              | (refine wl_load124 rfl (.tmp 43) rfl rfl HRW.out H64.out ?_)
              | (refine wl_alloc124 rfl rfl ?_)
              | (refine wl_store124 (z := #[.int .i64 0] ++ zero64) rfl (.tmp 7) (.tmp 44) rfl rfl rfl rfl rfl (by rw [List.size_toArray, List.length_cons, nums_length, H64.out]) (all_oneCell_toArray (by intro u hu; rcases List.mem_cons.1 hu with rfl | hu; rfl; exact nums_one _ u hu)) ?_))
            have hB1 : Below wr.heap.size wr (wr.alloc (.cells (Value.int .i64 (a : Int) :: nums .u8 b).toArray 124)) := below_alloc (Below.refl _ _) _
            have HX1 := Aside0.mk (blk_new wr (.cells (Value.int .i64 (a : Int) :: nums .u8 b).toArray 124))
            have HA1 := Aside0.mk (HA'.out.below hB1)
            have HK1 := Aside0.mk (HK.out.below hB1)
            generalize wr.alloc (.cells (Value.int .i64 (a : Int) :: nums .u8 b).toArray 124) = W1 at *
            generalize wr.heap.size = gx at *
            obtain ⟨gs', cs', curs1, hvs, _, hgs1, hcn, _, hcz, _⟩ := HA1.out.2.2.2.1.form (by rw [HSL.out]; omega)
            injection hvs with hvs _ hcs
            injection hvs with hvs
            injection hvs with hvs
            subst hvs
            subst hcs
            have c0 : W1.cell? ⟨g, 0, none⟩ = some (.slice (some ⟨gs, 0, none⟩) d1.safe.length cs) := by rw [← HSL.out]; exact (blk_cell HA1.out.2.2.1 0).trans rfl
            have bx0 : W1.cell? ⟨gx, 0, none⟩ = some (.int .i64 (a : Int)) := (blk_cell HX1.out 0).trans rfl
            have HGS := Aside0.mk hgs1
            have HFit := Aside0.mk (show a * 64 + 64 ≤ curs1.size by rw [hcz]; have h1 := HAS.out; have h2 := HSL.out; have h3 : a + 1 ≤ cs := (by have h4 := hcn; rw [show ({ d1 with safe := foldR (kb keep) last tm d1.wr d1.safe j } : DS).safe.length = d1.safe.length from HSL.out] at h4; omega); have h5 := Nat.mul_le_mul_right 64 h3; omega)
            clear hB1 hgs1 hcn hcz
            have hlt' : (nums .u8 (b.take tm)).length = tm := by rw [nums_length, List.length_take, H64.out, Nat.min_eq_left HM64.out]
            have hgd1 : W1.drew.heap[gs]? = some (.cells curs1 122 (0, 0)) := HGS.out
            have hxd1 : W1.drew.heap[gx]? = some (.cells (Value.int .i64 (a : Int) :: nums .u8 b).toArray 124 (0, 0)) := HX1.out
            have kcp := run_copy_row (P := Try.prog) W1.drew 88 88 3 5 gs (a * 64) tm 64 ⟨gx, 1, none⟩ 64 64 curs1 122 (nums .u8 (b.take tm)) Try.underlying88 (by kernel_rfl) hgd1 (by rw [hlt']; exact (Nat.min_eq_right HM64.out).symm)
              (fun k v hv => by
                rw [Addr.add_mid, blk_cell hxd1, ← Array.getElem?_toList, List.toList_toArray, show 1 + k = k + 1 by omega, List.getElem?_cons_succ]
                simp only [nums, List.getElem?_map, List.getElem?_take] at hv ⊢
                split at hv
                · exact hv
                · simp at hv) (by rw [hlt']; have := HFit.out; have := HM64.out; omega) (nums_one _)
            rw [hlt'] at kcp
            replace kcp : (Builtin.copy_ #[88, 88] 3 #[.slice (some ⟨gs, a * 64, none⟩) tm 64, .slice (some ⟨gx, 1, none⟩) 64 64]).run Try.prog W1.drew = .ok (goInt tm) (W1.drew.setRow gs (patch curs1.toList (a * 64) (nums .u8 (b.take tm))).toArray) := by
              unfold patch
              rw [hlt']
              exact kcp
            have HT := Aside0.mk ((HA1.out.below (below_drew (Below.refl _ _))).tornS hgd1 HSG.out HB.out HM64.out)
            have HKT := Aside0.mk ((HK1.out.below (below_drew (Below.refl _ _))).setRow ((HA1.out.2.2.2.1).2 gs rfl) (patch curs1.toList (a * 64) (nums .u8 (b.take tm))).toArray)
            clear hlt' hgd1 hxd1
            have HF := Aside0.mk (show DiskAt (W1.drew.setRow gs (patch curs1.toList (a * 64) (nums .u8 (b.take tm))).toArray) (Nw S w) g { d1 with safe := foldR (kb keep) last tm d1.wr d1.safe (j + 1) } (.slice (some ⟨gs, 0, none⟩) d1.safe.length cs) (.slice (some ⟨gn, 0, none⟩) d1.now.length cn) (.slice (some ⟨gw, 0, none⟩) d1.wr.length cw) from by
              have h := HT.out
              rw [show ({ d1 with safe := foldR (kb keep) last tm d1.wr d1.safe j } : DS).safe.length = d1.safe.length from HSL.out] at h
              rw [HNX.out, HST.out]
              exact h)
            clear HT
            go_region
            all_goals go_wp2
            go_roundw
            case rel => exact ⟨j + 1, by go_num, HJT.out, HF, HKT⟩
            case measure => have := HJT.out; simp [intOf]; omega
          · have m1 : ((j : Int) == last) = false := by rw [beq_eq_false_iff_ne]; exact hjl
            by_cases hkk : (j : Int) < last
            · have m4 : decide ((j : Int) < last) = true := decide_eq_true hkk
              obtain ⟨i, hi⟩ := Int.eq_ofNat_of_zero_le (show 0 ≤ last by omega)
              have hks : j < keep.size := by have := (HLK.out i hi).1; omega
              have l3 : (j : Int) < (keep.size : Int) := by omega
              have hkb := kb_eq hks
              clear hi
              cases hk : (((keep[j]'hks).toNat : Int) != 0) with
              | true =>
                have HST := Aside0.mk (show stepR (kb keep) last tm (foldR (kb keep) last tm d1.wr d1.safe j) j ((a : Int), b) = (foldR (kb keep) last tm d1.wr d1.safe j).set a b by unfold stepR; rw [if_neg hjl, if_pos ⟨hkk, by rw [hkb, hk]⟩, Int.toNat_natCast])
                clear hjl hj hkk hkb
                go_wp2_with (first
                  | (refine wl_load124 rfl (.tmp 43) rfl rfl HRW.out H64.out ?_)
                  | (refine wl_alloc124 rfl rfl ?_)
                  | (refine wl_store124 (z := #[.int .i64 0] ++ zero64) rfl (.tmp 7) (.tmp 44) rfl rfl rfl rfl rfl (by rw [List.size_toArray, List.length_cons, nums_length, H64.out]) (all_oneCell_toArray (by intro u hu; rcases List.mem_cons.1 hu with rfl | hu; rfl; exact nums_one _ u hu)) ?_))
                have hB1 : Below wr.heap.size wr (wr.alloc (.cells (Value.int .i64 (a : Int) :: nums .u8 b).toArray 124)) := below_alloc (Below.refl _ _) _
                have HX1 := Aside0.mk (blk_new wr (.cells (Value.int .i64 (a : Int) :: nums .u8 b).toArray 124))
                have HA1 := Aside0.mk (HA'.out.below hB1)
                have HK1 := Aside0.mk (HK.out.below hB1)
                generalize wr.alloc (.cells (Value.int .i64 (a : Int) :: nums .u8 b).toArray 124) = W1 at *
                generalize wr.heap.size = gx at *
                obtain ⟨gs', cs', curs1, hvs, _, hgs1, hcn, _, hcz, _⟩ := HA1.out.2.2.2.1.form (by rw [HSL.out]; omega)
                injection hvs with hvs _ hcs
                injection hvs with hvs
                injection hvs with hvs
                subst hvs
                subst hcs
                have c0 : W1.cell? ⟨g, 0, none⟩ = some (.slice (some ⟨gs, 0, none⟩) d1.safe.length cs) := by rw [← HSL.out]; exact (blk_cell HA1.out.2.2.1 0).trans rfl
                have bx0 : W1.cell? ⟨gx, 0, none⟩ = some (.int .i64 (a : Int)) := (blk_cell HX1.out 0).trans rfl
                have HGS := Aside0.mk hgs1
                have HFit := Aside0.mk (show a * 64 + 64 ≤ curs1.size by rw [hcz]; have h1 := HAS.out; have h2 := HSL.out; have h3 : a + 1 ≤ cs := (by have h4 := hcn; rw [show ({ d1 with safe := foldR (kb keep) last tm d1.wr d1.safe j } : DS).safe.length = d1.safe.length from HSL.out] at h4; omega); have h5 := Nat.mul_le_mul_right 64 h3; omega)
                clear hB1 hgs1 hcn hcz
                have hgd1' := HGS.out
                have hxd1' := HX1.out
                have hgd1 : W1.drew.heap[gs]? = some (.cells curs1 122 (0, 0)) := HGS.out
                have hxd1 : W1.drew.heap[gx]? = some (.cells (Value.int .i64 (a : Int) :: nums .u8 b).toArray 124 (0, 0)) := HX1.out
                have hbl : (nums .u8 b).length = 64 := by rw [nums_length, H64.out]
                have hr122 : W1.rangeAt gx 1 (nums .u8 b) := fun k v hv => by
                  rw [blk_cell hxd1', ← Array.getElem?_toList, List.toList_toArray, show 1 + k = k + 1 by omega, List.getElem?_cons_succ]
                  exact hv
                have ht122 : W1.there gs (a * 64) 64 := there_of hgd1' HFit.out
                have hn1 : ∀ u ∈ nums .u8 b, u.oneCell' = true := nums_one _
                have HNE1 := Aside0.mk (show g ≠ gs from fun e => by have h := HA1.out.2.2.1; rw [e, hgd1'] at h; injection h with h; injection h with _ h _; cases h)
                have HNE2 := Aside0.mk (show gx ≠ gs from fun e => by have h := hxd1'; rw [e, hgd1'] at h; injection h with h; injection h with _ h _; cases h)
                have hu := under122
                have hi : (Try.prog.info? 122).map (·.size) = some (nums .u8 b).length := by rw [hbl]; exact size122
                have HSR := Aside0.mk (setCells_row hgd1 (show a * 64 + (nums .u8 b).length ≤ curs1.size by rw [hbl]; exact HFit.out) hn1)
                have HT := Aside0.mk ((HA1.out.below (below_drew (Below.refl _ _))).sectorS hgd1 (show a < ({ d1 with safe := foldR (kb keep) last tm d1.wr d1.safe j } : DS).safe.length from by rw [show ({ d1 with safe := foldR (kb keep) last tm d1.wr d1.safe j } : DS).safe.length = d1.safe.length from HSL.out]; exact HAS.out) HB.out)
                have HKT := Aside0.mk ((HK1.out.below (below_drew (Below.refl _ _))).setRow ((HA1.out.2.2.2.1).2 gs rfl) (patch curs1.toList (a * 64) (nums .u8 b)).toArray)
                clear hgd1 hxd1 hgd1' hxd1'
                have HF := Aside0.mk (show DiskAt (W1.drew.setRow gs (patch curs1.toList (a * 64) (nums .u8 b)).toArray) (Nw S w) g { d1 with safe := foldR (kb keep) last tm d1.wr d1.safe (j + 1) } (.slice (some ⟨gs, 0, none⟩) d1.safe.length cs) (.slice (some ⟨gn, 0, none⟩) d1.now.length cn) (.slice (some ⟨gw, 0, none⟩) d1.wr.length cw) from by
                  have h := HT.out
                  rw [show ({ d1 with safe := foldR (kb keep) last tm d1.wr d1.safe j } : DS).safe.length = d1.safe.length from HSL.out] at h
                  rw [HNX.out, HST.out]
                  exact h)
                clear HT
                go_region_held (fun w' => w'.cell? ⟨g, 0, none⟩ = some (.slice (some ⟨gs, 0, none⟩) d1.safe.length cs) ∧ w'.cell? ⟨gx, 0, none⟩ = some (.int .i64 (a : Int)) ∧ w'.rangeAt gx 1 (nums .u8 b) ∧ w'.there gs (a * 64) 64) (first | go_keep_ranges | exact ⟨by rw [World.cell?_setCells_out _ _ _ _ _ (fun hb _ => absurd hb HNE1.out)]; simpa using c0, by rw [World.cell?_setCells_out _ _ _ _ _ (fun hb _ => absurd hb HNE2.out)]; simpa using bx0, World.rangeAt_setCells_apart (by simpa using hr122) _ _ _ (.inl HNE2.out), World.there_setCells (by simpa using ht122) _ _ _⟩) (fail)
                all_goals go_wp2
                rw [HSR.out]
                go_roundw
                case rel => exact ⟨j + 1, by go_num, HJT.out, HF, HKT⟩
                case measure => have := HJT.out; simp [intOf]; omega
              | false =>
                have HST := Aside0.mk (show stepR (kb keep) last tm (foldR (kb keep) last tm d1.wr d1.safe j) j ((a : Int), b) = foldR (kb keep) last tm d1.wr d1.safe j by unfold stepR; rw [if_neg hjl, if_neg (fun h => by have h2 := h.2; rw [hkb, hk] at h2; cases h2)])
                clear hjl hj hkk hkb
                go_wp2_with (first
                  | (refine wl_load124 rfl (.tmp 43) rfl rfl HRW.out H64.out ?_)
                  | (refine wl_alloc124 rfl rfl ?_)
                  | (refine wl_store124 (z := #[.int .i64 0] ++ zero64) rfl (.tmp 7) (.tmp 44) rfl rfl rfl rfl rfl (by rw [List.size_toArray, List.length_cons, nums_length, H64.out]) (all_oneCell_toArray (by intro u hu; rcases List.mem_cons.1 hu with rfl | hu; rfl; exact nums_one _ u hu)) ?_))
                go_roundw
                case rel => exact ⟨j + 1, by go_num, HJT.out, Aside0.mk (by rw [HNX.out, HST.out]; exact HA.out.below (below_alloc (Below.refl _ _) _)), Aside0.mk (HK.out.below (below_alloc (Below.refl _ _) _))⟩
                case measure => have := HJT.out; simp [intOf]; omega
            · have m4 : decide ((j : Int) < last) = false := decide_eq_false hkk
              have HST := Aside0.mk (show stepR (kb keep) last tm (foldR (kb keep) last tm d1.wr d1.safe j) j ((a : Int), b) = foldR (kb keep) last tm d1.wr d1.safe j by unfold stepR; rw [if_neg hjl, if_neg (fun h => hkk h.1)])
              clear hjl hj hkk
              go_wp2_with (first
                | (refine wl_load124 rfl (.tmp 43) rfl rfl HRW.out H64.out ?_)
                | (refine wl_alloc124 rfl rfl ?_)
                | (refine wl_store124 (z := #[.int .i64 0] ++ zero64) rfl (.tmp 7) (.tmp 44) rfl rfl rfl rfl rfl (by rw [List.size_toArray, List.length_cons, nums_length, H64.out]) (all_oneCell_toArray (by intro u hu; rcases List.mem_cons.1 hu with rfl | hu; rfl; exact nums_one _ u hu)) ?_))
              go_roundw
              case rel => exact ⟨j + 1, by go_num, HJT.out, Aside0.mk (by rw [HNX.out, HST.out]; exact HA.out.below (below_alloc (Below.refl _ _) _)), Aside0.mk (HK.out.below (below_alloc (Below.refl _ _) _))⟩
              case measure => have := HJT.out; simp [intOf]; omega
        · have l1 : decide ((j : Int) < (d1.wr.length : Int)) = false := decide_eq_false (by omega)
          have l2 : decide (j < d1.wr.length) = false := decide_eq_false hlt
          have hfk : foldR (kb keep) last tm d1.wr d1.safe j = d1.kept keep := by rw [HKd.out, show j = d1.wr.length by omega]
          rw [hfk] at HA
          have hkl : (d1.kept keep).length = d1.safe.length := foldR_length _ _ _ _ _ _
          have hA3 := HA.out
          clear HA
          have c0 : wr.cell? ⟨g, 0, none⟩ = some (.slice (some ⟨gs, 0, none⟩) d1.safe.length cs) := (blk_cell hA3.2.2.1 0).trans rfl
          have hd3 : ∃ d3 : DS, d3 = { d1 with safe := d1.kept keep } := ⟨_, rfl⟩
          obtain ⟨d3, hd3⟩ := hd3
          rw [← hkl] at hA3
          replace hA3 : DiskAt wr (Nw S w) g d3 (.slice (some ⟨gs, 0, none⟩) d3.safe.length cs) (.slice (some ⟨gn, 0, none⟩) d3.now.length cn) (.slice Aw d3.wr.length cw) := by rw [hd3]; exact hA3
          have HRs := Aside0.mk (show d.restart keep = { safe := d3.safe, now := d3.safe, wr := [], armed := 0, down := false, falls := d3.falls } from by rw [HG.out.restart, hd3])
          rw [show d1.safe.length = d3.safe.length from by rw [hd3]; exact hkl.symm] at c0
          have HA3 := Aside0.mk hA3
          have HOw := Aside0.mk hA3.2.2.2.1
          have HOp : 0 < d3.safe.length := by have := hA3.1.pos; have := hA3.1.len; omega
          have HOl : d3.safe.length ≤ 4096 := by have := hA3.1.lim; have := hA3.1.len; omega
          clear hA3 hd3 hfk hkl HG HKd HTm HL3 HLK hlt hj HOk
          go_wp2_with (go_at_call 88; (with_reducible refine (clone_calls _ _ _ _ _ HOw.out HOp HOl (flat_one _)).mono ?_); rintro e w3 ⟨v', rfl, ho, hb3⟩; obtain ⟨A', c', rfl⟩ := ho.slice; have HO3 := Aside0.mk ho; have HB3 := Aside0.mk hb3; have b3 := (hb3.block g (blk_lt HA3.out.2.2.1)).trans HA3.out.2.2.1; have e1 := (blk_cell b3 1).trans rfl; have e2 := (blk_cell b3 2).trans rfl; have e3 := (blk_cell b3 3).trans rfl; have e4 := (blk_cell b3 4).trans rfl; have f1 := blk_frozen b3 1; have f2 := blk_frozen b3 2; have f3 := blk_frozen b3 3; have f4 := blk_frozen b3 4; clear ho hb3 b3)
          go_end0
          exact ⟨rfl, _, _, _, by rw [HRs.out]; exact (HA3.out.finish (w0 := w) HB3.out HO3.out HK.out.size).mono (fun k hk => hk.elim id .inr), ((((HK.out.below HB3.out).setCell (p := ⟨g, 1, none⟩) HA3.out.2.1 _).setCell (p := ⟨g, 2, none⟩) HA3.out.2.1 _).setCell (p := ⟨g, 4, none⟩) HA3.out.2.1 _).setCell (p := ⟨g, 3, none⟩) HA3.out.2.1 _⟩
set_option maxHeartbeats 16000000 in
set_option maxRecDepth 100000 in
theorem prestart_off (w : World) (S : Nat → Prop) (g : Nat) (d : DS) (vs vn vw : Value) (keep : ByteArray) (h0 : DiskAt w S g d vs vn vw) (hl : d.wr.length ≤ 1000000) (hf : d.falls ≤ 1000000) (hd : d.down = false) :
    Calls Try.prog 40 #[.pointer (some ⟨g, 0, none⟩), .string keep] w (PRs w S g d keep) := by
  obtain ⟨Aw, cw, hvw⟩ := h0.2.2.2.2.2.1.slice
  subst hvw
  obtain ⟨gs, cs, curs, hvs, _⟩ := h0.2.2.2.1.form (by have := h0.1.pos; have := h0.1.len; omega)
  subst hvs
  obtain ⟨gn, cn, curn, hvn, _⟩ := h0.2.2.2.2.1.form h0.1.pos
  subst hvn
  have H := Aside0.mk h0
  have HF := Aside0.mk hf
  have hb := h0.2.2.1
  have c4 : w.cell? ⟨g, 4, none⟩ = some (.bool d.down) := (blk_cell hb 4).trans rfl
  clear h0 hb hf
  rw [hd] at c4
  go_enter Try.func40, Try.ntmps40
  have hd1 : ∃ d1 : DS, d1 = d.off := ⟨_, rfl⟩
  obtain ⟨d1, hd1⟩ := hd1
  have HG := Aside0.mk (show Gone d d1 from by rw [hd1]; exact ⟨rfl, rfl, rfl, by rw [if_neg (by rw [hd]; simp)]; rfl⟩)
  have hoff := off_calls w S g d _ _ _ H.out HF.out
  rw [← hd1] at hoff
  rw [show d.wr.length = d1.wr.length from by rw [hd1]; rfl, show d.safe.length = d1.safe.length from by rw [hd1]; rfl, show d.now.length = d1.now.length from by rw [hd1]; rfl] at *
  have HO := Aside0.mk hoff
  clear hd1 hoff H
  go_wp2_with (go_at_call 89; (with_reducible refine HO.out.mono ?_); rintro e W1 ⟨rfl, hA, hK⟩; have HA := Aside0.mk hA; have HK := Aside0.mk hK; have c2 : W1.cell? ⟨g, 2, none⟩ = some (.slice Aw d1.wr.length cw) := (blk_cell hA.2.2.1 2).trans rfl; clear hA hK)
  clear c4 c2 hd HO
  go_loopw [4, 20] (fun v4 v20 W => ∃ j : Nat, v4 = .int .i64 (lastF (kb keep) j) ∧ v20 = .int .i64 (j : Int) ∧ j ≤ d1.wr.length ∧ Aside0 (DiskAt W S g d1 (.slice (some ⟨gs, 0, none⟩) d1.safe.length cs) (.slice (some ⟨gn, 0, none⟩) d1.now.length cn) (.slice Aw d1.wr.length cw)) ∧ Aside0 (Kp S w W)) (fun _ v _ => d1.wr.length - (intOf v).toNat)
  case atStart => exact ⟨0, rfl, rfl, Nat.zero_le _, HA, HK⟩
  case round =>
    clear HA HK
    obtain ⟨j, rfl, rfl, hj, HA, HK⟩ := hrel
    by_cases hlt : j < d1.wr.length
    · have l1 : decide ((j : Int) < (d1.wr.length : Int)) = true := decide_eq_true (by omega)
      have l2 : decide (j < d1.wr.length) = true := decide_eq_true hlt
      by_cases hks : j < keep.size
      · have l3 : decide ((j : Int) < (keep.size : Int)) = true := decide_eq_true (by omega)
        have l4 : decide (j < keep.size) = true := decide_eq_true hks
        have l5 : (j : Int) < (keep.size : Int) := by omega
        have hkb := kb_eq hks
        cases hk : (((keep[j]'hks).toNat : Int) != 0) with
        | true =>
          have HL := Aside0.mk (show lastF (kb keep) (j + 1) = (j : Int) by rw [lastF, if_pos (by rw [hkb, hk])])
          clear hkb
          go_wp2
          refine ⟨⟨j + 1, by rw [HL.out], rfl, hlt, HA, HK⟩, ?_⟩
          simp [intOf]
          omega
        | false =>
          have HL := Aside0.mk (show lastF (kb keep) (j + 1) = lastF (kb keep) j by rw [lastF, if_neg (by rw [hkb, hk]; simp)])
          clear hkb
          go_wp2
          refine ⟨⟨j + 1, by rw [HL.out], rfl, hlt, HA, HK⟩, ?_⟩
          simp [intOf]
          omega
      · have l3 : decide ((j : Int) < (keep.size : Int)) = false := decide_eq_false (by omega)
        have l4 : decide (j < keep.size) = false := decide_eq_false hks
        have HL := Aside0.mk (show lastF (kb keep) (j + 1) = lastF (kb keep) j by rw [lastF, if_neg (by rw [kb_out (by omega)]; simp)])
        go_wp2
        refine ⟨⟨j + 1, by rw [HL.out], rfl, hlt, HA, HK⟩, ?_⟩
        simp [intOf]
        omega
    · have l1 : decide ((j : Int) < (d1.wr.length : Int)) = false := decide_eq_false (by omega)
      have l2 : decide (j < d1.wr.length) = false := decide_eq_false hlt
      have HLast := Aside0.mk (show lastF (kb keep) j = d1.last keep by unfold DS.last; rw [show j = d1.wr.length by omega])
      have c2 : wr.cell? ⟨g, 2, none⟩ = some (.slice Aw d1.wr.length cw) := (blk_cell HA.out.2.2.1 2).trans rfl
      go_wp2
      rw [HLast.out]
      have hl3 := (lastF_lt (kb keep) d1.wr.length)
      have hlk : ∀ i : Nat, d1.last keep = (i : Int) → i < keep.size ∧ kb keep i = true := fun i hi => by
        have h := lastF_kept (kb keep) d1.wr.length i hi
        refine ⟨?_, h⟩
        rcases Nat.lt_or_ge i keep.size with h1 | h1
        · exact h1
        · rw [kb_out h1] at h; cases h
      have HLK := Aside0.mk hlk
      have HL3 : Aside0 (d1.last keep < d1.wr.length ∧ -1 ≤ d1.last keep) := Aside0.mk hl3
      have HKd := Aside0.mk (show d1.kept keep = foldR (kb keep) (d1.last keep) (tornN keep (d1.last keep)) d1.wr d1.safe d1.wr.length from rfl)
      have HOk := Aside0.mk HA.out.1
      clear hl3 hlk HLast
      generalize d1.last keep = last at *
      generalize htm : tornN keep last = tm at HKd
      have HTm := Aside0.mk htm
      clear htm hj hlt l1 l2
      go_loopw [40] (fun v W => ∃ j : Nat, v = .int .i64 (j : Int) ∧ j ≤ d1.wr.length ∧ Aside0 (DiskAt W (Nw S w) g { d1 with safe := foldR (kb keep) last tm d1.wr d1.safe j } (.slice (some ⟨gs, 0, none⟩) d1.safe.length cs) (.slice (some ⟨gn, 0, none⟩) d1.now.length cn) (.slice Aw d1.wr.length cw)) ∧ Aside0 (Kp S w W)) (fun v _ => d1.wr.length - (intOf v).toNat)
      case atStart => exact ⟨0, rfl, Nat.zero_le _, Aside0.mk (HA.out.mono fun k hk => .inl hk), HK⟩
      case round =>
        clear HA HK c2
        obtain ⟨j, rfl, hj, HA, HK⟩ := hrel
        by_cases hlt : j < d1.wr.length
        · have l1 : decide ((j : Int) < (d1.wr.length : Int)) = true := decide_eq_true (by omega)
          have l2 : decide (j < d1.wr.length) = true := decide_eq_true hlt
          have l5 : (j : Int) < (d1.wr.length : Int) := by omega
          have hOW : Own wr (Nw S w) 124 65 (.slice Aw d1.wr.length cw) d1.wr.length (wflat d1.wr) := HA.out.2.2.2.2.2.1
          obtain ⟨gw, cw', curw, hvw, _⟩ := hOW.form (by omega)
          injection hvw with hvw _ hcw
          subst hvw
          subst hcw
          obtain ⟨a, b, hab, han, hbs⟩ := HOk.out.nth hlt
          have hget : d1.wr[j]? = some ((a : Int), b) := by rw [List.getElem?_eq_getElem hlt, hab]
          have has : a < d1.safe.length := by rw [HOk.out.len]; exact han
          have hwl : ∀ y ∈ d1.wr, y.2.length = 64 := fun y hy => (HOk.out.wr y hy).2.2.1
          have hrw := wrange_of hOW hwl hget
          have HRW := Aside0.mk hrw
          have H64 := Aside0.mk hbs.1
          clear hrw hwl
          have HB := Aside0.mk hbs
          have HGet := Aside0.mk hget
          have HAS := Aside0.mk has
          clear hab han hbs hget has hOW
          have hsl : (foldR (kb keep) last tm d1.wr d1.safe j).length = d1.safe.length := foldR_length _ _ _ _ _ _
          obtain ⟨b0, hsg⟩ : ∃ b0, (foldR (kb keep) last tm d1.wr d1.safe j)[a]? = some b0 := ⟨_, List.getElem?_eq_getElem (by rw [hsl]; exact HAS.out)⟩
          have HSG := Aside0.mk hsg
          have HB0 := Aside0.mk (HA.out.1.safe b0 (List.mem_of_getElem? hsg))
          have hgd : d1.wr.getD j (0, []) = ((a : Int), b) := by rw [List.getD_eq_getElem?_getD, HGet.out]; rfl
          have HNX := Aside0.mk (show foldR (kb keep) last tm d1.wr d1.safe (j + 1) = stepR (kb keep) last tm (foldR (kb keep) last tm d1.wr d1.safe j) j ((a : Int), b) by rw [foldR, hgd])
          have HGA := Aside0.mk (show (foldR (kb keep) last tm d1.wr d1.safe j).getD a [] = b0 by rw [List.getD_eq_getElem?_getD, hsg]; rfl)
          have HW64 := Aside0.mk (show wr.heap.size = wr.heap.size from rfl)
          have hA' := HA.out
          rw [show Value.slice (some ⟨gs, 0, none⟩) d1.safe.length cs = Value.slice (some ⟨gs, 0, none⟩) ({ d1 with safe := foldR (kb keep) last tm d1.wr d1.safe j } : DS).safe.length cs from by rw [show ({ d1 with safe := foldR (kb keep) last tm d1.wr d1.safe j } : DS).safe.length = d1.safe.length from hsl]] at hA'
          have HA' := Aside0.mk hA'
          have HSL := Aside0.mk hsl
          have l6 : (a : Int) < (d1.safe.length : Int) := Int.ofNat_lt.2 HAS.out
          have HJT := Aside0.mk hlt
          clear hsl hsg hgd hA'
          by_cases hjl : (j : Int) = last
          · have m1 : ((j : Int) == last) = true := by rw [beq_iff_eq]; exact hjl
            have hks : j < keep.size := (HLK.out j hjl.symm).1
            have l3 : (j : Int) < (keep.size : Int) := by omega
            have HJL := Aside0.mk hjl
            have hm64 : tm ≤ 64 := by rw [← HTm.out]; exact tornN_le _ _
            have hmn := torn_eq hks
            rw [hjl, HTm.out] at hmn
            have m2 : 0 ≤ (tm : Int) := Int.natCast_nonneg tm
            have m3 : (tm : Int) ≤ 64 := Int.ofNat_le.2 hm64
            have HST := Aside0.mk (show stepR (kb keep) last tm (foldR (kb keep) last tm d1.wr d1.safe j) j ((a : Int), b) = (foldR (kb keep) last tm d1.wr d1.safe j).set a (tear b0 b tm) by unfold stepR; rw [if_pos HJL.out, Int.toNat_natCast, HGA.out])
            have HM64 := Aside0.mk hm64
            clear hjl hj hm64
            go_wp2_with (first
              | (refine wl_load124 rfl (.tmp 43) rfl rfl HRW.out H64.out ?_)
              | (refine wl_alloc124 rfl rfl ?_)
              | (refine wl_store124 (z := #[.int .i64 0] ++ zero64) rfl (.tmp 7) (.tmp 44) rfl rfl rfl rfl rfl (by rw [List.size_toArray, List.length_cons, nums_length, H64.out]) (all_oneCell_toArray (by intro u hu; rcases List.mem_cons.1 hu with rfl | hu; rfl; exact nums_one _ u hu)) ?_))
            have hB1 : Below wr.heap.size wr (wr.alloc (.cells (Value.int .i64 (a : Int) :: nums .u8 b).toArray 124)) := below_alloc (Below.refl _ _) _
            have HX1 := Aside0.mk (blk_new wr (.cells (Value.int .i64 (a : Int) :: nums .u8 b).toArray 124))
            have HA1 := Aside0.mk (HA'.out.below hB1)
            have HK1 := Aside0.mk (HK.out.below hB1)
            generalize wr.alloc (.cells (Value.int .i64 (a : Int) :: nums .u8 b).toArray 124) = W1 at *
            generalize wr.heap.size = gx at *
            obtain ⟨gs', cs', curs1, hvs, _, hgs1, hcn, _, hcz, _⟩ := HA1.out.2.2.2.1.form (by rw [HSL.out]; omega)
            injection hvs with hvs _ hcs
            injection hvs with hvs
            injection hvs with hvs
            subst hvs
            subst hcs
            have c0 : W1.cell? ⟨g, 0, none⟩ = some (.slice (some ⟨gs, 0, none⟩) d1.safe.length cs) := by rw [← HSL.out]; exact (blk_cell HA1.out.2.2.1 0).trans rfl
            have bx0 : W1.cell? ⟨gx, 0, none⟩ = some (.int .i64 (a : Int)) := (blk_cell HX1.out 0).trans rfl
            have HGS := Aside0.mk hgs1
            have HFit := Aside0.mk (show a * 64 + 64 ≤ curs1.size by rw [hcz]; have h1 := HAS.out; have h2 := HSL.out; have h3 : a + 1 ≤ cs := (by have h4 := hcn; rw [show ({ d1 with safe := foldR (kb keep) last tm d1.wr d1.safe j } : DS).safe.length = d1.safe.length from HSL.out] at h4; omega); have h5 := Nat.mul_le_mul_right 64 h3; omega)
            clear hB1 hgs1 hcn hcz
            have hlt' : (nums .u8 (b.take tm)).length = tm := by rw [nums_length, List.length_take, H64.out, Nat.min_eq_left HM64.out]
            have hgd1 : W1.drew.heap[gs]? = some (.cells curs1 122 (0, 0)) := HGS.out
            have hxd1 : W1.drew.heap[gx]? = some (.cells (Value.int .i64 (a : Int) :: nums .u8 b).toArray 124 (0, 0)) := HX1.out
            have kcp := run_copy_row (P := Try.prog) W1.drew 88 88 3 5 gs (a * 64) tm 64 ⟨gx, 1, none⟩ 64 64 curs1 122 (nums .u8 (b.take tm)) Try.underlying88 (by kernel_rfl) hgd1 (by rw [hlt']; exact (Nat.min_eq_right HM64.out).symm)
              (fun k v hv => by
                rw [Addr.add_mid, blk_cell hxd1, ← Array.getElem?_toList, List.toList_toArray, show 1 + k = k + 1 by omega, List.getElem?_cons_succ]
                simp only [nums, List.getElem?_map, List.getElem?_take] at hv ⊢
                split at hv
                · exact hv
                · simp at hv) (by rw [hlt']; have := HFit.out; have := HM64.out; omega) (nums_one _)
            rw [hlt'] at kcp
            replace kcp : (Builtin.copy_ #[88, 88] 3 #[.slice (some ⟨gs, a * 64, none⟩) tm 64, .slice (some ⟨gx, 1, none⟩) 64 64]).run Try.prog W1.drew = .ok (goInt tm) (W1.drew.setRow gs (patch curs1.toList (a * 64) (nums .u8 (b.take tm))).toArray) := by
              unfold patch
              rw [hlt']
              exact kcp
            have HT := Aside0.mk ((HA1.out.below (below_drew (Below.refl _ _))).tornS hgd1 HSG.out HB.out HM64.out)
            have HKT := Aside0.mk ((HK1.out.below (below_drew (Below.refl _ _))).setRow ((HA1.out.2.2.2.1).2 gs rfl) (patch curs1.toList (a * 64) (nums .u8 (b.take tm))).toArray)
            clear hlt' hgd1 hxd1
            have HF := Aside0.mk (show DiskAt (W1.drew.setRow gs (patch curs1.toList (a * 64) (nums .u8 (b.take tm))).toArray) (Nw S w) g { d1 with safe := foldR (kb keep) last tm d1.wr d1.safe (j + 1) } (.slice (some ⟨gs, 0, none⟩) d1.safe.length cs) (.slice (some ⟨gn, 0, none⟩) d1.now.length cn) (.slice (some ⟨gw, 0, none⟩) d1.wr.length cw) from by
              have h := HT.out
              rw [show ({ d1 with safe := foldR (kb keep) last tm d1.wr d1.safe j } : DS).safe.length = d1.safe.length from HSL.out] at h
              rw [HNX.out, HST.out]
              exact h)
            clear HT
            go_region
            all_goals go_wp2
            go_roundw
            case rel => exact ⟨j + 1, by go_num, HJT.out, HF, HKT⟩
            case measure => have := HJT.out; simp [intOf]; omega
          · have m1 : ((j : Int) == last) = false := by rw [beq_eq_false_iff_ne]; exact hjl
            by_cases hkk : (j : Int) < last
            · have m4 : decide ((j : Int) < last) = true := decide_eq_true hkk
              obtain ⟨i, hi⟩ := Int.eq_ofNat_of_zero_le (show 0 ≤ last by omega)
              have hks : j < keep.size := by have := (HLK.out i hi).1; omega
              have l3 : (j : Int) < (keep.size : Int) := by omega
              have hkb := kb_eq hks
              clear hi
              cases hk : (((keep[j]'hks).toNat : Int) != 0) with
              | true =>
                have HST := Aside0.mk (show stepR (kb keep) last tm (foldR (kb keep) last tm d1.wr d1.safe j) j ((a : Int), b) = (foldR (kb keep) last tm d1.wr d1.safe j).set a b by unfold stepR; rw [if_neg hjl, if_pos ⟨hkk, by rw [hkb, hk]⟩, Int.toNat_natCast])
                clear hjl hj hkk hkb
                go_wp2_with (first
                  | (refine wl_load124 rfl (.tmp 43) rfl rfl HRW.out H64.out ?_)
                  | (refine wl_alloc124 rfl rfl ?_)
                  | (refine wl_store124 (z := #[.int .i64 0] ++ zero64) rfl (.tmp 7) (.tmp 44) rfl rfl rfl rfl rfl (by rw [List.size_toArray, List.length_cons, nums_length, H64.out]) (all_oneCell_toArray (by intro u hu; rcases List.mem_cons.1 hu with rfl | hu; rfl; exact nums_one _ u hu)) ?_))
                have hB1 : Below wr.heap.size wr (wr.alloc (.cells (Value.int .i64 (a : Int) :: nums .u8 b).toArray 124)) := below_alloc (Below.refl _ _) _
                have HX1 := Aside0.mk (blk_new wr (.cells (Value.int .i64 (a : Int) :: nums .u8 b).toArray 124))
                have HA1 := Aside0.mk (HA'.out.below hB1)
                have HK1 := Aside0.mk (HK.out.below hB1)
                generalize wr.alloc (.cells (Value.int .i64 (a : Int) :: nums .u8 b).toArray 124) = W1 at *
                generalize wr.heap.size = gx at *
                obtain ⟨gs', cs', curs1, hvs, _, hgs1, hcn, _, hcz, _⟩ := HA1.out.2.2.2.1.form (by rw [HSL.out]; omega)
                injection hvs with hvs _ hcs
                injection hvs with hvs
                injection hvs with hvs
                subst hvs
                subst hcs
                have c0 : W1.cell? ⟨g, 0, none⟩ = some (.slice (some ⟨gs, 0, none⟩) d1.safe.length cs) := by rw [← HSL.out]; exact (blk_cell HA1.out.2.2.1 0).trans rfl
                have bx0 : W1.cell? ⟨gx, 0, none⟩ = some (.int .i64 (a : Int)) := (blk_cell HX1.out 0).trans rfl
                have HGS := Aside0.mk hgs1
                have HFit := Aside0.mk (show a * 64 + 64 ≤ curs1.size by rw [hcz]; have h1 := HAS.out; have h2 := HSL.out; have h3 : a + 1 ≤ cs := (by have h4 := hcn; rw [show ({ d1 with safe := foldR (kb keep) last tm d1.wr d1.safe j } : DS).safe.length = d1.safe.length from HSL.out] at h4; omega); have h5 := Nat.mul_le_mul_right 64 h3; omega)
                clear hB1 hgs1 hcn hcz
                have hgd1' := HGS.out
                have hxd1' := HX1.out
                have hgd1 : W1.drew.heap[gs]? = some (.cells curs1 122 (0, 0)) := HGS.out
                have hxd1 : W1.drew.heap[gx]? = some (.cells (Value.int .i64 (a : Int) :: nums .u8 b).toArray 124 (0, 0)) := HX1.out
                have hbl : (nums .u8 b).length = 64 := by rw [nums_length, H64.out]
                have hr122 : W1.rangeAt gx 1 (nums .u8 b) := fun k v hv => by
                  rw [blk_cell hxd1', ← Array.getElem?_toList, List.toList_toArray, show 1 + k = k + 1 by omega, List.getElem?_cons_succ]
                  exact hv
                have ht122 : W1.there gs (a * 64) 64 := there_of hgd1' HFit.out
                have hn1 : ∀ u ∈ nums .u8 b, u.oneCell' = true := nums_one _
                have HNE1 := Aside0.mk (show g ≠ gs from fun e => by have h := HA1.out.2.2.1; rw [e, hgd1'] at h; injection h with h; injection h with _ h _; cases h)
                have HNE2 := Aside0.mk (show gx ≠ gs from fun e => by have h := hxd1'; rw [e, hgd1'] at h; injection h with h; injection h with _ h _; cases h)
                have hu := under122
                have hi : (Try.prog.info? 122).map (·.size) = some (nums .u8 b).length := by rw [hbl]; exact size122
                have HSR := Aside0.mk (setCells_row hgd1 (show a * 64 + (nums .u8 b).length ≤ curs1.size by rw [hbl]; exact HFit.out) hn1)
                have HT := Aside0.mk ((HA1.out.below (below_drew (Below.refl _ _))).sectorS hgd1 (show a < ({ d1 with safe := foldR (kb keep) last tm d1.wr d1.safe j } : DS).safe.length from by rw [show ({ d1 with safe := foldR (kb keep) last tm d1.wr d1.safe j } : DS).safe.length = d1.safe.length from HSL.out]; exact HAS.out) HB.out)
                have HKT := Aside0.mk ((HK1.out.below (below_drew (Below.refl _ _))).setRow ((HA1.out.2.2.2.1).2 gs rfl) (patch curs1.toList (a * 64) (nums .u8 b)).toArray)
                clear hgd1 hxd1 hgd1' hxd1'
                have HF := Aside0.mk (show DiskAt (W1.drew.setRow gs (patch curs1.toList (a * 64) (nums .u8 b)).toArray) (Nw S w) g { d1 with safe := foldR (kb keep) last tm d1.wr d1.safe (j + 1) } (.slice (some ⟨gs, 0, none⟩) d1.safe.length cs) (.slice (some ⟨gn, 0, none⟩) d1.now.length cn) (.slice (some ⟨gw, 0, none⟩) d1.wr.length cw) from by
                  have h := HT.out
                  rw [show ({ d1 with safe := foldR (kb keep) last tm d1.wr d1.safe j } : DS).safe.length = d1.safe.length from HSL.out] at h
                  rw [HNX.out, HST.out]
                  exact h)
                clear HT
                go_region_held (fun w' => w'.cell? ⟨g, 0, none⟩ = some (.slice (some ⟨gs, 0, none⟩) d1.safe.length cs) ∧ w'.cell? ⟨gx, 0, none⟩ = some (.int .i64 (a : Int)) ∧ w'.rangeAt gx 1 (nums .u8 b) ∧ w'.there gs (a * 64) 64) (first | go_keep_ranges | exact ⟨by rw [World.cell?_setCells_out _ _ _ _ _ (fun hb _ => absurd hb HNE1.out)]; simpa using c0, by rw [World.cell?_setCells_out _ _ _ _ _ (fun hb _ => absurd hb HNE2.out)]; simpa using bx0, World.rangeAt_setCells_apart (by simpa using hr122) _ _ _ (.inl HNE2.out), World.there_setCells (by simpa using ht122) _ _ _⟩) (fail)
                all_goals go_wp2
                rw [HSR.out]
                go_roundw
                case rel => exact ⟨j + 1, by go_num, HJT.out, HF, HKT⟩
                case measure => have := HJT.out; simp [intOf]; omega
              | false =>
                have HST := Aside0.mk (show stepR (kb keep) last tm (foldR (kb keep) last tm d1.wr d1.safe j) j ((a : Int), b) = foldR (kb keep) last tm d1.wr d1.safe j by unfold stepR; rw [if_neg hjl, if_neg (fun h => by have h2 := h.2; rw [hkb, hk] at h2; cases h2)])
                clear hjl hj hkk hkb
                go_wp2_with (first
                  | (refine wl_load124 rfl (.tmp 43) rfl rfl HRW.out H64.out ?_)
                  | (refine wl_alloc124 rfl rfl ?_)
                  | (refine wl_store124 (z := #[.int .i64 0] ++ zero64) rfl (.tmp 7) (.tmp 44) rfl rfl rfl rfl rfl (by rw [List.size_toArray, List.length_cons, nums_length, H64.out]) (all_oneCell_toArray (by intro u hu; rcases List.mem_cons.1 hu with rfl | hu; rfl; exact nums_one _ u hu)) ?_))
                go_roundw
                case rel => exact ⟨j + 1, by go_num, HJT.out, Aside0.mk (by rw [HNX.out, HST.out]; exact HA.out.below (below_alloc (Below.refl _ _) _)), Aside0.mk (HK.out.below (below_alloc (Below.refl _ _) _))⟩
                case measure => have := HJT.out; simp [intOf]; omega
            · have m4 : decide ((j : Int) < last) = false := decide_eq_false hkk
              have HST := Aside0.mk (show stepR (kb keep) last tm (foldR (kb keep) last tm d1.wr d1.safe j) j ((a : Int), b) = foldR (kb keep) last tm d1.wr d1.safe j by unfold stepR; rw [if_neg hjl, if_neg (fun h => hkk h.1)])
              clear hjl hj hkk
              go_wp2_with (first
                | (refine wl_load124 rfl (.tmp 43) rfl rfl HRW.out H64.out ?_)
                | (refine wl_alloc124 rfl rfl ?_)
                | (refine wl_store124 (z := #[.int .i64 0] ++ zero64) rfl (.tmp 7) (.tmp 44) rfl rfl rfl rfl rfl (by rw [List.size_toArray, List.length_cons, nums_length, H64.out]) (all_oneCell_toArray (by intro u hu; rcases List.mem_cons.1 hu with rfl | hu; rfl; exact nums_one _ u hu)) ?_))
              go_roundw
              case rel => exact ⟨j + 1, by go_num, HJT.out, Aside0.mk (by rw [HNX.out, HST.out]; exact HA.out.below (below_alloc (Below.refl _ _) _)), Aside0.mk (HK.out.below (below_alloc (Below.refl _ _) _))⟩
              case measure => have := HJT.out; simp [intOf]; omega
        · have l1 : decide ((j : Int) < (d1.wr.length : Int)) = false := decide_eq_false (by omega)
          have l2 : decide (j < d1.wr.length) = false := decide_eq_false hlt
          have hfk : foldR (kb keep) last tm d1.wr d1.safe j = d1.kept keep := by rw [HKd.out, show j = d1.wr.length by omega]
          rw [hfk] at HA
          have hkl : (d1.kept keep).length = d1.safe.length := foldR_length _ _ _ _ _ _
          have hA3 := HA.out
          clear HA
          have c0 : wr.cell? ⟨g, 0, none⟩ = some (.slice (some ⟨gs, 0, none⟩) d1.safe.length cs) := (blk_cell hA3.2.2.1 0).trans rfl
          have hd3 : ∃ d3 : DS, d3 = { d1 with safe := d1.kept keep } := ⟨_, rfl⟩
          obtain ⟨d3, hd3⟩ := hd3
          rw [← hkl] at hA3
          replace hA3 : DiskAt wr (Nw S w) g d3 (.slice (some ⟨gs, 0, none⟩) d3.safe.length cs) (.slice (some ⟨gn, 0, none⟩) d3.now.length cn) (.slice Aw d3.wr.length cw) := by rw [hd3]; exact hA3
          have HRs := Aside0.mk (show d.restart keep = { safe := d3.safe, now := d3.safe, wr := [], armed := 0, down := false, falls := d3.falls } from by rw [HG.out.restart, hd3])
          rw [show d1.safe.length = d3.safe.length from by rw [hd3]; exact hkl.symm] at c0
          have HA3 := Aside0.mk hA3
          have HOw := Aside0.mk hA3.2.2.2.1
          have HOp : 0 < d3.safe.length := by have := hA3.1.pos; have := hA3.1.len; omega
          have HOl : d3.safe.length ≤ 4096 := by have := hA3.1.lim; have := hA3.1.len; omega
          clear hA3 hd3 hfk hkl HG HKd HTm HL3 HLK hlt hj HOk
          go_wp2_with (go_at_call 88; (with_reducible refine (clone_calls _ _ _ _ _ HOw.out HOp HOl (flat_one _)).mono ?_); rintro e w3 ⟨v', rfl, ho, hb3⟩; obtain ⟨A', c', rfl⟩ := ho.slice; have HO3 := Aside0.mk ho; have HB3 := Aside0.mk hb3; have b3 := (hb3.block g (blk_lt HA3.out.2.2.1)).trans HA3.out.2.2.1; have e1 := (blk_cell b3 1).trans rfl; have e2 := (blk_cell b3 2).trans rfl; have e3 := (blk_cell b3 3).trans rfl; have e4 := (blk_cell b3 4).trans rfl; have f1 := blk_frozen b3 1; have f2 := blk_frozen b3 2; have f3 := blk_frozen b3 3; have f4 := blk_frozen b3 4; clear ho hb3 b3)
          go_end0
          exact ⟨rfl, _, _, _, by rw [HRs.out]; exact (HA3.out.finish (w0 := w) HB3.out HO3.out HK.out.size).mono (fun k hk => hk.elim id .inr), ((((HK.out.below HB3.out).setCell (p := ⟨g, 1, none⟩) HA3.out.2.1 _).setCell (p := ⟨g, 2, none⟩) HA3.out.2.1 _).setCell (p := ⟨g, 4, none⟩) HA3.out.2.1 _).setCell (p := ⟨g, 3, none⟩) HA3.out.2.1 _⟩
theorem prestart_calls (w : World) (S : Nat → Prop) (g : Nat) (d : DS) (vs vn vw : Value) (keep : ByteArray) (h0 : DiskAt w S g d vs vn vw) (hl : d.wr.length ≤ 1000000) (hf : d.falls ≤ 1000000) :
    Calls Try.prog 40 #[.pointer (some ⟨g, 0, none⟩), .string keep] w (PRs w S g d keep) := by
  cases hd : d.down with
  | true => exact prestart_on w S g d vs vn vw keep h0 hl hf hd
  | false => exact prestart_off w S g d vs vn vw keep h0 hl hf hd
end Go.Proofs.Ytkedodmlbepfnaa.Lg

-- from the working text Pr
set_option linter.unusedSimpArgs false
set_option linter.unusedVariables false
namespace Go.Proofs.Ytkedodmlbepfnaa.Lg
open Go.RowKit Go.Proofs.YtkedodmlbepfnaaW.PrintWords Go.Proofs.YtkedodmlbepfnaaW.PrintLast Go.Proofs.YtkedodmlbepfnaaW.PrintMore Go.Proofs.Ytkedodmlbepfnaa.Rg
/-- The bytes of a sector as a string. -/
theorem conv_sect {w : World} {gn o : Nat} {b : List Int} (hb : b.length = 64) (h : w.rangeAt gn o (nums .u8 b)) :
    (convert 88 9 (.slice (some ⟨gn, o, none⟩) 64 64)).run Try.prog w = .ok (.string (strOfNums b)) w := by
  refine run_convert_bytes_arg w 88 5 Try.underlying88 (by kernel_rfl) gn o 64 64 b hb (fun j hj => ?_) 9 (by kernel_rfl)
  refine h j _ ?_
  simp only [nums, List.getElem?_map, List.getElem?_eq_getElem (show j < b.length by omega), Option.map_some, List.getD_eq_getElem?_getD, Option.getD_some]
set_option maxHeartbeats 4000000 in
set_option maxRecDepth 100000 in
theorem pread_calls (w : World) (S : Nat → Prop) (g : Nat) (d : DS) (vs vn vw : Value) (i : Int) (h0 : DiskAt w S g d vs vn vw) :
    Calls Try.prog 36 #[.pointer (some ⟨g, 0, none⟩), .int .i64 i] w fun e w' => e = .returned (.tuple #[.string (d.read i).1, .int .i64 (d.read i).2]) ∧ Drawn0 w w' := by
  have H := Aside0.mk h0
  by_cases hc : d.check i = 0
  · obtain ⟨hdn, hi0, hi1⟩ := DS.check_zero hc
    obtain ⟨i, rfl⟩ := Int.eq_ofNat_of_zero_le hi0
    have hin : i < d.now.length := by omega
    have hE := Aside0.mk (show d.read (i : Int) = (strOfNums (d.now.getD i []), 0) by unfold DS.read; rw [if_pos hc, Int.toNat_natCast])
    have HC := Aside0.mk hc
    have hl := h0.1.lim
    obtain ⟨gn, c, cur, hvn, hSgn, hgn, hnc, hcm, hcs, hct⟩ := h0.2.2.2.2.1.form (by omega)
    subst hvn
    have hb := h0.2.2.1
    have hget : d.now[i]? = some (d.now.getD i []) := by rw [List.getD_eq_getElem?_getD, List.getElem?_eq_getElem hin, Option.getD_some]
    have hbs : Sect (d.now.getD i []) := h0.1.now _ (List.mem_of_getElem? hget)
    have hr : w.rangeAt gn (i * 64) (nums .u8 (d.now.getD i [])) := range_of h0.2.2.2.2.1 (fun x hx => (h0.1.now x hx).1) hget hbs.1 rfl
    have kc : ∀ nd : Nat, (convert 88 9 (.slice (some ⟨gn, i * 64, none⟩) 64 64)).run Try.prog (w.drewN nd) = .ok (.string (strOfNums (d.now.getD i []))) (w.drewN nd) := fun nd => conv_sect hbs.1 (fun j v hj => by
      have := hr j v hj
      unfold World.cell? at this ⊢
      rw [World.heap_drewN]
      exact this)
    have c1 : w.cell? ⟨g, 1, none⟩ = some (.slice (some ⟨gn, 0, none⟩) d.now.length c) := (blk_cell hb 1).trans rfl
    generalize d.now.getD i [] = b at hE kc
    clear h0 hb hc hdn hi0 hcm hcs hct hget hbs hr hgn hSgn
    go_enter Try.func36, Try.ntmps36
    go_wp2_with (go_at_call 85; (with_reducible refine (check_calls _ S g d vs _ vw (i : Int) H.out).mono ?_); rintro e w' ⟨rfl, ⟨nd, rfl⟩⟩; simp only [HC.out])
    go_ret2
    exact ⟨by rw [hE.out]; rfl, by repeat (first | exact Drawn0.refl _ | exact ⟨nd, rfl⟩ | apply Drawn0.step)⟩
  · have hE := Aside0.mk (show d.read i = (⟨#[]⟩, d.check i) by unfold DS.read; rw [if_neg hc])
    have hq : (d.check i != 0) = true := by simp [hc]
    clear h0
    go_enter Try.func36, Try.ntmps36
    go_wp2_with (go_at_call 85; (with_reducible refine (check_calls _ S g d vs _ vw i H.out).mono ?_); rintro e w' ⟨rfl, ⟨nd, rfl⟩⟩)
    go_ret2
    exact ⟨by rw [hE.out]; rfl, by repeat (first | exact Drawn0.refl _ | exact ⟨nd, rfl⟩ | apply Drawn0.step)⟩
end Go.Proofs.Ytkedodmlbepfnaa.Lg

-- from the working text Qd
set_option linter.unusedSimpArgs false
set_option linter.unusedVariables false
namespace Go.Proofs.Ytkedodmlbepfnaa.Lg
open Go.RowKit Go.Proofs.YtkedodmlbepfnaaW.PrintWords Go.Proofs.YtkedodmlbepfnaaW.PrintLast Go.Proofs.YtkedodmlbepfnaaW.PrintMore Go.Proofs.Ytkedodmlbepfnaa.Rg
set_option maxHeartbeats 8000000 in
set_option maxRecDepth 100000 in
theorem alike_calls (w : World) (S T : Nat → Prop) (g g2 : Nat) (d : DS) (vs vn vw us un uw : Value) (h1 : DiskAt w S g d vs vn vw) (h2 : RAt w T g2 d us un uw) :
    Calls Try.prog 46 #[.pointer (some ⟨g, 0, none⟩), .pointer (some ⟨g2, 0, none⟩)] w fun e w' => e = .returned (.bool true) ∧ Drawn0 w w' := by
  have H1 := Aside0.mk h1
  have H2 := Aside0.mk h2
  have hlim : d.now.length ≤ 4096 := h1.1.lim
  have q1 : (!d.down != !d.down) = false := by simp
  clear h1 h2
  go_enter Try.func46, Try.ntmps46
  go_wp2_with (first
    | (go_at_call 44; (with_reducible refine (sectors_calls _ S g d vs vn vw (by exact H1.out.below (by repeat (first | exact Below.refl _ _ | apply pw_below_drewN | apply below_drew)))).mono ?_); rintro e w' ⟨rfl, ⟨nd, rfl⟩⟩)
    | (go_at_call 45; (with_reducible refine (rsectors_calls _ T g2 d us un uw (by exact H2.out.below (by repeat (first | exact Below.refl _ _ | apply pw_below_drewN | apply below_drew)))).mono ?_); rintro e w' ⟨rfl, ⟨nd, rfl⟩⟩)
    | (go_at_call 42; (with_reducible refine (up_calls _ S g d vs vn vw (by exact H1.out.below (by repeat (first | exact Below.refl _ _ | apply pw_below_drewN | apply below_drew)))).mono ?_); rintro e w' ⟨rfl, ⟨nd, rfl⟩⟩)
    | (go_at_call 43; (with_reducible refine (rup_calls _ T g2 d us un uw (by exact H2.out.below (by repeat (first | exact Below.refl _ _ | apply pw_below_drewN | apply below_drew)))).mono ?_); rintro e w' ⟨rfl, ⟨nd, rfl⟩⟩))
  go_loopw [24] (fun v W => ∃ j : Nat, v = .int .i64 (j : Int) ∧ j ≤ d.now.length ∧ Aside0 (Drawn0 w W)) (fun v _ => d.now.length - (intOf v).toNat)
  case atStart => exact ⟨0, rfl, Nat.zero_le _, ⟨by repeat (first | exact Drawn0.refl _ | apply Drawn0.step)⟩⟩
  case round =>
    obtain ⟨j, rfl, hj, HD⟩ := hrel
    by_cases hlt : j < d.now.length
    · have l1 : decide ((j : Int) < (d.now.length : Int)) = true := decide_eq_true (by omega)
      have l2 : decide (j < d.now.length) = true := decide_eq_true hlt
      have H1' := Aside0.mk (H1.out.below HD.out.below)
      have H2' := Aside0.mk (H2.out.below HD.out.below)
      clear H1 H2
      have HJ := Aside0.mk hlt
      generalize hr : d.read (j : Int) = r at *
      have HR := Aside0.mk hr
      obtain ⟨s, n⟩ := r
      clear hr
      go_wp2_with (first
        | (go_at_call 36; (with_reducible refine (pread_calls _ S g d vs vn vw (j : Int) (by exact H1'.out.below (by repeat (first | exact Below.refl _ _ | apply pw_below_drewN | apply below_drew)))).mono ?_); rintro e w' ⟨rfl, ⟨nd, rfl⟩⟩; simp only [HR.out])
        | (go_at_call 37; (with_reducible refine (rread_calls _ T g2 d us un uw (j : Int) (by exact H2'.out.below (by repeat (first | exact Below.refl _ _ | apply pw_below_drewN | apply below_drew)))).mono ?_); rintro e w' ⟨rfl, ⟨nd, rfl⟩⟩; simp only [HR.out]))
      go_roundw
      case rel => exact ⟨j + 1, by go_num, HJ.out, ⟨by repeat (first | exact HD.out | apply Drawn0.step)⟩⟩
      case measure => simp [intOf]; omega
    · have l1 : decide ((j : Int) < (d.now.length : Int)) = false := decide_eq_false (by omega)
      have l2 : decide (j < d.now.length) = false := decide_eq_false hlt
      go_wp2
      go_ret
      exact ⟨rfl, by repeat (first | exact HD.out | apply Drawn0.step)⟩
end Go.Proofs.Ytkedodmlbepfnaa.Lg

-- from the working text Rn
set_option linter.unusedSimpArgs false
set_option linter.unusedVariables false
namespace Go.Proofs.Ytkedodmlbepfnaa.Lg
open Go.RowKit Go.Proofs.YtkedodmlbepfnaaW.PrintWords Go.Proofs.YtkedodmlbepfnaaW.PrintLast Go.Proofs.YtkedodmlbepfnaaW.PrintMore Go.Proofs.Ytkedodmlbepfnaa.Rg
theorem info9 : (Try.prog.info? 9).map (fun i => (i.zero, i.size, i.bytes)) = some (some (.string ⟨#[]⟩), 1, 16) := by kernel_rfl
theorem append9_ {ops : Array Oper} {Q : Exit → Act → World → Prop} {oi : Oper} {N : Option Tmp} {a : Act} {w : World} {K : Act → World → Prop} {S : Nat → Prop} {s x : Operand} {v : Value} {n gl : Nat} {xs cs : List Value} (hw : Region.wanted oi (yielded ops a.tmps) = true) (hN : oi.dst = N)
    (hop : oi.op = .call { callee := .builtin .append, args := #[s, x], argTypes := #[78, 78] })
    (hs : a.eval s = v) (hx : a.eval x = .slice (some ⟨gl, 0, none⟩) 1 1) (h : Own w S 9 1 v n xs) (hl : w.heap[gl]? = some (.cells cs.toArray 9 (0, 0))) (hc : cs.length = 1) (h1 : ∀ u ∈ cs, u.oneCell' = true) (hn : n ≤ 1000000)
    (hk : ∀ v' w', Own w' (Nw S w) 9 1 v' (n + 1) (xs ++ cs) → w.grownBy w' v.ownBlock → K (a.put N v') w') : if Region.wanted oi (yielded ops a.tmps) = true then Oper.wp Try.prog oi a w K Q else K (a.put N undef) w := by
  obtain ⟨i0, hi, hz0, hz1, hz2⟩ := info_parts info9
  obtain ⟨v', w', hrun, hown, hg, _, hb⟩ := run_append_own_at (P := Try.prog) w 0 78 oi.type 9 i0 _ 1 16 Try.underlying78 hi hz0 hz1 hz2 rfl (by omega) v n xs h.1 ⟨gl, 0, none⟩ 1 1 cs (by omega)
    (by
      intro j u hu
      rw [Addr.add_mid, Nat.zero_add, blk_cell hl j, List.getElem?_toArray]
      exact hu) h1 (by simp only [maxLen]; omega) (by omega) (Nat.zero_le _)
  refine value_ hw hN ?_ (hk v' w' ⟨hown, fun k hk => ?_⟩ hg)
  · unfold execOp
    simp only [hop, resolve, invoke, builtin, Sem.run_bind, Sem.run_pure, Result.andThen_ok, List.map_toArray, List.map_cons, List.map_nil, hs, hx, hrun]
  · rcases hb with hb | hb
    · exact .inl (h.2 k (hb ▸ hk))
    · rw [hb] at hk
      injection hk with hk
      exact .inr (by omega)
theorem size78 : (Try.prog.info? 78).map (·.size) = some 1 := by kernel_rfl
theorem rzeros_calls (w : World) : Calls Try.prog 84 #[] w fun e w' => e = .returned (sstr zsec) ∧ Below w.heap.size w w' := acreageref09_zeros.calls (strOfNums (List.replicate 64 0)) w (by unfold acreageref09_zeros.f; rw [if_pos (by decide)])
def zs (n : Nat) : List Value := strs (List.replicate n zsec)
theorem zs_succ (n : Nat) : zs n ++ [sstr zsec] = zs (n + 1) := by unfold zs strs; rw [List.replicate_succ', List.map_append]; rfl
def nCells (vs vn : Value) : Array Value := #[vs, vn, .slice none 0 0, .bool true, .int .i64 0, .int .i64 0]
/-- A disk that is being made. -/
def NAt (w W : World) (g : Nat) (vs vn : Value) (a b : Nat) : Prop :=
  w.heap.size ≤ g ∧ W.heap[g]? = some (.cells (nCells vs vn) 118 (0, 0)) ∧ Own W (fun k => w.heap.size ≤ k) 9 1 vs a (zs a) ∧ Own W (fun k => w.heap.size ≤ k) 9 1 vn b (zs b) ∧ (vs.ownBlock = none ∨ vs.ownBlock ≠ vn.ownBlock) ∧ Below w.heap.size w W
theorem NAt.below {w W W' : World} {g : Nat} {vs vn : Value} {a b : Nat} (h : NAt w W g vs vn a b) (hb : Below W.heap.size W W') : NAt w W' g vs vn a b := by
  obtain ⟨h1, h2, h3, h4, h5, h6⟩ := h
  exact ⟨h1, (hb.block g (blk_lt h2)).trans h2, own_later h3 hb, own_later h4 hb, h5, h6.trans (hb.mono h6.size)⟩
theorem Own.blk_old {w : World} {S : Nat → Prop} {e : TypeId} {size n : Nat} {v : Value} {xs : List Value} (h : Own w S e size v n xs) (k : Nat) (hk : v.ownBlock = some k) : k < w.heap.size := by
  obtain ⟨c, hc⟩ := own_typed h.1 k hk
  exact blk_lt hc
theorem grown_below' {w W W' : World} {row : Option Nat} (h : Below w.heap.size w W) (hg : W.grownBy W' row) (hr : ∀ k, row = some k → w.heap.size ≤ k) : Below w.heap.size w W' :=
  (Kp.of_grown (S := fun k => w.heap.size ≤ k) (Kp.of_below _ h) hg (fun k e => .inl (hr k e))).to_below (fun k hk => hk) (Nat.le_refl _)
def NMid (f : Nat) (w : World) (g : Nat) (vs vn : Value) (a b : Nat) (v : Value) (W : World) : Prop :=
  w.heap.size ≤ g ∧ W.heap[g]? = some (.cells (nCells vs vn) 118 (0, 0)) ∧ Own W (fun k => w.heap.size ≤ k) 9 1 v (if f = 0 then a + 1 else b + 1) (zs (if f = 0 then a + 1 else b + 1)) ∧
  Own W (fun k => w.heap.size ≤ k) 9 1 (if f = 0 then vn else vs) (if f = 0 then b else a) (zs (if f = 0 then b else a)) ∧ (v.ownBlock = none ∨ v.ownBlock ≠ (if f = 0 then vn else vs).ownBlock) ∧ Below w.heap.size w W
theorem NAt.mid0 {w W W' : World} {g a b : Nat} {vs vn v : Value} (h : NAt w W g vs vn a b) (ho : Own W' (Nw (fun k => vs.ownBlock = some k) W) 9 1 v (a + 1) (zs a ++ [sstr zsec])) (hg : W.grownBy W' vs.ownBlock) : NMid 0 w g vs vn a b v W' := by
  obtain ⟨h1, h2, h3, h4, h5, h6⟩ := h
  rw [zs_succ] at ho
  refine ⟨h1, (hg.block g (blk_lt h2) (fun e => h3.type_ne h2 (by decide) e.symm)).trans h2, ho.mono fun k hk => hk.elim (fun e => h3.2 k e) (fun e => Nat.le_trans h6.size e), h4.grown hg (h5.imp id fun h => fun e => h e.symm), ?_, grown_below' h6 hg (fun k e => h3.2 k e)⟩
  cases hv : v.ownBlock with
  | none => exact .inl rfl
  | some k =>
    refine .inr fun e => ?_
    simp only [if_true] at e
    rcases ho.2 k hv with h7 | h7
    · rcases h5 with h5 | h5
      · rw [h5] at h7; cases h7
      · exact h5 (h7.trans e)
    · have := h4.blk_old k e.symm
      omega
theorem NAt.mid1 {w W W' : World} {g a b : Nat} {vs vn v : Value} (h : NAt w W g vs vn a b) (ho : Own W' (Nw (fun k => vn.ownBlock = some k) W) 9 1 v (b + 1) (zs b ++ [sstr zsec])) (hg : W.grownBy W' vn.ownBlock) : NMid 1 w g vs vn a b v W' := by
  obtain ⟨h1, h2, h3, h4, h5, h6⟩ := h
  rw [zs_succ] at ho
  refine ⟨h1, (hg.block g (blk_lt h2) (fun e => h4.type_ne h2 (by decide) e.symm)).trans h2, ho.mono fun k hk => hk.elim (fun e => h4.2 k e) (fun e => Nat.le_trans h6.size e), h3.grown hg ?_, ?_, grown_below' h6 hg (fun k e => h4.2 k e)⟩
  · cases hv : vn.ownBlock with
    | none => exact .inl rfl
    | some k =>
      refine .inr ?_
      show vs.ownBlock ≠ some k
      rcases h5 with h5 | h5
      · rw [h5]; simp
      · rw [← hv]; exact h5
  · cases hv : v.ownBlock with
    | none => exact .inl rfl
    | some k =>
      refine .inr fun e => ?_
      replace e : some k = vs.ownBlock := e
      rcases ho.2 k hv with h7 | h7
      · rcases h5 with h5 | h5
        · rw [h5] at e; cases e
        · exact h5 (e.symm.trans h7.symm)
      · have := h3.blk_old k e.symm
        omega
theorem NMid.store0 {w W : World} {g a b : Nat} {vs vn v : Value} (h : NMid 0 w g vs vn a b v W) : NAt w (W.setCell ⟨g, 0, none⟩ v) g v vn (a + 1) b := by
  obtain ⟨h1, h2, h3, h4, h5, h6⟩ := h
  have h3' : Own W (fun k => w.heap.size ≤ k) 9 1 v (a + 1) (zs (a + 1)) := h3
  have h4' : Own W (fun k => w.heap.size ≤ k) 9 1 vn b (zs b) := h4
  exact ⟨h1, by rw [blk_set h2]; rfl, h3'.setCell (h3'.type_ne h2 (by decide)) _, h4'.setCell (h4'.type_ne h2 (by decide)) _, h5, ((Kp.of_below (fun k => k = g) h6).setCell (p := ⟨g, 0, none⟩) (.inl rfl) _).to_below (fun k hk => hk ▸ h1) (Nat.le_refl _)⟩
theorem NMid.store1 {w W : World} {g a b : Nat} {vs vn v : Value} (h : NMid 1 w g vs vn a b v W) : NAt w (W.setCell ⟨g, 1, none⟩ v) g vs v a (b + 1) := by
  obtain ⟨h1, h2, h3, h4, h5, h6⟩ := h
  have h3' : Own W (fun k => w.heap.size ≤ k) 9 1 v (b + 1) (zs (b + 1)) := h3
  have h4' : Own W (fun k => w.heap.size ≤ k) 9 1 vs a (zs a) := h4
  refine ⟨h1, by rw [blk_set h2]; rfl, h4'.setCell (h4'.type_ne h2 (by decide)) _, h3'.setCell (h3'.type_ne h2 (by decide)) _, ?_, ((Kp.of_below (fun k => k = g) h6).setCell (p := ⟨g, 1, none⟩) (.inl rfl) _).to_below (fun k hk => hk ▸ h1) (Nat.le_refl _)⟩
  have h5' : v.ownBlock = none ∨ v.ownBlock ≠ vs.ownBlock := h5
  cases hs : vs.ownBlock with
  | none => exact .inl rfl
  | some k =>
    refine .inr ?_
    rcases h5' with h5' | h5'
    · rw [h5']; simp
    · rw [← hs]; exact fun e => h5' e.symm
def nRel (g f : Nat) (vf : Value) : Nat → Value → World → Prop
  | 0, v, _ => v = .pointer (some ⟨g, 0, none⟩)
  | 1, v, _ => v = .pointer (some ⟨g, 0, none⟩)
  | 2, v, _ => v = .pointer (some ⟨g, 0, none⟩)
  | 3, v, _ => v = .pointer (some ⟨g, f, none⟩)
  | 4, v, _ => v = vf
  | 5, v, _ => v = sstr zsec
  | 6, v, w => ∃ gl, v = .slice (some ⟨gl, 0, none⟩) 1 1 ∧ w.heap[gl]? = some (.cells [sstr zsec].toArray 9 (0, 0))
  | 8, v, _ => v = .pointer (some ⟨g, 0, none⟩)
  | 9, v, _ => v = .pointer (some ⟨g, f, none⟩)
  | _, _, _ => True
def nSt (g f : Nat) : Nat → Value → Prop
  | 0, v => v = .pointer (some ⟨g, 0, none⟩)
  | 8, v => v = .pointer (some ⟨g, 0, none⟩)
  | 9, v => v = .pointer (some ⟨g, f, none⟩)
  | _, _ => True
theorem nRel_stable (g f : Nat) (vf : Value) (j : Nat) (v : Value) (w w' : World) (h : nRel g f vf j v w) (hb : Below w.heap.size w w') : nRel g f vf j v w' := by
  revert h
  unfold nRel
  split <;> intro h <;> first | exact h | (obtain ⟨gl, h1, h2⟩ := h; exact ⟨gl, h1, (hb.block gl (blk_lt h2)).trans h2⟩)
theorem nRel_st (g f : Nat) (vf : Value) (j : Nat) (v : Value) (w : World) (h : nRel g f vf j v w) : nSt g f j v := by
  unfold nSt
  split <;> first | exact h | trivial
theorem bad_new (n : Int) (h : n < 1 ∨ 4096 < n) (w : World) : Calls Try.prog 29 #[.int .i64 n] w fun e w' => e = .returned (.tuple #[.pointer none, .int .i64 1]) ∧ Below w.heap.size w w' := by
  by_cases h1 : n < 1
  · have b1 : decide (n < 1) = true := decide_eq_true h1
    go_enter Try.func29, Try.ntmps29
    go_wp2
    go_ret2
    exact ⟨rfl, by repeat (first | exact Below.refl _ _ | apply below_drew | apply pw_below_drewN | apply below_drew1)⟩
  · have b1 : decide (n < 1) = false := decide_eq_false h1
    have b2 : decide (4096 < n) = true := decide_eq_true (by omega)
    go_enter Try.func29, Try.ntmps29
    go_wp2
    go_ret2
    exact ⟨rfl, by repeat (first | exact Below.refl _ _ | apply below_drew | apply pw_below_drewN | apply below_drew1)⟩
theorem rbad_new (n : Int) (h : n < 1 ∨ 4096 < n) (w : World) : Calls Try.prog 30 #[.int .i64 n] w fun e w' => e = .returned (.tuple #[.pointer none, .int .i64 1]) ∧ Below w.heap.size w w' := by
  by_cases h1 : n < 1
  · have b1 : decide (n < 1) = true := decide_eq_true h1
    go_enter Try.func30, Try.ntmps30
    go_wp2
    go_ret2
    exact ⟨rfl, by repeat (first | exact Below.refl _ _ | apply below_drew | apply pw_below_drewN | apply below_drew1)⟩
  · have b1 : decide (n < 1) = false := decide_eq_false h1
    have b2 : decide (4096 < n) = true := decide_eq_true (by omega)
    go_enter Try.func30, Try.ntmps30
    go_wp2
    go_ret2
    exact ⟨rfl, by repeat (first | exact Below.refl _ _ | apply below_drew | apply pw_below_drewN | apply below_drew1)⟩
def RNew (w : World) (n : Nat) (e : Ending) (w' : World) : Prop := ∃ g vs vn vw, e = .returned (.tuple #[.pointer (some ⟨g, 0, none⟩), .int .i64 0]) ∧ RAt w' (fun k => w.heap.size ≤ k) g (DS.new n) vs vn vw ∧ Below w.heap.size w w'
set_option maxHeartbeats 8000000 in
set_option maxRecDepth 100000 in
theorem rnew_calls (n : Nat) (w : World) (h1 : 1 ≤ n) (h2 : n ≤ 4096) : Calls Try.prog 30 #[.int .i64 (n : Int)] w (RNew w n) := by
  have b1 : decide ((n : Int) < 1) = false := decide_eq_false (by omega)
  have b1' : decide (n < 1) = false := decide_eq_false (by omega)
  have b1'' : (n == 0) = false := by rw [beq_eq_false_iff_ne]; omega
  have b2 : decide ((4096 : Int) < (n : Int)) = false := decide_eq_false (by omega)
  have b2' : decide (4096 < n) = false := decide_eq_false (by omega)
  have HN0 : Aside0 (NAt w (w.alloc (.cells (nCells (.slice none 0 0) (.slice none 0 0)) 118)) w.heap.size (.slice none 0 0) (.slice none 0 0) 0 0) := Aside0.mk ⟨Nat.le_refl _, blk_new _ _, Own.nil _ _ _ _, Own.nil _ _ _ _, .inl rfl, below_alloc (Below.refl _ _) _⟩
  go_enter Try.func30, Try.ntmps30
  go_wp2
  generalize w.heap.size = g at HN0 ⊢
  go_loopw [5] (fun v W => ∃ j : Nat, v = .int .i64 (j : Int) ∧ j ≤ n ∧ ∃ vs vn, Aside0 (NAt w W g vs vn j j)) (fun v _ => n - (intOf v).toNat)
  case atStart => exact ⟨0, rfl, Nat.zero_le _, _, _, HN0⟩
  case round =>
    obtain ⟨j, rfl, hj, vs, vn, HN1⟩ := hrel
    clear HN0
    by_cases hlt : j < n
    · have l1 : decide ((j : Int) < (n : Int)) = true := decide_eq_true (by omega)
      have l2 : decide (j < n) = true := decide_eq_true hlt
      have HJ : Aside0 (j ≤ 1000000) := Aside0.mk (by omega)
      go_wp2
      refine rg4_ 7 10 [0, 1, 2, 3, 4, 5, 6, 7, 8, 9, 10] [0, 8, 9] [(0, 19), (1, 20), (2, 21), (3, 22), (4, 23), (5, 24), (6, 25), (7, 26), (8, 27), (9, 28)] (bitsOf (rtab .any (opsOf Try.f30 7)).2) (nRel g 0 vs) (nSt g 0) (NMid 0 w g vs vn j j) (fun _ W => ∃ v, NAt w W g v vn (j + 1) j) (by kernel_rfl) rfl (by kernel_rfl) rfl (by kernel_rfl) (nRel_stable _ _ _) (nRel_st _ _ _) ?steps7 ?h17 ?h27 ?rend7
      case steps7 =>
        refine steps4_loose rfl (fun a1 w1 hn hd => ⟨_, rfl, fun K hK => ?_⟩) ?_
        · have e4 := eval_of ((hn 4 rfl).trans rfl)
          refine value_ (v := .pointer (some ⟨g, 0, none⟩)) (w1 := w1) rfl rfl ?_ (hK _ (fun _ => rfl))
          clear hd hn hK
          simp only [execOp, Option.map_some, Option.map_none, List.map_toArray, List.map_cons, List.map_nil, List.getElem_toArray, List.getElem_cons_zero, List.getElem_cons_succ, e4]
          clear e4
          go_simp
        refine steps4_cons rfl (fun a1 w1 hB hsz hdf hn hd => ⟨_, rfl, fun K hK => ?_⟩) ?_
        · have e4 := eval_of ((hn 4 rfl).trans rfl)
          refine value_ (v := .pointer (some ⟨g, 0, none⟩)) (w1 := w1) rfl rfl ?_ (hK _ _ (Below.refl _ _) rfl)
          clear hd hn hK
          simp only [execOp, Option.map_some, Option.map_none, List.map_toArray, List.map_cons, List.map_nil, List.getElem_toArray, List.getElem_cons_zero, List.getElem_cons_succ, e4]
          clear e4
          go_simp
        refine steps4_cons rfl (fun a1 w1 hB hsz hdf hn hd => ⟨_, rfl, fun K hK => ?_⟩) ?_
        · obtain ⟨v20, h20, rfl⟩ := hd 1 20 rfl (by kernel_rfl)
          have e20 := eval_of h20
          clear h20
          refine value_ (v := .pointer (some ⟨g, 0, none⟩)) (w1 := w1) rfl rfl ?_ (hK _ _ (Below.refl _ _) rfl)
          clear hd hn hK
          simp only [execOp, Option.map_some, Option.map_none, List.map_toArray, List.map_cons, List.map_nil, List.getElem_toArray, List.getElem_cons_zero, List.getElem_cons_succ, e20]
          clear e20
          go_simp
        refine steps4_cons rfl (fun a1 w1 hB hsz hdf hn hd => ⟨_, rfl, fun K hK => ?_⟩) ?_
        · obtain ⟨v21, h21, rfl⟩ := hd 2 21 rfl (by kernel_rfl)
          have e21 := eval_of h21
          clear h21
          refine value_ (v := .pointer (some ⟨g, 0, none⟩)) (w1 := w1) rfl rfl ?_ (hK _ _ (Below.refl _ _) rfl)
          clear hd hn hK
          simp only [execOp, Option.map_some, Option.map_none, List.map_toArray, List.map_cons, List.map_nil, List.getElem_toArray, List.getElem_cons_zero, List.getElem_cons_succ, e21]
          clear e21
          go_simp
        refine steps4_cons rfl (fun a1 w1 hB hsz hdf hn hd => ⟨_, rfl, fun K hK => ?_⟩) ?_
        · obtain ⟨v22, h22, rfl⟩ := hd 3 22 rfl (by kernel_rfl)
          have e22 := eval_of h22
          clear h22
          refine value_ (v := vs) (w1 := w1) rfl rfl ?_ (hK _ _ (Below.refl _ _) rfl)
          clear hd hn hK
          simp only [execOp, Option.map_some, Option.map_none, List.map_toArray, List.map_cons, List.map_nil, List.getElem_toArray, List.getElem_cons_zero, List.getElem_cons_succ, e22]
          clear e22
          have hq : w1.cell? ⟨g, 0, none⟩ = some vs := (blk_cell (HN1.out.below hB).2.1 0).trans rfl
          clear hB
          go_simp
        refine steps4_cons rfl (fun a1 w1 hB hsz hdf hn hd => ⟨_, rfl, fun K hK => ?_⟩) ?_
        · refine goes_ Try.func84 (by kernel_rfl) rfl #[] (by rfl) rfl rfl (by simp only [List.map_toArray, List.map_nil]) ?_
          refine (rzeros_calls _).mono ?_
          rintro e3 w3 ⟨rfl, hbw⟩
          exact ⟨_, rfl, hK _ _ hbw rfl⟩
        refine steps4_cons rfl (fun a1 w1 hB hsz hdf hn hd => ⟨_, rfl, fun K hK => ?_⟩) ?_
        · obtain ⟨v24, h24, rfl⟩ := hd 5 24 rfl (by kernel_rfl)
          have e24 := eval_of h24
          clear h24
          refine value_ (v := .slice (some ⟨w1.heap.size, 0, none⟩) 1 1) (w1 := w1.alloc (.cells [sstr zsec].toArray 9)) rfl rfl ?_ (hK _ _ (below_alloc (Below.refl _ _) _) ⟨_, rfl, blk_new _ _⟩)
          clear hd hn hK
          simp only [execOp, Option.map_some, Option.map_none, List.map_toArray, List.map_cons, List.map_nil, List.getElem_toArray, List.getElem_cons_zero, List.getElem_cons_succ, e24]
          clear e24
          unfold sstr
          go_simp
        refine steps4_m1 ?_
        refine steps4_loose rfl (fun a1 w1 hn hd => ⟨_, rfl, fun K hK => ?_⟩) ?_
        · obtain ⟨v19, h19, rfl⟩ := hd 0 19 rfl (by kernel_rfl)
          have e19 := eval_of h19
          clear h19
          refine value_ (v := .pointer (some ⟨g, 0, none⟩)) (w1 := w1) rfl rfl ?_ (hK _ (fun _ => rfl))
          clear hd hn hK
          simp only [execOp, Option.map_some, Option.map_none, List.map_toArray, List.map_cons, List.map_nil, List.getElem_toArray, List.getElem_cons_zero, List.getElem_cons_succ, e19]
          clear e19
          go_simp
        refine steps4_loose rfl (fun a1 w1 hn hd => ⟨_, rfl, fun K hK => ?_⟩) ?_
        · obtain ⟨v27, h27, rfl⟩ := hd 8 27 rfl (by kernel_rfl)
          have e27 := eval_of h27
          clear h27
          refine value_ (v := .pointer (some ⟨g, 0, none⟩)) (w1 := w1) rfl rfl ?_ (hK _ (fun _ => rfl))
          clear hd hn hK
          simp only [execOp, Option.map_some, Option.map_none, List.map_toArray, List.map_cons, List.map_nil, List.getElem_toArray, List.getElem_cons_zero, List.getElem_cons_succ, e27]
          clear e27
          go_simp
        refine steps4_m2 ?_
        exact steps4_nil
      case h17 =>
        intro a1 w1 hB hn hd
        obtain ⟨v23, h23, q23⟩ := hd 4 23 rfl (by kernel_rfl)
        obtain ⟨v25, h25, gl, rfl, hgl⟩ := hd 6 25 rfl (by kernel_rfl)
        have e1_ : v23 = vs := q23
        subst e1_
        have e1 := eval_of h23
        have e2 := eval_of h25
        refine ⟨_, rfl, fun K hK => ?_⟩
        refine append9_ rfl rfl rfl e1 e2 (HN1.out.below hB).2.2.1.exact hgl rfl (by intro u hu; rw [List.mem_singleton] at hu; subst hu; rfl) HJ.out (fun v' w' hown hg => ?_)
        exact hK _ _ ((HN1.out.below hB).mid0 hown hg)
      case h27 =>
        intro a1 w1 hn hd hp
        obtain ⟨v28, h28, q28⟩ := hd 9 28 rfl (by kernel_rfl)
        have e1_ : v28 = .pointer (some ⟨g, 0, none⟩) := q28
        subst e1_
        obtain ⟨v', hp1, ht⟩ := hp
        have e1 := eval_of h28
        have e2 := eval_of (ht 26 rfl)
        refine ⟨_, rfl, fun K hK => ?_⟩
        obtain ⟨A', c', rfl⟩ := hp1.2.2.1.slice
        exact store_ rfl rfl rfl e1 e2 ((blk_cell hp1.2.1 0).trans rfl) (blk_frozen hp1.2.1 0) Try.underlying78 size78 (hK undef _ ⟨_, hp1.store0⟩)
      case rend7 =>
        intro vals w4 hp4 _
        simp only [fill, Act.put, List.setIfInBounds_toArray, List.set_cons_zero, List.set_cons_succ]
        obtain ⟨us, hN2⟩ := hp4
        have HN2 := Aside0.mk hN2
        clear hN2
        go_wp2
        refine rg4_ 7 10 [0, 1, 2, 3, 4, 5, 6, 7, 8, 9, 10] [0, 8, 9] [(0, 29), (1, 30), (2, 31), (3, 32), (4, 33), (5, 34), (6, 35), (7, 36), (8, 37), (9, 38)] (bitsOf (rtab .any (opsOf Try.f30 8)).2) (nRel g 1 vn) (nSt g 1) (NMid 1 w g us vn (j + 1) j) (fun _ W => ∃ v, NAt w W g us v (j + 1) (j + 1)) (by kernel_rfl) rfl (by kernel_rfl) rfl (by kernel_rfl) (nRel_stable _ _ _) (nRel_st _ _ _) ?steps8 ?h18 ?h28 ?rend8
        case steps8 =>
          refine steps4_loose rfl (fun a1 w1 hn hd => ⟨_, rfl, fun K hK => ?_⟩) ?_
          · have e4 := eval_of ((hn 4 rfl).trans rfl)
            refine value_ (v := .pointer (some ⟨g, 0, none⟩)) (w1 := w1) rfl rfl ?_ (hK _ (fun _ => rfl))
            clear hd hn hK
            simp only [execOp, Option.map_some, Option.map_none, List.map_toArray, List.map_cons, List.map_nil, List.getElem_toArray, List.getElem_cons_zero, List.getElem_cons_succ, e4]
            clear e4
            go_simp
          refine steps4_cons rfl (fun a1 w1 hB hsz hdf hn hd => ⟨_, rfl, fun K hK => ?_⟩) ?_
          · have e4 := eval_of ((hn 4 rfl).trans rfl)
            refine value_ (v := .pointer (some ⟨g, 0, none⟩)) (w1 := w1) rfl rfl ?_ (hK _ _ (Below.refl _ _) rfl)
            clear hd hn hK
            simp only [execOp, Option.map_some, Option.map_none, List.map_toArray, List.map_cons, List.map_nil, List.getElem_toArray, List.getElem_cons_zero, List.getElem_cons_succ, e4]
            clear e4
            go_simp
          refine steps4_cons rfl (fun a1 w1 hB hsz hdf hn hd => ⟨_, rfl, fun K hK => ?_⟩) ?_
          · obtain ⟨v30, h30, rfl⟩ := hd 1 30 rfl (by kernel_rfl)
            have e30 := eval_of h30
            clear h30
            refine value_ (v := .pointer (some ⟨g, 0, none⟩)) (w1 := w1) rfl rfl ?_ (hK _ _ (Below.refl _ _) rfl)
            clear hd hn hK
            simp only [execOp, Option.map_some, Option.map_none, List.map_toArray, List.map_cons, List.map_nil, List.getElem_toArray, List.getElem_cons_zero, List.getElem_cons_succ, e30]
            clear e30
            go_simp
          refine steps4_cons rfl (fun a1 w1 hB hsz hdf hn hd => ⟨_, rfl, fun K hK => ?_⟩) ?_
          · obtain ⟨v31, h31, rfl⟩ := hd 2 31 rfl (by kernel_rfl)
            have e31 := eval_of h31
            clear h31
            refine value_ (v := .pointer (some ⟨g, 1, none⟩)) (w1 := w1) rfl rfl ?_ (hK _ _ (Below.refl _ _) rfl)
            clear hd hn hK
            simp only [execOp, Option.map_some, Option.map_none, List.map_toArray, List.map_cons, List.map_nil, List.getElem_toArray, List.getElem_cons_zero, List.getElem_cons_succ, e31]
            clear e31
            go_simp
          refine steps4_cons rfl (fun a1 w1 hB hsz hdf hn hd => ⟨_, rfl, fun K hK => ?_⟩) ?_
          · obtain ⟨v32, h32, rfl⟩ := hd 3 32 rfl (by kernel_rfl)
            have e32 := eval_of h32
            clear h32
            refine value_ (v := vn) (w1 := w1) rfl rfl ?_ (hK _ _ (Below.refl _ _) rfl)
            clear hd hn hK
            simp only [execOp, Option.map_some, Option.map_none, List.map_toArray, List.map_cons, List.map_nil, List.getElem_toArray, List.getElem_cons_zero, List.getElem_cons_succ, e32]
            clear e32
            have hq : w1.cell? ⟨g, 1, none⟩ = some vn := (blk_cell (HN2.out.below hB).2.1 1).trans rfl
            clear hB
            go_simp
          refine steps4_cons rfl (fun a1 w1 hB hsz hdf hn hd => ⟨_, rfl, fun K hK => ?_⟩) ?_
          · refine goes_ Try.func84 (by kernel_rfl) rfl #[] (by rfl) rfl rfl (by simp only [List.map_toArray, List.map_nil]) ?_
            refine (rzeros_calls _).mono ?_
            rintro e3 w3 ⟨rfl, hbw⟩
            exact ⟨_, rfl, hK _ _ hbw rfl⟩
          refine steps4_cons rfl (fun a1 w1 hB hsz hdf hn hd => ⟨_, rfl, fun K hK => ?_⟩) ?_
          · obtain ⟨v34, h34, rfl⟩ := hd 5 34 rfl (by kernel_rfl)
            have e34 := eval_of h34
            clear h34
            refine value_ (v := .slice (some ⟨w1.heap.size, 0, none⟩) 1 1) (w1 := w1.alloc (.cells [sstr zsec].toArray 9)) rfl rfl ?_ (hK _ _ (below_alloc (Below.refl _ _) _) ⟨_, rfl, blk_new _ _⟩)
            clear hd hn hK
            simp only [execOp, Option.map_some, Option.map_none, List.map_toArray, List.map_cons, List.map_nil, List.getElem_toArray, List.getElem_cons_zero, List.getElem_cons_succ, e34]
            clear e34
            unfold sstr
            go_simp
          refine steps4_m1 ?_
          refine steps4_loose rfl (fun a1 w1 hn hd => ⟨_, rfl, fun K hK => ?_⟩) ?_
          · obtain ⟨v29, h29, rfl⟩ := hd 0 29 rfl (by kernel_rfl)
            have e29 := eval_of h29
            clear h29
            refine value_ (v := .pointer (some ⟨g, 0, none⟩)) (w1 := w1) rfl rfl ?_ (hK _ (fun _ => rfl))
            clear hd hn hK
            simp only [execOp, Option.map_some, Option.map_none, List.map_toArray, List.map_cons, List.map_nil, List.getElem_toArray, List.getElem_cons_zero, List.getElem_cons_succ, e29]
            clear e29
            go_simp
          refine steps4_loose rfl (fun a1 w1 hn hd => ⟨_, rfl, fun K hK => ?_⟩) ?_
          · obtain ⟨v37, h37, rfl⟩ := hd 8 37 rfl (by kernel_rfl)
            have e37 := eval_of h37
            clear h37
            refine value_ (v := .pointer (some ⟨g, 1, none⟩)) (w1 := w1) rfl rfl ?_ (hK _ (fun _ => rfl))
            clear hd hn hK
            simp only [execOp, Option.map_some, Option.map_none, List.map_toArray, List.map_cons, List.map_nil, List.getElem_toArray, List.getElem_cons_zero, List.getElem_cons_succ, e37]
            clear e37
            go_simp
          refine steps4_m2 ?_
          exact steps4_nil
        case h18 =>
          intro a1 w1 hB hn hd
          obtain ⟨v33, h33, q33⟩ := hd 4 33 rfl (by kernel_rfl)
          obtain ⟨v35, h35, gl, rfl, hgl⟩ := hd 6 35 rfl (by kernel_rfl)
          have e1_ : v33 = vn := q33
          subst e1_
          have e1 := eval_of h33
          have e2 := eval_of h35
          refine ⟨_, rfl, fun K hK => ?_⟩
          refine append9_ rfl rfl rfl e1 e2 (HN2.out.below hB).2.2.2.1.exact hgl rfl (by intro u hu; rw [List.mem_singleton] at hu; subst hu; rfl) HJ.out (fun v' w' hown hg => ?_)
          exact hK _ _ ((HN2.out.below hB).mid1 hown hg)
        case h28 =>
          intro a1 w1 hn hd hp
          obtain ⟨v38, h38, q38⟩ := hd 9 38 rfl (by kernel_rfl)
          have e1_ : v38 = .pointer (some ⟨g, 1, none⟩) := q38
          subst e1_
          obtain ⟨v', hp1, ht⟩ := hp
          have e1 := eval_of h38
          have e2 := eval_of (ht 36 rfl)
          refine ⟨_, rfl, fun K hK => ?_⟩
          obtain ⟨A', c', rfl⟩ := hp1.2.2.1.slice
          exact store_ rfl rfl rfl e1 e2 ((blk_cell hp1.2.1 1).trans rfl) (blk_frozen hp1.2.1 1) Try.underlying78 size78 (hK undef _ ⟨_, hp1.store1⟩)
        case rend8 =>
          intro vals2 w5 hp5 _
          simp only [fill, Act.put, List.setIfInBounds_toArray, List.set_cons_zero, List.set_cons_succ]
          obtain ⟨un, hN3⟩ := hp5
          have HN3 := Aside0.mk hN3
          clear hN3 HN2 HN1
          go_wp2
          refine ⟨⟨j + 1, by congr 1, by omega, us, un, HN3⟩, ?_⟩
          simp [intOf]
          omega
    · have l1 : decide ((j : Int) < (n : Int)) = false := decide_eq_false (by omega)
      have l2 : decide (j < n) = false := decide_eq_false hlt
      have hje : j = n := by omega
      subst hje
      have HF : Aside0 (RAt wr (fun k => w.heap.size ≤ k) g (DS.new j) vs vn (.slice none 0 0)) := by
        obtain ⟨q1, q2, q3, q4, q5, q6⟩ := HN1.out
        refine Aside0.mk ⟨DS.new_ok j h1 h2, q1, ⟨0, q2⟩, ?_, ?_, Own.nil _ _ _ _, q5⟩
        · rw [show (DS.new j).safe.length = j by simp [DS.new]]; exact q3
        · rw [show (DS.new j).now.length = j by simp [DS.new]]; exact q4
      have HB := Aside0.mk HN1.out.2.2.2.2.2
      clear HN1
      go_wp2
      go_ret2
      exact ⟨_, _, _, _, rfl, HF.out, HB.out⟩
end Go.Proofs.Ytkedodmlbepfnaa.Lg

-- from the working text Bv
set_option linter.unusedSimpArgs false
set_option linter.unusedVariables false
namespace Go.Proofs.Ytkedodmlbepfnaa.Lg
open Go.RowKit Go.Proofs.YtkedodmlbepfnaaW.PrintWords Go.Proofs.YtkedodmlbepfnaaW.PrintLast Go.Proofs.YtkedodmlbepfnaaW.PrintMore Go.Proofs.Ytkedodmlbepfnaa.Rg
/-- What is neither a disk's nor a book's nor entries. -/
def Out (o : Obj) : Prop := ∀ cs t z, o = Obj.cells cs t z → t ≠ 115 ∧ t ≠ 122 ∧ t ≠ 124 ∧ t ≠ 23 ∧ t ≠ 95
theorem Out.map (es : Array MapEntry) (c : Nat) : Out (.map es c) := fun _ _ _ h => by cases h
theorem Out.cells {cs : Array Value} {t : TypeId} {z : Nat × Nat} (h1 : t ≠ 115) (h2 : t ≠ 122) (h3 : t ≠ 124) (h4 : t ≠ 23) (h5 : t ≠ 95) : Out (.cells cs t z) := fun _ _ _ h => by
  injection h with _ h _
  subst h
  exact ⟨h1, h2, h3, h4, h5⟩
/-- It stands. -/
def Ku (w W : World) : Prop := ∀ (k : Nat) (o : Obj), Out o → w.heap[k]? = some o → W.heap[k]? = some o
theorem Obj.lt {w : World} {k : Nat} {o : Obj} (h : w.heap[k]? = some o) : k < w.heap.size := by
  rcases Array.getElem?_eq_some_iff.1 h with ⟨h, _⟩
  exact h
theorem Ku.of_below {w W : World} (h : Below w.heap.size w W) : Ku w W := fun k o _ hk => (h.block k (Obj.lt hk)).trans hk
theorem Ku.trans {w W W' : World} (h : Ku w W) (h' : Ku W W') : Ku w W' := fun k o a hk => h' k o a (h k o a hk)
theorem TY.out {w : World} {k : Nat} {o : Obj} (h : w.heap[k]? = some o) (ho : Out o) : ¬ TY w k := by
  rintro ⟨cs', t', z', h', ht⟩
  rw [h] at h'
  injection h' with h'
  obtain ⟨h1, h2, h3, _, _⟩ := ho _ _ _ h'
  rcases ht with ht | ht | ht
  · exact h1 ht
  · exact h2 ht
  · exact h3 ht
/-- A record is written. -/
theorem BK.recordU {base gb gd n nE k : Nat} {w : World} {e0 : Value} {used : Nat} {f a b : Int} {xs : List Value} (h : BK base w gb gd n e0 used f nE xs k) (hbase : base ≤ w.heap.size) (s : ByteArray) (hf : f ≤ 1000000) (hn : n ≤ 4096) (hk : k ≤ 100) (hs : s.size ≤ 2400) (hat : used + 1 + (s.size + 6) / 64 ≤ n) :
    Calls Try.prog 143 #[.pointer (some ⟨gd, 0, none⟩), .int .i64 (used : Int), .agg #[.int .i64 a, .int .i64 b, .string s]] w fun e w' => e = .returned (.tuple #[]) ∧ BK base w' gb gd n e0 used f nE xs 0 ∧ Below base w w' ∧ (∀ (k : Nat) (cs : Array Value), w.heap[k]? = some (Obj.cells cs 23 (0, 0)) → w'.heap[k]? = some (Obj.cells cs 23 (0, 0))) ∧ Ku w w' := by
  obtain ⟨h1, h2, h3, h4⟩ := h
  have h2' : w.heap[gb]? = some (.cells (bookCells e0 used gd f) 95 (0, 0)) := h2
  refine (record_calls w _ gd n k used f a b s h3.typed hf hn hk hs hat).mono ?_
  rintro e w' ⟨rfl, hd, hkp⟩
  refine ⟨rfl, ⟨h1, (hkp.block gb (blk_lt h2') (fun h => TY.not h2' (by decide) (by decide) (by decide) h.2)).trans h2', hd.mono fun i hi => hi.elim (fun h => h.1) (fun h => Nat.le_trans hbase h), ?_⟩, hkp.to_below (fun i hi => hi.1) hbase, fun k cs hcs => (hkp.block k (blk_lt hcs) (fun h => TY.not hcs (by decide) (by decide) (by decide) h.2)).trans hcs, fun k o ho h => (hkp.block k (Obj.lt h) (fun hS => TY.out h ho hS.2)).trans h⟩
  refine (h4.exact.kp hkp fun i hi hlt hS => ?_).mono fun i hi => h4.2 i hi
  obtain ⟨c, hc⟩ := own_typed h4.1 i hi
  exact TY.not hc (by decide) (by decide) (by decide) hS.2
/-- The first entry is replaced. -/
theorem BK.putB {base gb gd n nE k : Nat} {w : World} {e0 : Value} {used f : Int} {y0 y1 y2 : Value} {ys : List Value} (h : BK base w gb gd n e0 used f nE (y0 :: y1 :: y2 :: ys) k) (hbase : base ≤ w.heap.size) (s : ByteArray) (hn1 : 1 ≤ nE) (hn : nE ≤ 60) (hs : s.size ≤ 2400) (hu : 0 ≤ used) (hu2 : used ≤ 4096) :
    Calls Try.prog 144 #[.pointer (some ⟨gb, 0, none⟩), .agg #[.int .i64 0, .int .i64 0, .string s]] w fun e w' => e = .returned (.tuple #[]) ∧ ∃ e1, BK base w' gb gd n e1 (used + ((1 + (s.size + 6) / 64 : Nat) : Int)) f nE (.int .i64 0 :: .int .i64 0 :: .string s :: ys) k ∧ Below base w w' ∧ Ku w w' := by
  obtain ⟨h1, h2, h3, h4⟩ := h
  have h2' : w.heap[gb]? = some (.cells (bookCells e0 used gd f) 95 (0, 0)) := h2
  refine (putB_calls w _ gb gd nE e0 used f y0 y1 y2 ys s h2 h4.exact hn1 hn hs hu hu2 (fun i hi => by obtain ⟨c, hc⟩ := own_typed h4.1 i hi; exact blk_lt hc)).mono ?_
  rintro e w' ⟨rfl, e1, hb, ho, hkp⟩
  have hle : ∀ i, (e0.ownBlock = some i ∨ i = gb) → base ≤ i := fun i hi => hi.elim (fun h => h4.2 i h) (fun h => h ▸ h1)
  refine ⟨rfl, e1, ⟨h1, hb, (h3.typed.kp hkp fun i hi hlt hS => ?_).mono fun i hi => hi.1, ho.mono fun i hi => hi.elim (fun h => h4.2 i h) (fun h => Nat.le_trans hbase h)⟩, hkp.to_below hle hbase, fun k o hO h => (hkp.block k (Obj.lt h) (fun hS => hS.elim (fun h1 => by obtain ⟨c, hc⟩ := own_typed h4.1 k h1; rw [h] at hc; injection hc with hc; exact (hO _ _ _ hc).2.2.2.1 rfl) (fun h1 => by subst h1; rw [h] at h2'; injection h2' with h2'; exact (hO _ _ _ h2').2.2.2.2 rfl))).trans h⟩
  rcases hS with hS | hS
  · obtain ⟨c, hc⟩ := own_typed h4.1 i hS
    exact TY.not hc (by decide) (by decide) (by decide) hi.2
  · subst hS
    exact TY.not h2' (by decide) (by decide) (by decide) hi.2
set_option maxHeartbeats 8000000 in
set_option maxRecDepth 100000 in
theorem bwriteB_calls (base : Nat) (w : World) (gb gd n nE k used : Nat) (e0 : Value) (f : Int) (y0 y1 y2 : Value) (ys : List Value) (s : ByteArray) (h : BK base w gb gd n e0 (used : Int) f nE (y0 :: y1 :: y2 :: ys) k) (hbase : base ≤ w.heap.size) (hf : f ≤ 1000000) (hn4 : n ≤ 4096) (hk : k ≤ 100) (hn1 : 1 ≤ nE) (hnE : nE ≤ 60) (hs : s.size ≤ 2400) (hat : used + 1 + (s.size + 6) / 64 ≤ n) :
    Calls Try.prog 113 #[.pointer (some ⟨gb, 0, none⟩), .agg #[.int .i64 0, .int .i64 0, .string s]] w fun e w' => e = .returned (.tuple #[]) ∧ ∃ e1, BK base w' gb gd n e1 ((used : Int) + ((1 + (s.size + 6) / 64 : Nat) : Int)) f nE (.int .i64 0 :: .int .i64 0 :: .string s :: ys) 0 ∧ Below base w w' ∧ Ku w w' := by
  have hB1 : Below w.heap.size w (w.alloc (.cells #[.int .i64 0, .int .i64 0, .string s] 23)) := below_alloc (Below.refl _ _) _
  have HBK := Aside0.mk (h.below hB1)
  have HBe : Aside0 (Below base w (w.alloc (.cells #[.int .i64 0, .int .i64 0, .string s] 23))) := Aside0.mk (hB1.mono hbase)
  have HX := Aside0.mk (blk_new w (.cells #[.int .i64 0, .int .i64 0, .string s] 23))
  have HBs := Aside0.mk (Nat.le_trans hbase hB1.size)
  have bg : decide ((n : Int) - (used : Int) < ((1 + (s.size + 6) / 64 : Nat) : Int)) = false := by simp; omega
  have HKu := Aside0.mk (Ku.of_below hB1)
  have hur : (used : Int) ≤ (n : Int) := by omega
  clear h hB1 hbase
  generalize hgx : w.heap.size = gx at HX
  generalize hcc : ((1 + (s.size + 6) / 64 : Nat) : Int) = cc at bg
  go_enter Try.func113, Try.ntmps113
  go_wp2_with (first
    | (go_at_call 142; (with_reducible refine (sectors_calls23 _ _ _ _ hs).mono ?_); rintro e w1 ⟨rfl, hb⟩; rw [hcc]; have n1_ := Aside0.mk (HBK.out.below hb); have n2_ := Aside0.mk (HBe.out.trans (hb.mono HBs.out)); have n3_ := Aside0.mk ((hb.block _ (blk_lt HX.out)).trans HX.out); have n4_ := Aside0.mk (Nat.le_trans HBs.out hb.size); have n5_ := Aside0.mk (HKu.out.trans (Ku.of_below hb)); clear HBK HBe HX HBs HKu hb; have HBK := n1_; have HBe := n2_; have HX := n3_; have HBs := n4_; have HKu := n5_; clear n1_ n2_ n3_ n4_ n5_)
    | (go_at_call 60; have k1_ := HBK.out.2.1; have k2_ := HBK.out.2.2.1; (with_reducible refine (room_calls _ _ _ _ _ _ _ _ _ _ k1_ k2_ (Int.natCast_nonneg _) hur hn4).mono ?_); clear k1_ k2_; rintro e w1 ⟨rfl, hb⟩; have n1_ := Aside0.mk (HBK.out.below hb); have n2_ := Aside0.mk (HBe.out.trans (hb.mono HBs.out)); have n3_ := Aside0.mk ((hb.block _ (blk_lt HX.out)).trans HX.out); have n4_ := Aside0.mk (Nat.le_trans HBs.out hb.size); have n5_ := Aside0.mk (HKu.out.trans (Ku.of_below hb)); clear HBK HBe HX HBs HKu hb; have HBK := n1_; have HBe := n2_; have HX := n3_; have HBs := n4_; have HKu := n5_; clear n1_ n2_ n3_ n4_ n5_))
  refine rg5_ 10 [0, 1, 2, 3, 4, 5, 6, 7, 8, 9, 10] [(0, 10), (1, 11), (2, 12), (3, 13), (4, 14), (5, 15), (6, 16), (7, 17), (8, 18), (9, 19), (10, 20)] (bitsOf (rtab .any (opsOf Try.f113 3)).2) (w3Rel gb gd (used : Int) 0 0 s) (fun _ W => BK base W gb gd n e0 (used : Int) f nE (y0 :: y1 :: y2 :: ys) 0 ∧ Below base w W ∧ W.heap[gx]? = some (.cells #[.int .i64 0, .int .i64 0, .string s] 23 (0, 0)) ∧ base ≤ W.heap.size ∧ Ku w W) (by kernel_rfl) rfl (by kernel_rfl) rfl (by kernel_rfl) (fun j v w w' h _ => by revert h; unfold w3Rel; split <;> exact id) ?stA ?h1A ?reA
  case stA =>
    refine steps5_cons (fun a1 w2 hB hsz hdf hn hd => ⟨_, rfl, fun K hK => ?_⟩) ?_
    · have e0 := eval_of ((hn 0 rfl).trans rfl)
      refine value_ (v := .pointer (some ⟨gb, 0, none⟩)) (w1 := w2) rfl rfl ?_ (hK _ _ (Below.refl _ _) rfl)
      clear hd hn hK
      simp only [execOp, Option.map_some, Option.map_none, List.map_toArray, List.map_cons, List.map_nil, List.getElem_toArray, List.getElem_cons_zero, List.getElem_cons_succ, e0]
      clear e0
      go_simp
    refine steps5_cons (fun a1 w2 hB hsz hdf hn hd => ⟨_, rfl, fun K hK => ?_⟩) ?_
    · obtain ⟨v10, h10, rfl⟩ := hd 0 10 rfl (by kernel_rfl)
      have e10 := eval_of h10
      clear h10
      refine value_ (v := .pointer (some ⟨gb, 0, none⟩)) (w1 := w2) rfl rfl ?_ (hK _ _ (Below.refl _ _) rfl)
      clear hd hn hK
      simp only [execOp, Option.map_some, Option.map_none, List.map_toArray, List.map_cons, List.map_nil, List.getElem_toArray, List.getElem_cons_zero, List.getElem_cons_succ, e10]
      clear e10
      go_simp
    refine steps5_cons (fun a1 w2 hB hsz hdf hn hd => ⟨_, rfl, fun K hK => ?_⟩) ?_
    · obtain ⟨v11, h11, rfl⟩ := hd 1 11 rfl (by kernel_rfl)
      have e11 := eval_of h11
      clear h11
      refine value_ (v := .pointer (some ⟨gb, 10, none⟩)) (w1 := w2) rfl rfl ?_ (hK _ _ (Below.refl _ _) rfl)
      clear hd hn hK
      simp only [execOp, Option.map_some, Option.map_none, List.map_toArray, List.map_cons, List.map_nil, List.getElem_toArray, List.getElem_cons_zero, List.getElem_cons_succ, e11]
      clear e11
      go_simp
    refine steps5_cons (fun a1 w2 hB hsz hdf hn hd => ⟨_, rfl, fun K hK => ?_⟩) ?_
    · obtain ⟨v12, h12, rfl⟩ := hd 2 12 rfl (by kernel_rfl)
      have e12 := eval_of h12
      clear h12
      refine value_ (v := .pointer (some ⟨gd, 0, none⟩)) (w1 := w2) rfl rfl ?_ (hK _ _ (Below.refl _ _) rfl)
      clear hd hn hK
      simp only [execOp, Option.map_some, Option.map_none, List.map_toArray, List.map_cons, List.map_nil, List.getElem_toArray, List.getElem_cons_zero, List.getElem_cons_succ, e12]
      clear e12
      have hq : w2.cell? ⟨gb, 10, none⟩ = some (.pointer (some ⟨gd, 0, none⟩)) := (blk_cell (HBK.out.2.1.below hB) 10).trans rfl
      clear hB
      go_simp
    refine steps5_cons (fun a1 w2 hB hsz hdf hn hd => ⟨_, rfl, fun K hK => ?_⟩) ?_
    · have e0 := eval_of ((hn 0 rfl).trans rfl)
      refine value_ (v := .pointer (some ⟨gb, 0, none⟩)) (w1 := w2) rfl rfl ?_ (hK _ _ (Below.refl _ _) rfl)
      clear hd hn hK
      simp only [execOp, Option.map_some, Option.map_none, List.map_toArray, List.map_cons, List.map_nil, List.getElem_toArray, List.getElem_cons_zero, List.getElem_cons_succ, e0]
      clear e0
      go_simp
    refine steps5_cons (fun a1 w2 hB hsz hdf hn hd => ⟨_, rfl, fun K hK => ?_⟩) ?_
    · obtain ⟨v14, h14, rfl⟩ := hd 4 14 rfl (by kernel_rfl)
      have e14 := eval_of h14
      clear h14
      refine value_ (v := .pointer (some ⟨gb, 0, none⟩)) (w1 := w2) rfl rfl ?_ (hK _ _ (Below.refl _ _) rfl)
      clear hd hn hK
      simp only [execOp, Option.map_some, Option.map_none, List.map_toArray, List.map_cons, List.map_nil, List.getElem_toArray, List.getElem_cons_zero, List.getElem_cons_succ, e14]
      clear e14
      go_simp
    refine steps5_cons (fun a1 w2 hB hsz hdf hn hd => ⟨_, rfl, fun K hK => ?_⟩) ?_
    · obtain ⟨v15, h15, rfl⟩ := hd 5 15 rfl (by kernel_rfl)
      have e15 := eval_of h15
      clear h15
      refine value_ (v := .pointer (some ⟨gb, 0, none⟩)) (w1 := w2) rfl rfl ?_ (hK _ _ (Below.refl _ _) rfl)
      clear hd hn hK
      simp only [execOp, Option.map_some, Option.map_none, List.map_toArray, List.map_cons, List.map_nil, List.getElem_toArray, List.getElem_cons_zero, List.getElem_cons_succ, e15]
      clear e15
      go_simp
    refine steps5_cons (fun a1 w2 hB hsz hdf hn hd => ⟨_, rfl, fun K hK => ?_⟩) ?_
    · obtain ⟨v16, h16, rfl⟩ := hd 6 16 rfl (by kernel_rfl)
      have e16 := eval_of h16
      clear h16
      refine value_ (v := .pointer (some ⟨gb, 9, none⟩)) (w1 := w2) rfl rfl ?_ (hK _ _ (Below.refl _ _) rfl)
      clear hd hn hK
      simp only [execOp, Option.map_some, Option.map_none, List.map_toArray, List.map_cons, List.map_nil, List.getElem_toArray, List.getElem_cons_zero, List.getElem_cons_succ, e16]
      clear e16
      go_simp
    refine steps5_cons (fun a1 w2 hB hsz hdf hn hd => ⟨_, rfl, fun K hK => ?_⟩) ?_
    · obtain ⟨v17, h17, rfl⟩ := hd 7 17 rfl (by kernel_rfl)
      have e17 := eval_of h17
      clear h17
      refine value_ (v := .int .i64 (used : Int)) (w1 := w2) rfl rfl ?_ (hK _ _ (Below.refl _ _) rfl)
      clear hd hn hK
      simp only [execOp, Option.map_some, Option.map_none, List.map_toArray, List.map_cons, List.map_nil, List.getElem_toArray, List.getElem_cons_zero, List.getElem_cons_succ, e17]
      clear e17
      have hq : w2.cell? ⟨gb, 9, none⟩ = some (.int .i64 (used : Int)) := (blk_cell (HBK.out.2.1.below hB) 9).trans rfl
      clear hB
      go_simp
    refine steps5_cons (fun a1 w2 hB hsz hdf hn hd => ⟨_, rfl, fun K hK => ?_⟩) ?_
    · have e3 := eval_of ((hn 3 rfl).trans rfl)
      refine value_ (v := .agg #[.int .i64 0, .int .i64 0, .string s]) (w1 := w2) rfl rfl ?_ (hK _ _ (Below.refl _ _) rfl)
      clear hd hn hK
      simp only [execOp, Option.map_some, Option.map_none, List.map_toArray, List.map_cons, List.map_nil, List.getElem_toArray, List.getElem_cons_zero, List.getElem_cons_succ, e3]
      clear e3
      have hbx := (hB.block _ (blk_lt HX.out)).trans HX.out
      have hx0 : w2.cell? ⟨gx, 0, none⟩ = some (.int .i64 0) := (blk_cell hbx 0).trans rfl
      have hx1 : w2.cell? ⟨gx, 1, none⟩ = some (.int .i64 0) := (blk_cell hbx 1).trans rfl
      have hx2 : w2.cell? ⟨gx, 2, none⟩ = some (.string s) := (blk_cell hbx 2).trans rfl
      clear hB hbx
      go_simp
    refine steps5_m ?_
    exact steps5_nil
  case h1A =>
    intro a1 w2 hB hn hd
    obtain ⟨v13, h13, q13⟩ := hd 3 13 rfl (by kernel_rfl)
    have e13 : v13 = .pointer (some ⟨gd, 0, none⟩) := q13
    subst e13
    have e13 := eval_of h13
    obtain ⟨v18, h18, q18⟩ := hd 8 18 rfl (by kernel_rfl)
    have e18 : v18 = .int .i64 (used : Int) := q18
    subst e18
    have e18 := eval_of h18
    obtain ⟨v19, h19, q19⟩ := hd 9 19 rfl (by kernel_rfl)
    have e19 : v19 = .agg #[.int .i64 0, .int .i64 0, .string s] := q19
    subst e19
    have e19 := eval_of h19
    refine ⟨_, rfl, fun K hK => ?_⟩
    refine goes_ Try.func143 (by kernel_rfl) rfl #[.pointer (some ⟨gd, 0, none⟩), .int .i64 (used : Int), .agg #[.int .i64 0, .int .i64 0, .string s]] (by rfl) rfl rfl (by simp only [List.map_toArray, List.map_cons, List.map_nil, e13, e18, e19]) ?_
    refine ((HBK.out.below hB).recordU (Nat.le_trans HBs.out hB.size) s hf hn4 hk hs hat).mono ?_
    rintro e w5 ⟨rfl, hbk, hbe, hkeep, hkv⟩
    exact ⟨_, rfl, hK _ _ ⟨hbk, (HBe.out.trans (hB.mono HBs.out)).trans hbe, hkeep _ _ ((hB.block _ (blk_lt HX.out)).trans HX.out), Nat.le_trans (Nat.le_trans HBs.out hB.size) hbe.size, (HKu.out.trans (Ku.of_below hB)).trans hkv⟩⟩
  case reA =>
    intro vals2 w4 hp2
    simp only [fill, Act.put, List.setIfInBounds_toArray, List.set_cons_zero, List.set_cons_succ]
    clear HBK HBe HX HBs HKu
    obtain ⟨hbk4, hbe4, hx4, hbs4, hkv4⟩ := hp2
    have HKu := Aside0.mk hkv4
    have HBK := Aside0.mk hbk4
    have HBe := Aside0.mk hbe4
    have HX := Aside0.mk hx4
    have HBs := Aside0.mk hbs4
    clear hbk4 hbe4 hx4 hbs4 hkv4
    go_wp2
    refine rg5_ 4 [0, 1, 2, 3, 4] [(0, 21), (1, 22), (2, 23), (3, 24), (4, 25)] (bitsOf (rtab .any (opsOf Try.f113 4)).2) (w4Rel gb 0 0 s) (fun _ W => ∃ e1, BK base W gb gd n e1 ((used : Int) + ((1 + (s.size + 6) / 64 : Nat) : Int)) f nE (.int .i64 0 :: .int .i64 0 :: .string s :: ys) 0 ∧ Below base w W ∧ Ku w W) (by kernel_rfl) rfl (by kernel_rfl) rfl (by kernel_rfl) (fun j v w w' h _ => by revert h; unfold w4Rel; split <;> exact id) ?stB ?h1B ?reB
    case stB =>
      refine steps5_cons (fun a1 w2 hB hsz hdf hn hd => ⟨_, rfl, fun K hK => ?_⟩) ?_
      · have e0 := eval_of ((hn 0 rfl).trans rfl)
        refine value_ (v := .pointer (some ⟨gb, 0, none⟩)) (w1 := w2) rfl rfl ?_ (hK _ _ (Below.refl _ _) rfl)
        clear hd hn hK
        simp only [execOp, Option.map_some, Option.map_none, List.map_toArray, List.map_cons, List.map_nil, List.getElem_toArray, List.getElem_cons_zero, List.getElem_cons_succ, e0]
        clear e0
        go_simp
      refine steps5_cons (fun a1 w2 hB hsz hdf hn hd => ⟨_, rfl, fun K hK => ?_⟩) ?_
      · obtain ⟨v21, h21, rfl⟩ := hd 0 21 rfl (by kernel_rfl)
        have e21 := eval_of h21
        clear h21
        refine value_ (v := .pointer (some ⟨gb, 0, none⟩)) (w1 := w2) rfl rfl ?_ (hK _ _ (Below.refl _ _) rfl)
        clear hd hn hK
        simp only [execOp, Option.map_some, Option.map_none, List.map_toArray, List.map_cons, List.map_nil, List.getElem_toArray, List.getElem_cons_zero, List.getElem_cons_succ, e21]
        clear e21
        go_simp
      refine steps5_cons (fun a1 w2 hB hsz hdf hn hd => ⟨_, rfl, fun K hK => ?_⟩) ?_
      · obtain ⟨v22, h22, rfl⟩ := hd 1 22 rfl (by kernel_rfl)
        have e22 := eval_of h22
        clear h22
        refine value_ (v := .pointer (some ⟨gb, 0, none⟩)) (w1 := w2) rfl rfl ?_ (hK _ _ (Below.refl _ _) rfl)
        clear hd hn hK
        simp only [execOp, Option.map_some, Option.map_none, List.map_toArray, List.map_cons, List.map_nil, List.getElem_toArray, List.getElem_cons_zero, List.getElem_cons_succ, e22]
        clear e22
        go_simp
      refine steps5_cons (fun a1 w2 hB hsz hdf hn hd => ⟨_, rfl, fun K hK => ?_⟩) ?_
      · have e3 := eval_of ((hn 3 rfl).trans rfl)
        refine value_ (v := .agg #[.int .i64 0, .int .i64 0, .string s]) (w1 := w2) rfl rfl ?_ (hK _ _ (Below.refl _ _) rfl)
        clear hd hn hK
        simp only [execOp, Option.map_some, Option.map_none, List.map_toArray, List.map_cons, List.map_nil, List.getElem_toArray, List.getElem_cons_zero, List.getElem_cons_succ, e3]
        clear e3
        have hbx := (hB.block _ (blk_lt HX.out)).trans HX.out
        have hx0 : w2.cell? ⟨gx, 0, none⟩ = some (.int .i64 0) := (blk_cell hbx 0).trans rfl
        have hx1 : w2.cell? ⟨gx, 1, none⟩ = some (.int .i64 0) := (blk_cell hbx 1).trans rfl
        have hx2 : w2.cell? ⟨gx, 2, none⟩ = some (.string s) := (blk_cell hbx 2).trans rfl
        clear hB hbx
        go_simp
      refine steps5_m ?_
      exact steps5_nil
    case h1B =>
      intro a1 w2 hB hn hd
      obtain ⟨v23, h23, q23⟩ := hd 2 23 rfl (by kernel_rfl)
      have e23 : v23 = .pointer (some ⟨gb, 0, none⟩) := q23
      subst e23
      have e23 := eval_of h23
      obtain ⟨v24, h24, q24⟩ := hd 3 24 rfl (by kernel_rfl)
      have e24 : v24 = .agg #[.int .i64 0, .int .i64 0, .string s] := q24
      subst e24
      have e24 := eval_of h24
      refine ⟨_, rfl, fun K hK => ?_⟩
      refine goes_ Try.func144 (by kernel_rfl) rfl #[.pointer (some ⟨gb, 0, none⟩), .agg #[.int .i64 0, .int .i64 0, .string s]] (by rfl) rfl rfl (by simp only [List.map_toArray, List.map_cons, List.map_nil, e23, e24]) ?_
      refine ((HBK.out.below hB).putB (Nat.le_trans HBs.out hB.size) s hn1 hnE hs (by omega) (by omega)).mono ?_
      rintro e w5 ⟨rfl, e1, hbk, hbe, hkv⟩
      exact ⟨_, rfl, hK _ _ ⟨e1, hbk, (HBe.out.trans (hB.mono HBs.out)).trans hbe, (HKu.out.trans (Ku.of_below hB)).trans hkv⟩⟩
    case reB =>
      intro vals3 w5 hp3
      simp only [fill, Act.put, List.setIfInBounds_toArray, List.set_cons_zero, List.set_cons_succ]
      have HP3 := Aside0.mk hp3
      clear hp3
      go_wp2
      go_end0
      exact ⟨rfl, hcc ▸ HP3.out⟩
end Go.Proofs.Ytkedodmlbepfnaa.Lg

-- from the working text Ad
set_option linter.unusedSimpArgs false
set_option linter.unusedVariables false
namespace Go.Proofs.Ytkedodmlbepfnaa.Lg
open Go.RowKit Go.Proofs.YtkedodmlbepfnaaW.PrintWords Go.Proofs.YtkedodmlbepfnaaW.PrintLast Go.Proofs.YtkedodmlbepfnaaW.PrintMore Go.Proofs.Ytkedodmlbepfnaa.Rg
/-- A guarded operation whose guard is on. -/
theorem wanted_of {ops : Array Oper} {oi : Oper} {tmps : Array Value} {j : Nat} {b : Bool} {t : Tmp} (hg : oi.guard = some (j, b)) (hd : (ops[j]?).bind (·.dst) = some t) (ht : tmps[t]? = some (.bool b)) : Region.wanted oi (yielded ops tmps) = true := by
  have hy : yielded ops tmps j = some b := by
    unfold yielded
    rw [hd]
    simp [ht]
  simp [Region.wanted, hg, hy]
/-- A variable of another kind is written. -/
theorem BK.setVar {base gb gd n nE k b : Nat} {w : World} {e0 : Value} {used f : Int} {xs : List Value} {cs : Array Value} (h : BK base w gb gd n e0 used f nE xs k) (hb : w.heap[b]? = some (.cells cs 28 (0, 0))) (u : Value) : BK base (w.setCell ⟨b, 0, none⟩ u) gb gd n e0 used f nE xs k := by
  obtain ⟨h1, h2, h3, h4⟩ := h
  have h2' : w.heap[gb]? = some (.cells (bookCells e0 used gd f) 95 (0, 0)) := h2
  have hk : Kp (fun i => i = b) w (w.setCell ⟨b, 0, none⟩ u) := (Kp.refl (fun i => i = b) w).setCell (p := ⟨b, 0, none⟩) (.inl rfl) u
  refine ⟨h1, (hk.block gb (blk_lt h2') (fun e => ?_)).trans h2', (h3.typed.kp hk fun i hi _ e => ?_).mono fun i hi => hi.1, h4.setCell (h4.type_ne hb (by decide)) u⟩
  · subst e
    rw [hb] at h2'
    injection h2' with h2'
    injection h2' with _ h2' _
    cases h2'
  · subst e
    exact TY.not hb (by decide) (by decide) (by decide) hi.2
theorem check0_calls (no : Int) (s : ByteArray) (w : World) (h0 : 0 ≤ no) (h1 : no < 64) (hs : s.size ≤ 2400) :
    Calls Try.prog 16 #[.agg #[.int .i64 0, .int .i64 no, .string s]] w fun e w' => e = .returned (.int .i64 0) ∧ Below w.heap.size w w' := by
  refine ledger_CheckEntry.calls 0 no s 0 w ?_
  unfold ledger_CheckEntry.f
  rw [if_neg (by omega), if_neg (by omega), if_neg (by omega), if_neg (by omega), if_neg (by omega)]
def addRel (gb gx : Nat) (a no : Int) (s : ByteArray) : Nat → Value → World → Prop
  | 0, v, _ => v = .agg #[.int .i64 a, .int .i64 no, .string s]
  | 1, v, _ => v = .int .i64 0
  | 2, v, _ => v = .bool false
  | 3, v, _ => v = .bool false
  | 4, v, _ => v = .pointer (some ⟨gb, 0, none⟩)
  | 5, v, _ => v = .pointer (some ⟨gb, 0, none⟩)
  | 6, v, _ => v = .pointer (some ⟨gb, 0, none⟩)
  | 7, v, _ => v = .pointer (some ⟨gx, 0, none⟩)
  | 8, v, _ => v = .int .i64 a
  | 9, v, _ => v = .bool true
  | 10, v, _ => v = .bool false
  | 11, v, _ => v = .bool false
  | _, _, _ => True
set_option maxHeartbeats 8000000 in
set_option maxRecDepth 100000 in
theorem addA_calls (base : Nat) (w : World) (gb gd n nE k used : Nat) (e0 : Value) (f : Int) (xs : List Value) (s : ByteArray) (h : BK base w gb gd n e0 (used : Int) f nE xs k) (hbase : base ≤ w.heap.size) (hf : f ≤ 1000000) (hn4 : n ≤ 4096) (hk : k ≤ 100) (hnE : nE ≤ 60) (hs : s.size ≤ 2400) (hat : used + 1 + (s.size + 6) / 64 ≤ n) :
    Calls Try.prog 61 #[.pointer (some ⟨gb, 0, none⟩), .agg #[.int .i64 0, .int .i64 (nE : Int), .string s]] w fun e w' => e = .returned (.int .i64 0) ∧ ∃ e1, BK base w' gb gd n e1 ((used : Int) + ((1 + (s.size + 6) / 64 : Nat) : Int)) f (nE + 1) (xs ++ [.int .i64 0, .int .i64 (nE : Int), .string s]) 0 ∧ Below base w w' := by
  have hB1 : Below w.heap.size w ((w.alloc (.cells #[.int .i64 0, .int .i64 (nE : Int), .string s] 23)).alloc (.cells #[.int .i64 0] 28)) := below_alloc (below_alloc (Below.refl _ _) _) _
  have HBK := Aside0.mk (h.below hB1)
  have k1_ := HBK.out.2.1
  have k2_ := HBK.out.2.2.1
  have HX := Aside0.mk (blk_new1 w (.cells #[.int .i64 0, .int .i64 (nE : Int), .string s] 23) (.cells #[.int .i64 0] 28))
  have HE := Aside0.mk (blk_new2 w (.cells #[.int .i64 0, .int .i64 (nE : Int), .string s] 23) (.cells #[.int .i64 0] 28))
  have HBe := Aside0.mk (hB1.mono hbase)
  have HBs := Aside0.mk (Nat.le_trans hbase hB1.size)
  clear h hB1
  go_enter_defers Try.func61, Try.ntmps61
  go_wp2_with (go_at_call 111; (with_reducible refine (bup_calls _ _ _ _ _ _ _ _ _ k1_ k2_).mono ?_); rintro e w1 ⟨rfl, hb⟩)
  have HX' := Aside0.mk ((hb.block _ (blk_lt HX.out)).trans HX.out)
  have HBK' := Aside0.mk (HBK.out.below hb)
  have HE' := Aside0.mk ((hb.block _ (blk_lt HE.out)).trans HE.out)
  have HBe' := Aside0.mk (HBe.out.trans (hb.mono HBs.out))
  have HBs' := Aside0.mk (Nat.le_trans HBs.out hb.size)
  clear HX HBK HE HBe HBs k1_ k2_ hb
  have HX := HX'
  have HBK := HBK'
  have HE := HE'
  have HBe := HBe'
  have HBs := HBs'
  clear HX' HBK' HE' HBe' HBs'
  refine rg_ [0, 1, 2, 3, 4, 5, 6, 7, 8, 9, 10, 11] [(0, 8), (1, 9), (2, 10), (3, 11), (4, 12), (5, 13), (6, 14), (7, 15), (8, 16), (9, 17), (10, 18), (11, 19)] (bitsOf (rtab .any (opsOf Try.f61 3)).2) (addRel gb w.heap.size 0 (nE : Int) s) (by kernel_rfl) rfl (by kernel_rfl) rfl (by kernel_rfl) (fun j v w w' h _ => by revert h; unfold addRel; split <;> exact id) ?steps ?rend
  case steps =>
    refine steps_cons (fun a1 w2 hB hsz hdf hn hd => ⟨_, rfl, fun K hK => ?_⟩) ?_
    · have e3 := eval_of ((hn 3 rfl).trans rfl)
      refine value_ (v := .agg #[.int .i64 0, .int .i64 (nE : Int), .string s]) (w1 := w2) rfl rfl ?_ (hK _ _ (Below.refl _ _) rfl)
      clear hd hn hK
      simp only [execOp, Option.map_some, Option.map_none, List.map_toArray, List.map_cons, List.map_nil, List.getElem_toArray, List.getElem_cons_zero, List.getElem_cons_succ, e3]
      clear e3
      have hbx := (hB.block _ (blk_lt HX.out)).trans HX.out
      have hx0 : w2.cell? ⟨w.heap.size, 0, none⟩ = some (.int .i64 0) := (blk_cell hbx 0).trans rfl
      have hx1 : w2.cell? ⟨w.heap.size, 1, none⟩ = some (.int .i64 (nE : Int)) := (blk_cell hbx 1).trans rfl
      have hx2 : w2.cell? ⟨w.heap.size, 2, none⟩ = some (.string s) := (blk_cell hbx 2).trans rfl
      clear hB hbx
      go_simp
    refine steps_cons (fun a1 w2 hB hsz hdf hn hd => ⟨_, rfl, fun K hK => ?_⟩) ?_
    · obtain ⟨v8, h8, rfl⟩ := hd 0 8 rfl (by kernel_rfl)
      have e8 := eval_of h8
      clear h8
      refine goes_ Try.func16 (by kernel_rfl) rfl #[.agg #[.int .i64 0, .int .i64 (nE : Int), .string s]] (by rfl) rfl rfl (by simp only [List.map_toArray, List.map_cons, List.map_nil, e8]) ?_
      refine (check0_calls (nE : Int) s _ (by omega) (by omega) hs).mono ?_
      rintro e w3 ⟨rfl, hbw⟩
      exact ⟨_, rfl, hK _ _ hbw rfl⟩
    refine steps_cons (fun a1 w2 hB hsz hdf hn hd => ⟨_, rfl, fun K hK => ?_⟩) ?_
    · obtain ⟨v9, h9, rfl⟩ := hd 1 9 rfl (by kernel_rfl)
      have e9 := eval_of h9
      clear h9
      refine value_ (v := .bool false) (w1 := w2) rfl rfl ?_ (hK _ _ (Below.refl _ _) rfl)
      clear hd hn hK
      simp only [execOp, Option.map_some, Option.map_none, List.map_toArray, List.map_cons, List.map_nil, List.getElem_toArray, List.getElem_cons_zero, List.getElem_cons_succ, e9]
      clear e9
      go_simp
    refine steps_cons (fun a1 w2 hB hsz hdf hn hd => ⟨_, rfl, fun K hK => ?_⟩) ?_
    · obtain ⟨v10, h10, rfl⟩ := hd 2 10 rfl (by kernel_rfl)
      have e10 := eval_of h10
      clear h10
      refine value_ (v := .bool false) (w1 := w2) rfl rfl ?_ (hK _ _ (Below.refl _ _) rfl)
      clear hd hn hK
      simp only [execOp, Option.map_some, Option.map_none, List.map_toArray, List.map_cons, List.map_nil, List.getElem_toArray, List.getElem_cons_zero, List.getElem_cons_succ, e10]
      clear e10
      go_simp
    refine steps_cons (fun a1 w2 hB hsz hdf hn hd => ⟨_, rfl, fun K hK => ?_⟩) ?_
    · have e0 := eval_of ((hn 0 rfl).trans rfl)
      obtain ⟨v11g, h11g, q11g⟩ := hd 3 11 rfl (by kernel_rfl)
      have e11g : v11g = .bool false := q11g
      subst e11g
      refine value_ (v := .pointer (some ⟨gb, 0, none⟩)) (w1 := w2) (wanted_of (j := 3) (b := false) (t := 11) rfl rfl h11g) rfl ?_ (hK _ _ (Below.refl _ _) rfl)
      clear hd hn hK
      simp only [execOp, Option.map_some, Option.map_none, List.map_toArray, List.map_cons, List.map_nil, List.getElem_toArray, List.getElem_cons_zero, List.getElem_cons_succ, e0]
      clear e0
      go_simp
    refine steps_cons (fun a1 w2 hB hsz hdf hn hd => ⟨_, rfl, fun K hK => ?_⟩) ?_
    · obtain ⟨v12, h12, rfl⟩ := hd 4 12 rfl (by kernel_rfl)
      have e12 := eval_of h12
      clear h12
      obtain ⟨v11g, h11g, q11g⟩ := hd 3 11 rfl (by kernel_rfl)
      have e11g : v11g = .bool false := q11g
      subst e11g
      refine value_ (v := .pointer (some ⟨gb, 0, none⟩)) (w1 := w2) (wanted_of (j := 3) (b := false) (t := 11) rfl rfl h11g) rfl ?_ (hK _ _ (Below.refl _ _) rfl)
      clear hd hn hK
      simp only [execOp, Option.map_some, Option.map_none, List.map_toArray, List.map_cons, List.map_nil, List.getElem_toArray, List.getElem_cons_zero, List.getElem_cons_succ, e12]
      clear e12
      go_simp
    refine steps_cons (fun a1 w2 hB hsz hdf hn hd => ⟨_, rfl, fun K hK => ?_⟩) ?_
    · obtain ⟨v13, h13, rfl⟩ := hd 5 13 rfl (by kernel_rfl)
      have e13 := eval_of h13
      clear h13
      obtain ⟨v11g, h11g, q11g⟩ := hd 3 11 rfl (by kernel_rfl)
      have e11g : v11g = .bool false := q11g
      subst e11g
      refine value_ (v := .pointer (some ⟨gb, 0, none⟩)) (w1 := w2) (wanted_of (j := 3) (b := false) (t := 11) rfl rfl h11g) rfl ?_ (hK _ _ (Below.refl _ _) rfl)
      clear hd hn hK
      simp only [execOp, Option.map_some, Option.map_none, List.map_toArray, List.map_cons, List.map_nil, List.getElem_toArray, List.getElem_cons_zero, List.getElem_cons_succ, e13]
      clear e13
      go_simp
    refine steps_cons (fun a1 w2 hB hsz hdf hn hd => ⟨_, rfl, fun K hK => ?_⟩) ?_
    · have e3 := eval_of ((hn 3 rfl).trans rfl)
      obtain ⟨v11g, h11g, q11g⟩ := hd 3 11 rfl (by kernel_rfl)
      have e11g : v11g = .bool false := q11g
      subst e11g
      refine value_ (v := .pointer (some ⟨w.heap.size, 0, none⟩)) (w1 := w2) (wanted_of (j := 3) (b := false) (t := 11) rfl rfl h11g) rfl ?_ (hK _ _ (Below.refl _ _) rfl)
      clear hd hn hK
      simp only [execOp, Option.map_some, Option.map_none, List.map_toArray, List.map_cons, List.map_nil, List.getElem_toArray, List.getElem_cons_zero, List.getElem_cons_succ, e3]
      clear e3
      go_simp
    refine steps_cons (fun a1 w2 hB hsz hdf hn hd => ⟨_, rfl, fun K hK => ?_⟩) ?_
    · obtain ⟨v15, h15, rfl⟩ := hd 7 15 rfl (by kernel_rfl)
      have e15 := eval_of h15
      clear h15
      obtain ⟨v11g, h11g, q11g⟩ := hd 3 11 rfl (by kernel_rfl)
      have e11g : v11g = .bool false := q11g
      subst e11g
      refine value_ (v := .int .i64 0) (w1 := w2) (wanted_of (j := 3) (b := false) (t := 11) rfl rfl h11g) rfl ?_ (hK _ _ (Below.refl _ _) rfl)
      clear hd hn hK
      simp only [execOp, Option.map_some, Option.map_none, List.map_toArray, List.map_cons, List.map_nil, List.getElem_toArray, List.getElem_cons_zero, List.getElem_cons_succ, e15]
      clear e15
      have hbx := (hB.block _ (blk_lt HX.out)).trans HX.out
      have hx0 : w2.cell? ⟨w.heap.size, 0, none⟩ = some (.int .i64 0) := (blk_cell hbx 0).trans rfl
      clear hB hbx
      go_simp
    refine steps_cons (fun a1 w2 hB hsz hdf hn hd => ⟨_, rfl, fun K hK => ?_⟩) ?_
    · obtain ⟨v14, h14, rfl⟩ := hd 6 14 rfl (by kernel_rfl)
      have e14 := eval_of h14
      clear h14
      obtain ⟨v16, h16, rfl⟩ := hd 8 16 rfl (by kernel_rfl)
      have e16 := eval_of h16
      clear h16
      obtain ⟨v11g, h11g, q11g⟩ := hd 3 11 rfl (by kernel_rfl)
      have e11g : v11g = .bool false := q11g
      subst e11g
      refine goes_ Try.func112 (by kernel_rfl) rfl #[.pointer (some ⟨gb, 0, none⟩), .int .i64 0] (wanted_of (j := 3) (b := false) (t := 11) rfl rfl h11g) rfl rfl (by simp only [List.map_toArray, List.map_cons, List.map_nil, e14, e16]) ?_
      refine (has_calls _ _ _ _ _ _ 0 (HBK.out.2.1.below hB) (by decide) (by decide)).mono ?_
      rintro e w3 ⟨rfl, hbw⟩
      exact ⟨_, rfl, hK _ _ hbw rfl⟩
    refine steps_cons (fun a1 w2 hB hsz hdf hn hd => ⟨_, rfl, fun K hK => ?_⟩) ?_
    · obtain ⟨v17, h17, rfl⟩ := hd 9 17 rfl (by kernel_rfl)
      have e17 := eval_of h17
      clear h17
      obtain ⟨v11g, h11g, q11g⟩ := hd 3 11 rfl (by kernel_rfl)
      have e11g : v11g = .bool false := q11g
      subst e11g
      refine value_ (v := .bool false) (w1 := w2) (wanted_of (j := 3) (b := false) (t := 11) rfl rfl h11g) rfl ?_ (hK _ _ (Below.refl _ _) rfl)
      clear hd hn hK
      simp only [execOp, Option.map_some, Option.map_none, List.map_toArray, List.map_cons, List.map_nil, List.getElem_toArray, List.getElem_cons_zero, List.getElem_cons_succ, e17]
      clear e17
      go_simp
    refine steps_cons (fun a1 w2 hB hsz hdf hn hd => ⟨_, rfl, fun K hK => ?_⟩) ?_
    · obtain ⟨v11, h11, rfl⟩ := hd 3 11 rfl (by kernel_rfl)
      have e11 := eval_of h11
      clear h11
      obtain ⟨v18, h18, rfl⟩ := hd 10 18 rfl (by kernel_rfl)
      have e18 := eval_of h18
      clear h18
      refine value_ (v := .bool false) (w1 := w2) rfl rfl ?_ (hK _ _ (Below.refl _ _) rfl)
      clear hd hn hK
      simp only [execOp, Option.map_some, Option.map_none, List.map_toArray, List.map_cons, List.map_nil, List.getElem_toArray, List.getElem_cons_zero, List.getElem_cons_succ, e11, e18]
      clear e11 e18
      go_simp
    exact steps_nil
  case rend =>
    intro vals w2 hB hrr
    have hl : vals 11 = .bool false := hrr (11, 19) (by simp)
    have HX' := Aside0.mk ((hB.block _ (blk_lt HX.out)).trans HX.out)
    have HBK' := Aside0.mk (HBK.out.below hB)
    have HE' := Aside0.mk ((hB.block _ (blk_lt HE.out)).trans HE.out)
    have HBe' := Aside0.mk (HBe.out.trans (hB.mono HBs.out))
    have HBs' := Aside0.mk (Nat.le_trans HBs.out hB.size)
    clear HX HBK HE HBe HBs hB hrr
    have HX := HX'
    have HBK := HBK'
    have HE := HE'
    have HBe := HBe'
    have HBs := HBs'
    clear HX' HBK' HE' HBe' HBs'
    obtain ⟨A, c, hA⟩ := HBK.out.2.2.2.slice
    have x0 : w2.cell? ⟨w.heap.size, 0, none⟩ = some (.int .i64 0) := (blk_cell HX.out 0).trans rfl
    have x1 : w2.cell? ⟨w.heap.size, 1, none⟩ = some (.int .i64 (nE : Int)) := (blk_cell HX.out 1).trans rfl
    have x2 : w2.cell? ⟨w.heap.size, 2, none⟩ = some (.string s) := (blk_cell HX.out 2).trans rfl
    have y1 : w2.cell? ⟨gb, 1, none⟩ = some (.slice A nE c) := (blk_cell HBK.out.2.1 1).trans (by rw [hA]; rfl)
    have t1 : decide ((nE : Int) < (nE : Int)) = false := by simp
    simp only [fill, Act.put, List.setIfInBounds_toArray, List.set_cons_zero, List.set_cons_succ, hl]
    clear hl
    go_wp2
    go_region
    all_goals go_wp2
    go_quiet (fail)
    go_wp2_with (go_at_call 113; refine (bwriteA_calls base _ gb gd n nE k used e0 f xs s (HBK.out.below ?hbx) ?bs hf hn4 hk hnE hs hat).mono ?_; (case hbx => repeat (first | exact Below.refl _ _ | apply below_drew | apply pw_below_drewN | apply below_drew1)); (case bs => exact HBs.out); rintro e w5 ⟨rfl, e1, hbk5, hbe5, hkv5⟩; have hE5 := hkv5 _ _ _ (by decide) (by decide) (by decide) (by decide) (by decide) (((by repeat (first | exact Below.refl _ _ | apply below_drew | apply pw_below_drewN | apply below_drew1)) : Below w2.heap.size w2 _).block _ (blk_lt HE.out) |>.trans HE.out); have z1 : w5.cell? ⟨w.heap.size + 1, 0, none⟩ = some (.int .i64 0) := (blk_cell hE5 0).trans rfl; have z2 := blk_frozen hE5 0; have HE5 := Aside0.mk hE5; have HBK5 := Aside0.mk hbk5; have HBe5 := Aside0.mk hbe5; clear hE5 hbk5 hbe5 hkv5)
    have hcE := (blk_cell (blk_set HE5.out 0 (.int .i64 0)) 0).trans rfl
    refine leaves_cons (f := 108) (args := #[.pointer (some ⟨w.heap.size + 1, 0, none⟩)]) (by simp) (by simp [go_sem]) ?_
    refine (caught_idle _ _).mono ?_
    rintro e u' w'' ⟨rfl, rfl, rfl⟩
    have HF := Aside0.mk (HBK5.out.setVar HE5.out (.int .i64 0))
    have HG : Aside0 (Below base w (w5.setCell ⟨w.heap.size + 1, 0, none⟩ (.int .i64 0))) := Aside0.mk ((HBe.out.trans ((by repeat (first | exact Below.refl _ _ | apply below_drew | apply pw_below_drewN | apply below_drew1) : Below base w2 _).trans HBe5.out)).setCell (Nat.le_trans hbase (Nat.le_succ _)) _)
    refine ⟨_, ?_, rfl, e1, HF.out, HG.out⟩
    simp [results, Try.results61, go_sem, hcE]
end Go.Proofs.Ytkedodmlbepfnaa.Lg

-- from the working text Ch
set_option linter.unusedSimpArgs false
set_option linter.unusedVariables false
namespace Go.Proofs.Ytkedodmlbepfnaa.Lg
open Go.RowKit Go.Proofs.YtkedodmlbepfnaaW.PrintWords Go.Proofs.YtkedodmlbepfnaaW.PrintLast Go.Proofs.YtkedodmlbepfnaaW.PrintMore Go.Proofs.Ytkedodmlbepfnaa.Rg
set_option maxHeartbeats 8000000 in
set_option maxRecDepth 100000 in
theorem changedB_calls (w : World) (S : Nat → Prop) (gb gd nE : Nat) (e0 : Value) (used f : Int) (y0 y1 : Value) (t : ByteArray) (ys : List Value) (s : ByteArray) (hb : BookAt w gb gd e0 used f) (ho : Own w S 23 3 e0 nE (y0 :: y1 :: .string t :: ys)) (hn1 : 1 ≤ nE) (hn : nE ≤ 60) (hs : s.size ≤ 2400) (hlt : Op.bytesLess s.toList t.toList = true) :
    Calls Try.prog 115 #[.pointer (some ⟨gb, 0, none⟩), .agg #[.int .i64 0, .int .i64 0, .string s]] w fun e w' => e = .returned (.bool true) ∧ Below w.heap.size w w' := by
  have hB1 : Below w.heap.size w (w.alloc (.cells #[.int .i64 0, .int .i64 0, .string s] 23)) := below_alloc (Below.refl _ _) _
  have HBK := Aside0.mk (hb.below hB1)
  have HO := Aside0.mk (own_later ho hB1)
  have HX := Aside0.mk (blk_new w (.cells #[.int .i64 0, .int .i64 0, .string s] 23))
  have HBe := Aside0.mk hB1
  have bE : ((0 : Int) == (nE : Int)) = false := by rw [beq_eq_false_iff_ne]; omega
  have bL : decide ((0 : Int) < (nE : Int)) = true := by simp; omega
  have bN : decide (0 < nE) = true := by simp; omega
  clear hb ho hB1
  go_enter Try.func115, Try.ntmps115
  go_wp2_with (first
    | (go_at_call 16; (with_reducible refine (check0_calls 0 s _ (by decide) (by decide) hs).mono ?_); rintro e w1 ⟨rfl, hb⟩; have n1_ := Aside0.mk (HBK.out.below hb); have n2_ := Aside0.mk (own_later HO.out hb); have n3_ := Aside0.mk ((hb.block _ (blk_lt HX.out)).trans HX.out); have n4_ := Aside0.mk (HBe.out.trans (hb.mono HBe.out.size)); clear HBK HO HX HBe hb; have HBK := n1_; have HO := n2_; have HX := n3_; have HBe := n4_; clear n1_ n2_ n3_ n4_; have x0 := (blk_cell HX.out 0).trans rfl)
    | (go_at_call 112; have k1_ := HBK.out; (with_reducible refine (has_calls _ _ _ _ _ _ 0 k1_ (by decide) (by decide)).mono ?_); clear k1_; rintro e w1 ⟨rfl, hb⟩; have n1_ := Aside0.mk (HBK.out.below hb); have n2_ := Aside0.mk (own_later HO.out hb); have n3_ := Aside0.mk ((hb.block _ (blk_lt HX.out)).trans HX.out); have n4_ := Aside0.mk (HBe.out.trans (hb.mono HBe.out.size)); clear HBK HO HX HBe hb; have HBK := n1_; have HO := n2_; have HX := n3_; have HBe := n4_; clear n1_ n2_ n3_ n4_))
  obtain ⟨gE, c, cur, rfl, hSE, hcur, hnc, _, hcs, htk⟩ := HO.out.form hn1
  have hcell : ∀ (i : Nat) (u : Value), (y0 :: y1 :: Value.string t :: ys)[i]? = some u → cur[i]? = some u := by
    intro i u hi
    rw [← htk, List.getElem?_take] at hi
    split at hi
    · rw [← Array.getElem?_toList]; exact hi
    · cases hi
  have c1 : w1.cell? ⟨gb, 1, none⟩ = some (.slice (some ⟨gE, 0, none⟩) nE c) := (blk_cell HBK.out 1).trans rfl
  have d2 : w1.cell? ⟨gE, 2, none⟩ = some (.string t) := (blk_cell hcur 2).trans (hcell 2 _ rfl)
  have x0' : w1.cell? ⟨w.heap.size, 0, none⟩ = some (.int .i64 0) := (blk_cell HX.out 0).trans rfl
  have x1 : w1.cell? ⟨w.heap.size, 1, none⟩ = some (.int .i64 0) := (blk_cell HX.out 1).trans rfl
  have x2 : w1.cell? ⟨w.heap.size, 2, none⟩ = some (.string s) := (blk_cell HX.out 2).trans rfl
  clear x0 hcur hcell hcs htk
  go_region
  all_goals go_wp2
  go_quiet (fail)
  go_wp2
  go_ret
  exact ⟨rfl, HBe.out.trans (by repeat (first | exact Below.refl _ _ | apply below_drew | apply pw_below_drewN | apply below_drew1))⟩
end Go.Proofs.Ytkedodmlbepfnaa.Lg

-- from the working text Mp
set_option linter.unusedSimpArgs false
set_option linter.unusedVariables false
namespace Go.Proofs.Ytkedodmlbepfnaa.Lg
open Go.RowKit Go.Proofs.YtkedodmlbepfnaaW.PrintWords Go.Proofs.YtkedodmlbepfnaaW.PrintLast Go.Proofs.YtkedodmlbepfnaaW.PrintMore Go.Proofs.Ytkedodmlbepfnaa.Rg
theorem run_part3 (cs : Array Value) (i : Nat) (v : Value) (w : World) (h : cs[i]? = some v) : (part 3 cs i).run Try.prog w = .ok v w := by
  simp [part, isAgg, run_underlying Try.underlying3, h]
theorem sizeOf3 (w : World) : (sizeOf 3).run Try.prog w = .ok 1 w := by
  cases hq : Try.prog.info? 3 with
  | none => have := size3; simp [hq] at this
  | some it =>
    have := size3
    simp [hq] at this
    simp [sizeOf, typeInfo, hq, this]
theorem key_check1 (e : Bool) (n : Nat) (a : Int) (w : World) : (Instr.checkKey e (n + 1) 3 (.int .i64 a)).run Try.prog w = .ok () w := by
  simp [Instr.checkKey, run_underlying Try.underlying3]
theorem key_check (e : Bool) (a b : Int) (w : World) : (Instr.checkKey e 10000 155 (.agg #[.int .i64 a, .int .i64 b])).run Try.prog w = .ok () w := by
  show (Instr.checkKey e (9998 + 1 + 1) 155 (.agg #[.int .i64 a, .int .i64 b])).run Try.prog w = .ok () w
  have h0 := fun w => run_part3 #[.int .i64 a, .int .i64 b] 0 _ w rfl
  have h1 := fun w => run_part3 #[.int .i64 a, .int .i64 b] 1 _ w rfl
  rw [Instr.checkKey]
  simp [run_underlying Try.underlying155, Std.Legacy.Range.forIn_eq_forIn_range', sizeOf3, h0, h1, key_check1, List.range']
theorem key_eq (a b c d : Int) (w : World) : (Op.equal 155 (.agg #[.int .i64 a, .int .i64 b]) (.agg #[.int .i64 c, .int .i64 d])).run Try.prog w = .ok (a == c && b == d) w := by
  show (Op.equalIn (9998 + 1 + 1) 155 _ _).run Try.prog w = _
  have h0 := fun w => run_part3 #[.int .i64 a, .int .i64 b] 0 _ w rfl
  have h1 := fun w => run_part3 #[.int .i64 a, .int .i64 b] 1 _ w rfl
  have h2 := fun w => run_part3 #[.int .i64 c, .int .i64 d] 0 _ w rfl
  have h3 := fun w => run_part3 #[.int .i64 c, .int .i64 d] 1 _ w rfl
  have hi := fun w x y => run_equalIn_int (P := Try.prog) w 9998 3 .i64 .i64 x y Try.underlying3
  rw [Op.equalIn]
  simp [run_underlying Try.underlying155, Std.Legacy.Range.forIn_eq_forIn_range', sizeOf3, h0, h1, h2, h3, hi, List.range']
  by_cases h : a = c <;> by_cases h' : b = d <;> simp [h, h']
theorem find_nil (k : Value) (w : World) : (Instr.findKey 155 k []).run Try.prog w = .ok none w := by
  simp [Instr.findKey, run_underlying Try.underlying155, Instr.findNow]
theorem find_one (a b c d : Int) (v : Value) (n : Nat) (w : World) : (Instr.findKey 155 (.agg #[.int .i64 a, .int .i64 b]) [{ key := .agg #[.int .i64 c, .int .i64 d], val := v, born := n }]).run Try.prog w = .ok (if (a == c && b == d) = true then some (0, v) else none) w := by
  simp only [Instr.findKey, Sem.run_bind, run_underlying Try.underlying155, Result.andThen_ok, Instr.findNow, Instr.sameNow, Instr.findAsking, key_eq]
  split <;> simp_all
/-- The zero entry. -/
abbrev noEntry : Value := .agg #[.int .i64 0, .int .i64 0, .string ⟨#[]⟩]
theorem zero23 (w : World) : (zeroValue 23).run Try.prog w = .ok noEntry w := by
  have h : (Try.prog.info? 23).map (·.zero) = some (some noEntry) := by kernel_rfl
  cases hq : Try.prog.info? 23 with
  | none => simp [hq] at h
  | some it =>
    simp [hq] at h
    simp [zeroValue, typeInfo, hq, h]
theorem run_make154 (w : World) : (Instr.makeMap 154 none).run Try.prog w = .ok (.map (some w.heap.size)) (w.alloc (.map #[] 0)) := run_makeMap_plain (P := Try.prog) w 154
theorem run_look0 (r c : Nat) (a b : Int) (w : World) (h : w.heap[r]? = some (.map #[] c)) : (Instr.lookup 154 (.map (some r)) (.agg #[.int .i64 a, .int .i64 b]) true).run Try.prog w = .ok (.tuple #[noEntry, .bool false]) w := by
  simp [Instr.lookup, run_underlying Try.underlying154, MapKept.run_getObj_map h, key_check, find_nil, zero23]
theorem run_look1 (r c m : Nat) (a b i j : Int) (v : Value) (w : World) (h : w.heap[r]? = some (.map #[{ key := .agg #[.int .i64 i, .int .i64 j], val := v, born := m }] c)) : (Instr.lookup 154 (.map (some r)) (.agg #[.int .i64 a, .int .i64 b]) true).run Try.prog w = .ok (.tuple (if (a == i && b == j) = true then #[v, .bool true] else #[noEntry, .bool false])) w := by
  simp only [Instr.lookup, Sem.run_bind, run_underlying Try.underlying154, Result.andThen_ok, MapKept.run_getObj_map h, key_check, find_one, Sem.run_pure]
  by_cases h1 : (a == i && b == j) = true
  · rw [if_pos h1, if_pos h1]
    simp
  · rw [if_neg h1, if_neg h1]
    simp [zero23]
/-- A block is replaced. -/
def putB (w : World) (r : Nat) (o : Obj) : World := { w with heap := w.heap.setIfInBounds r o }
theorem run_upd0 (r c : Nat) (a b : Int) (v : Value) (w : World) (h : w.heap[r]? = some (.map #[] c)) : (Instr.mapUpdate 154 (.map (some r)) (.agg #[.int .i64 a, .int .i64 b]) v).run Try.prog w = .ok () (putB w r (.map #[{ key := .agg #[.int .i64 a, .int .i64 b], val := v, born := c }] (c + 1))) := by
  simp [Instr.mapUpdate, run_underlying Try.underlying154, MapKept.run_getObj_map h, key_check, find_nil, MapKept.run_setObj_map _ h, putB]
theorem putB_self (w : World) (r : Nat) (o : Obj) (h : r < w.heap.size) : (putB w r o).heap[r]? = some o := by
  simp [putB, h]
theorem putB_other (w : World) (r k : Nat) (o : Obj) (h : k ≠ r) : (putB w r o).heap[k]? = w.heap[k]? := by
  simp [putB, Array.getElem?_setIfInBounds, Ne.symm h]
end Go.Proofs.Ytkedodmlbepfnaa.Lg

-- from the working text Tk
set_option linter.unusedSimpArgs false
set_option linter.unusedVariables false
namespace Go.Proofs.Ytkedodmlbepfnaa.Lg
open Go.RowKit Go.Proofs.YtkedodmlbepfnaaW.PrintWords Go.Proofs.YtkedodmlbepfnaaW.PrintLast Go.Proofs.YtkedodmlbepfnaaW.PrintMore Go.Proofs.Ytkedodmlbepfnaa.Rg
set_option maxRecDepth 100000 in
theorem take1_idle (p q : Addr) (w : World) (h : w.cell? p = some (.int .i64 0)) :
    CallsD Try.prog 114 #[.pointer (some p), .pointer (some q)] .returning w fun e u' w' => u' = .returning ∧ (e = .returned (.tuple #[]) ∧ w' = w) := by
  go_enter_d Try.func114, Try.ntmps114
  go_wp2
  go_end0
  exact ⟨rfl, rfl⟩
/-- What stands while Take goes on: the book, the two results, the map. -/
def TI (base : Nat) (w W : World) (gb gd n : Nat) (e0 : Value) (used f : Int) (xs : List Value) (k b r c : Nat) (es : Array MapEntry) (cnt : Int) : Prop :=
  BK base W gb gd n e0 used f 2 xs k ∧ W.heap[b]? = some (.cells #[.int .i64 cnt] 3 (0, 0)) ∧ W.heap[b + 1]? = some (.cells #[.int .i64 0] 28 (0, 0)) ∧ Below base w W ∧ base ≤ W.heap.size ∧ W.heap[r]? = some (.map es c) ∧ base ≤ b
theorem TI.below {base : Nat} {w W W' : World} {gb gd n : Nat} {e0 : Value} {used f : Int} {xs : List Value} {k b r c : Nat} {es : Array MapEntry} {cnt : Int} (h : TI base w W gb gd n e0 used f xs k b r c es cnt) (hb : Below W.heap.size W W') : TI base w W' gb gd n e0 used f xs k b r c es cnt := by
  obtain ⟨h1, h2, h3, h4, h5, h6, h7⟩ := h
  exact ⟨h1.below hb, (hb.block _ (blk_lt h2)).trans h2, (hb.block _ (blk_lt h3)).trans h3, h4.trans (hb.mono h5), Nat.le_trans h5 hb.size, (hb.block _ (Obj.lt h6)).trans h6, h7⟩
/-- Blocks of other kinds are written. -/
theorem BK.kp {base gb gd n nE k : Nat} {w w1 : World} {e0 : Value} {used f : Int} {xs : List Value} {S : Nat → Prop} (h : BK base w gb gd n e0 used f nE xs k) (hk : Kp S w w1) (hS : ∀ i, S i → ∃ o, w.heap[i]? = some o ∧ Out o) : BK base w1 gb gd n e0 used f nE xs k := by
  obtain ⟨h1, h2, h3, h4⟩ := h
  have h2' : w.heap[gb]? = some (.cells (bookCells e0 used gd f) 95 (0, 0)) := h2
  refine ⟨h1, (hk.block gb (blk_lt h2') (fun e => ?_)).trans h2', (h3.typed.kp hk fun i hi _ e => ?_).mono fun i hi => hi.1, (h4.exact.kp hk fun i hi hlt e => ?_).mono fun i hi => h4.2 i hi⟩
  · obtain ⟨o, ho, hO⟩ := hS gb e
    rw [h2'] at ho
    injection ho with ho
    exact (hO _ _ _ ho.symm).2.2.2.2 rfl
  · obtain ⟨o, ho, hO⟩ := hS i e
    exact TY.out ho hO hi.2
  · obtain ⟨o, ho, hO⟩ := hS i e
    obtain ⟨c, hc⟩ := own_typed h4.1 i hi
    rw [hc] at ho
    injection ho with ho
    exact (hO _ _ _ ho.symm).2.2.2.1 rfl
theorem Kp.putB {S : Nat → Prop} (w : World) {r : Nat} (hr : S r) (o : Obj) : Kp S w (putB w r o) :=
  ⟨rfl, rfl, rfl, by simp [Lg.putB], fun k _ hk => putB_other w r k o (fun e => hk (e ▸ hr))⟩
theorem TI.upd {base : Nat} {w W : World} {gb gd n : Nat} {e0 : Value} {used f : Int} {xs : List Value} {k b r c : Nat} {es : Array MapEntry} {cnt : Int} (h : TI base w W gb gd n e0 used f xs k b r c es cnt) (hr : base ≤ r) (es' : Array MapEntry) (c' : Nat) : TI base w (putB W r (.map es' c')) gb gd n e0 used f xs k b r c' es' cnt := by
  obtain ⟨h1, h2, h3, h4, h5, h6, h7⟩ := h
  have hk : Kp (fun i => i = r) W (putB W r (.map es' c')) := Kp.putB (S := fun i => i = r) W rfl _
  have e1 : b ≠ r := fun e => by rw [e, h6] at h2; cases h2
  have e2 : b + 1 ≠ r := fun e => by rw [e, h6] at h3; cases h3
  exact ⟨h1.kp hk (fun i hi => ⟨_, hi ▸ h6, Out.map _ _⟩), (putB_other W r b _ e1).trans h2, (putB_other W r (b + 1) _ e2).trans h3, h4.trans (hk.to_below (fun i hi => hi ▸ hr) h5), Nat.le_trans h5 hk.size, putB_self W r _ (Obj.lt h6), h7⟩
def tkRel (gb : Nat) (s : ByteArray) : Nat → Value → World → Prop
  | 0, v, _ => v = .bool true
  | 1, v, _ => v = .bool true
  | 2, v, _ => v = .pointer (some ⟨gb, 0, none⟩)
  | 3, v, _ => v = .pointer (some ⟨gb, 0, none⟩)
  | 4, v, _ => v = .pointer (some ⟨gb, 0, none⟩)
  | 5, v, _ => v = .agg #[.int .i64 0, .int .i64 0, .string s]
  | 6, v, _ => v = .bool true
  | 7, v, _ => v = .bool true
  | _, _, _ => True
set_option maxHeartbeats 8000000 in
set_option maxRecDepth 100000 in
theorem takeB_calls (base : Nat) (w : World) (gb gd n k used gl : Nat) (e0 : Value) (f : Int) (y0 y1 : Value) (t : ByteArray) (ys : List Value) (s : ByteArray) (h : BK base w gb gd n e0 (used : Int) f 2 (y0 :: y1 :: .string t :: ys) k) (hbase : base ≤ w.heap.size) (hf : f ≤ 1000000) (hn4 : n ≤ 4096) (hk : k ≤ 100) (hs : s.size ≤ 2400) (hat : used + 1 + (s.size + 6) / 64 ≤ n) (hlt : Op.bytesLess s.toList t.toList = true) (hl : w.heap[gl]? = some (.cells #[.int .i64 0, .int .i64 0, .string s] 23 (0, 0))) :
    Calls Try.prog 62 #[.pointer (some ⟨gb, 0, none⟩), .slice (some ⟨gl, 0, none⟩) 1 1] w fun e w' => e = .returned (.tuple #[.int .i64 1, .int .i64 0]) ∧ ∃ e1, BK base w' gb gd n e1 ((used : Int) + ((1 + (s.size + 6) / 64 : Nat) : Int)) f 2 (.int .i64 0 :: .int .i64 0 :: .string s :: ys) 0 ∧ Below base w w' := by
  have hB1 : Below w.heap.size w ((w.alloc (.cells #[.int .i64 0] 3)).alloc (.cells #[.int .i64 0] 28)) := below_alloc (below_alloc (Below.refl _ _) _) _
  have HBK := Aside0.mk (h.below hB1)
  have k1_ := HBK.out.2.1
  have k2_ := HBK.out.2.2.1
  have HX := Aside0.mk (blk_new1 w (.cells #[.int .i64 0] 3) (.cells #[.int .i64 0] 28))
  have HE := Aside0.mk (blk_new2 w (.cells #[.int .i64 0] 3) (.cells #[.int .i64 0] 28))
  have HBe := Aside0.mk (hB1.mono hbase)
  have HBs := Aside0.mk (Nat.le_trans hbase hB1.size)
  have HL := Aside0.mk ((hB1.block _ (blk_lt hl)).trans hl)
  have hmf : ∀ (fn : Fn) (first cap : Array Value) (w : World), (Instr.makeFunc fn first cap).run Try.prog w = .ok (.func fn first cap) w := fun _ _ _ _ => rfl
  have hmm := run_make154
  clear h hB1 hl
  go_enter_defers Try.func62, Try.ntmps62
  go_wp2_with (go_at_call 111; (with_reducible refine (bup_calls _ _ _ _ _ _ _ _ _ k1_ k2_).mono ?_); rintro e w1 ⟨rfl, hb⟩)
  have HT : Aside0 (TI base w (w1.alloc (.map #[] 0)) gb gd n e0 used f (y0 :: y1 :: .string t :: ys) k w.heap.size w1.heap.size 0 #[] 0) := by
    have ha : Below w1.heap.size w1 (w1.alloc (.map #[] 0)) := below_alloc (Below.refl _ _) _
    have hb2 := hb.trans (ha.mono hb.size)
    exact Aside0.mk ⟨HBK.out.below hb2, (hb2.block _ (blk_lt HX.out)).trans HX.out, (hb2.block _ (blk_lt HE.out)).trans HE.out, HBe.out.trans (hb2.mono HBs.out), Nat.le_trans HBs.out hb2.size, blk_new _ _, hbase⟩
  have HL' : Aside0 ((w1.alloc (.map #[] 0)).heap[gl]? = some (.cells #[.int .i64 0, .int .i64 0, .string s] 23 (0, 0))) := by
    have ha : Below w1.heap.size w1 (w1.alloc (.map #[] 0)) := below_alloc (Below.refl _ _) _
    have hb2 := hb.trans (ha.mono hb.size)
    exact Aside0.mk ((hb2.block _ (blk_lt HL.out)).trans HL.out)
  have hrb : base ≤ w1.heap.size := Nat.le_trans HBs.out hb.size
  clear HL HBK HX HE HBe HBs k1_ k2_ hb hmm hmf
  revert HT HL' hrb
  generalize w1.alloc (.map #[] 0) = W2
  generalize w1.heap.size = r
  intro HT HL hrb
  have l0 : W2.cell? ⟨gl, 0, none⟩ = some (.int .i64 0) := (blk_cell HL.out 0).trans rfl
  have l1 : W2.cell? ⟨gl, 1, none⟩ = some (.int .i64 0) := (blk_cell HL.out 1).trans rfl
  have l2 : W2.cell? ⟨gl, 2, none⟩ = some (.string s) := (blk_cell HL.out 2).trans rfl
  have hr2 := HT.out.2.2.2.2.2.1
  have hk0 : ∀ o1 o2 o3, (Instr.lookup 154 (.map (some r)) (.agg #[.int .i64 0, .int .i64 0]) true).run Try.prog (((W2.alloc o1).alloc o2).alloc o3) = .ok (.tuple #[noEntry, .bool false]) (((W2.alloc o1).alloc o2).alloc o3) := fun o1 o2 o3 =>
    run_look0 r 0 0 0 _ (((below_alloc (below_alloc (below_alloc (Below.refl W2.heap.size W2) o1) o2) o3).block _ (Obj.lt hr2)).trans hr2)
  have hk1 : ∀ o1 o2 o3 o4 v, (Instr.mapUpdate 154 (.map (some r)) (.agg #[.int .i64 0, .int .i64 0]) v).run Try.prog ((((W2.alloc o1).alloc o2).alloc o3).alloc o4) = .ok () (putB ((((W2.alloc o1).alloc o2).alloc o3).alloc o4) r (.map #[{ key := .agg #[.int .i64 0, .int .i64 0], val := v, born := 0 }] 1)) := fun o1 o2 o3 o4 v =>
    run_upd0 r 0 0 0 v _ (((below_alloc (below_alloc (below_alloc (below_alloc (Below.refl W2.heap.size W2) o1) o2) o3) o4).block _ (Obj.lt hr2)).trans hr2)
  have hq : ∀ o1 o2 o3 o4 es c, (putB ((((W2.alloc o1).alloc o2).alloc o3).alloc o4) r (.map es c)).cell? ⟨gb, 0, none⟩ = some (.int .i64 2) := fun o1 o2 o3 o4 es c => by
    have hT := (HT.out.below (below_alloc (below_alloc (below_alloc (below_alloc (Below.refl W2.heap.size W2) o1) o2) o3) o4)).upd hrb es c
    exact (blk_cell hT.1.2.1 0).trans rfl
  have hT3 : ∀ o1 o2 o3 o4 es c, TI base w (putB ((((W2.alloc o1).alloc o2).alloc o3).alloc o4) r (.map es c)) gb gd n e0 used f (y0 :: y1 :: .string t :: ys) k w.heap.size r c es 0 := fun o1 o2 o3 o4 es c =>
    (HT.out.below (below_alloc (below_alloc (below_alloc (below_alloc (Below.refl W2.heap.size W2) o1) o2) o3) o4)).upd hrb es c
  have HT3 := Aside0.mk hT3
  clear hr2 hT3 hrb
  refine wp_loop_rounds 2 ?_
  rw [rounds_succ]
  go_wp2
  rw [rounds_succ]
  go_wp2
  clear hk0 hk1 hq l0 l1 l2 HL HT
  have HT4 := Aside0.mk (HT3.out (.cells #[.int .i64 0, .int .i64 0, .string s] 23) (.cells #[.int .i64 0, .int .i64 0, .string s] 23) (.cells #[.int .i64 0, .int .i64 0] 155) (.cells #[.int .i64 0, .int .i64 0, .string ⟨#[]⟩] 23) #[{ key := .agg #[.int .i64 0, .int .i64 0], val := .agg #[.int .i64 0, .int .i64 0, .string s], born := 0 }] 1)
  revert HT4
  generalize putB ((((W2.alloc (.cells #[.int .i64 0, .int .i64 0, .string s] 23)).alloc (.cells #[.int .i64 0, .int .i64 0, .string s] 23)).alloc (.cells #[.int .i64 0, .int .i64 0] 155)).alloc (.cells #[.int .i64 0, .int .i64 0, .string ⟨#[]⟩] 23)) r (.map #[{ key := .agg #[.int .i64 0, .int .i64 0], val := .agg #[.int .i64 0, .int .i64 0, .string s], born := 0 }] 1) = W4
  intro HT
  clear HT3
  obtain ⟨A, c, hA⟩ := HT.out.1.2.2.2.slice
  have q1 : W4.cell? ⟨gb, 1, none⟩ = some (.slice A 2 c) := (blk_cell HT.out.1.2.1 1).trans (by rw [hA]; rfl)
  have hk0 := run_look1 r 1 0 0 0 0 0 (.agg #[.int .i64 0, .int .i64 0, .string s]) W4 HT.out.2.2.2.2.2.1
  rw [if_pos (by decide)] at hk0
  have hx := blk_new W4 (.cells #[.int .i64 0, .int .i64 0, .string s] 23)
  have hB5 : Below W4.heap.size W4 (W4.alloc (.cells #[.int .i64 0, .int .i64 0, .string s] 23)) := below_alloc (Below.refl _ _) _
  have HT5 := Aside0.mk (HT.out.below hB5)
  have HX5 := Aside0.mk hx
  clear hx hB5
  have hb5 := HT5.out.1.2.1
  have ho5 := HT5.out.1.2.2.2
  refine wp_loop_rounds 3 ?_
  rw [rounds_succ]
  go_wp2
  refine wp_loop_rounds 4 ?_
  rw [rounds_succ]
  go_wp2
  refine rg_ [0, 1, 2, 3, 4, 5, 6, 7] [(0, 81), (1, 82), (2, 83), (3, 84), (4, 85), (5, 86), (6, 87), (7, 88)] (bitsOf (rtab .any (opsOf Try.f62 21)).2) (tkRel gb s) (by kernel_rfl) rfl (by kernel_rfl) rfl (by kernel_rfl) (fun j v w w' h _ => by revert h; unfold tkRel; split <;> exact id) ?steps ?rend
  case steps =>
    refine steps_cons (fun a1 w2 hB hsz hdf hn hd => ⟨_, rfl, fun K hK => ?_⟩) ?_
    · have e15 := eval_of ((hn 15 rfl).trans rfl)
      refine value_ (v := .bool true) (w1 := w2) rfl rfl ?_ (hK _ _ (Below.refl _ _) rfl)
      clear hd hn hK
      simp only [execOp, Option.map_some, Option.map_none, List.map_toArray, List.map_cons, List.map_nil, List.getElem_toArray, List.getElem_cons_zero, List.getElem_cons_succ, e15]
      clear e15
      go_simp
    refine steps_cons (fun a1 w2 hB hsz hdf hn hd => ⟨_, rfl, fun K hK => ?_⟩) ?_
    · obtain ⟨v81, h81, rfl⟩ := hd 0 81 rfl (by kernel_rfl)
      have e81 := eval_of h81
      clear h81
      refine value_ (v := .bool true) (w1 := w2) rfl rfl ?_ (hK _ _ (Below.refl _ _) rfl)
      clear hd hn hK
      simp only [execOp, Option.map_some, Option.map_none, List.map_toArray, List.map_cons, List.map_nil, List.getElem_toArray, List.getElem_cons_zero, List.getElem_cons_succ, e81]
      clear e81
      go_simp
    refine steps_cons (fun a1 w2 hB hsz hdf hn hd => ⟨_, rfl, fun K hK => ?_⟩) ?_
    · have e0 := eval_of ((hn 0 rfl).trans rfl)
      obtain ⟨v82g, h82g, q82g⟩ := hd 1 82 rfl (by kernel_rfl)
      have e82g : v82g = .bool true := q82g
      subst e82g
      refine value_ (v := .pointer (some ⟨gb, 0, none⟩)) (w1 := w2) (wanted_of (j := 1) (b := true) (t := 82) rfl rfl h82g) rfl ?_ (hK _ _ (Below.refl _ _) rfl)
      clear hd hn hK
      simp only [execOp, Option.map_some, Option.map_none, List.map_toArray, List.map_cons, List.map_nil, List.getElem_toArray, List.getElem_cons_zero, List.getElem_cons_succ, e0]
      clear e0
      go_simp
    refine steps_cons (fun a1 w2 hB hsz hdf hn hd => ⟨_, rfl, fun K hK => ?_⟩) ?_
    · obtain ⟨v83, h83, rfl⟩ := hd 2 83 rfl (by kernel_rfl)
      have e83 := eval_of h83
      clear h83
      obtain ⟨v82g, h82g, q82g⟩ := hd 1 82 rfl (by kernel_rfl)
      have e82g : v82g = .bool true := q82g
      subst e82g
      refine value_ (v := .pointer (some ⟨gb, 0, none⟩)) (w1 := w2) (wanted_of (j := 1) (b := true) (t := 82) rfl rfl h82g) rfl ?_ (hK _ _ (Below.refl _ _) rfl)
      clear hd hn hK
      simp only [execOp, Option.map_some, Option.map_none, List.map_toArray, List.map_cons, List.map_nil, List.getElem_toArray, List.getElem_cons_zero, List.getElem_cons_succ, e83]
      clear e83
      go_simp
    refine steps_cons (fun a1 w2 hB hsz hdf hn hd => ⟨_, rfl, fun K hK => ?_⟩) ?_
    · obtain ⟨v84, h84, rfl⟩ := hd 3 84 rfl (by kernel_rfl)
      have e84 := eval_of h84
      clear h84
      obtain ⟨v82g, h82g, q82g⟩ := hd 1 82 rfl (by kernel_rfl)
      have e82g : v82g = .bool true := q82g
      subst e82g
      refine value_ (v := .pointer (some ⟨gb, 0, none⟩)) (w1 := w2) (wanted_of (j := 1) (b := true) (t := 82) rfl rfl h82g) rfl ?_ (hK _ _ (Below.refl _ _) rfl)
      clear hd hn hK
      simp only [execOp, Option.map_some, Option.map_none, List.map_toArray, List.map_cons, List.map_nil, List.getElem_toArray, List.getElem_cons_zero, List.getElem_cons_succ, e84]
      clear e84
      go_simp
    refine steps_cons (fun a1 w2 hB hsz hdf hn hd => ⟨_, rfl, fun K hK => ?_⟩) ?_
    · have e14 := eval_of ((hn 14 rfl).trans rfl)
      obtain ⟨v82g, h82g, q82g⟩ := hd 1 82 rfl (by kernel_rfl)
      have e82g : v82g = .bool true := q82g
      subst e82g
      refine value_ (v := .agg #[.int .i64 0, .int .i64 0, .string s]) (w1 := w2) (wanted_of (j := 1) (b := true) (t := 82) rfl rfl h82g) rfl ?_ (hK _ _ (Below.refl _ _) rfl)
      clear hd hn hK
      simp only [execOp, Option.map_some, Option.map_none, List.map_toArray, List.map_cons, List.map_nil, List.getElem_toArray, List.getElem_cons_zero, List.getElem_cons_succ, e14]
      clear e14
      have hbx := (hB.block _ (blk_lt HX5.out)).trans HX5.out
      have hx0 : w2.cell? ⟨W4.heap.size, 0, none⟩ = some (.int .i64 0) := (blk_cell hbx 0).trans rfl
      have hx1 : w2.cell? ⟨W4.heap.size, 1, none⟩ = some (.int .i64 0) := (blk_cell hbx 1).trans rfl
      have hx2 : w2.cell? ⟨W4.heap.size, 2, none⟩ = some (.string s) := (blk_cell hbx 2).trans rfl
      clear hB hbx
      go_simp
    refine steps_cons (fun a1 w2 hB hsz hdf hn hd => ⟨_, rfl, fun K hK => ?_⟩) ?_
    · obtain ⟨v85, h85, rfl⟩ := hd 4 85 rfl (by kernel_rfl)
      have e85 := eval_of h85
      clear h85
      obtain ⟨v86, h86, rfl⟩ := hd 5 86 rfl (by kernel_rfl)
      have e86 := eval_of h86
      clear h86
      obtain ⟨v82g, h82g, q82g⟩ := hd 1 82 rfl (by kernel_rfl)
      have e82g : v82g = .bool true := q82g
      subst e82g
      refine goes_ Try.func115 (by kernel_rfl) rfl #[.pointer (some ⟨gb, 0, none⟩), .agg #[.int .i64 0, .int .i64 0, .string s]] (wanted_of (j := 1) (b := true) (t := 82) rfl rfl h82g) rfl rfl (by simp only [List.map_toArray, List.map_cons, List.map_nil, e85, e86]) ?_
      have kb_ := HT5.out.1.2.1.below hB
      have ko_ := own_later HT5.out.1.2.2.2 hB
      refine (changedB_calls _ _ gb gd 2 _ _ _ y0 y1 t ys s kb_ ko_ (by decide) (by decide) hs hlt).mono ?_
      rintro e w3 ⟨rfl, hbw⟩
      exact ⟨_, rfl, hK _ _ hbw rfl⟩
    refine steps_cons (fun a1 w2 hB hsz hdf hn hd => ⟨_, rfl, fun K hK => ?_⟩) ?_
    · obtain ⟨v82, h82, rfl⟩ := hd 1 82 rfl (by kernel_rfl)
      have e82 := eval_of h82
      clear h82
      obtain ⟨v87, h87, rfl⟩ := hd 6 87 rfl (by kernel_rfl)
      have e87 := eval_of h87
      clear h87
      refine value_ (v := .bool true) (w1 := w2) rfl rfl ?_ (hK _ _ (Below.refl _ _) rfl)
      clear hd hn hK
      simp only [execOp, Option.map_some, Option.map_none, List.map_toArray, List.map_cons, List.map_nil, List.getElem_toArray, List.getElem_cons_zero, List.getElem_cons_succ, e82, e87]
      clear e82 e87
      go_simp
    exact steps_nil
  case rend =>
    intro vals w2 hB hrr
    have hl : vals 7 = .bool true := hrr (7, 88) (by simp)
    have HT6 := Aside0.mk (HT5.out.below hB)
    have HX6 := Aside0.mk ((hB.block _ (blk_lt HX5.out)).trans HX5.out)
    clear HX5 HT5 hB hrr HT q1 hk0 hb5 ho5
    have x0 : w2.cell? ⟨W4.heap.size, 0, none⟩ = some (.int .i64 0) := (blk_cell HX6.out 0).trans rfl
    have x1 : w2.cell? ⟨W4.heap.size, 1, none⟩ = some (.int .i64 0) := (blk_cell HX6.out 1).trans rfl
    have x2 : w2.cell? ⟨W4.heap.size, 2, none⟩ = some (.string s) := (blk_cell HX6.out 2).trans rfl
    simp only [fill, Act.put, List.setIfInBounds_toArray, List.set_cons_zero, List.set_cons_succ, hl]
    clear hl
    have kb_ := HT6.out.1
    have kc_ := HT6.out.2.2.2.2.1
    go_wp2_with (go_at_call 113; (with_reducible refine (bwriteB_calls base _ gb gd n 2 k used e0 f y0 y1 (.string t) ys s kb_ kc_ hf hn4 hk (by decide) (by decide) hs hat).mono ?_); rintro e w7 ⟨rfl, e1, hbk7, hbe7, hku7⟩; have hz_ := hku7 _ _ (Out.cells (by decide) (by decide) (by decide) (by decide) (by decide)) HT6.out.2.1; have z0 : w7.cell? ⟨w.heap.size, 0, none⟩ = some (.int .i64 0) := (blk_cell hz_ 0).trans rfl; have z1 := blk_frozen hz_ 0; clear hz_)
    have hz3 := hku7 _ _ (Out.cells (by decide) (by decide) (by decide) (by decide) (by decide)) HT6.out.2.1
    have hz4 := hku7 _ _ (Out.cells (by decide) (by decide) (by decide) (by decide) (by decide)) HT6.out.2.2.1
    have hz5 := hku7 _ _ (Out.map _ _) HT6.out.2.2.2.2.2.1
    have hkp : Kp (fun i => i = w.heap.size) w7 (w7.setCell ⟨w.heap.size, 0, none⟩ (.int .i64 1)) := (Kp.refl (fun i => i = w.heap.size) w7).setCell (p := ⟨w.heap.size, 0, none⟩) (.inl rfl) _
    have hb7 : base ≤ w7.heap.size := Nat.le_trans kc_ hbe7.size
    have hrne : r ≠ w.heap.size := fun e => by rw [e, hz3] at hz5; cases hz5
    have HT8 : Aside0 (TI base w (w7.setCell ⟨w.heap.size, 0, none⟩ (.int .i64 1)) gb gd n e1 ((used : Int) + ((1 + (s.size + 6) / 64 : Nat) : Int)) f (.int .i64 0 :: .int .i64 0 :: .string s :: ys) 0 w.heap.size r 1 #[{ key := .agg #[.int .i64 0, .int .i64 0], val := .agg #[.int .i64 0, .int .i64 0, .string s], born := 0 }] 1) :=
      Aside0.mk ⟨hbk7.kp hkp (fun i hi => ⟨_, hi ▸ hz3, Out.cells (by decide) (by decide) (by decide) (by decide) (by decide)⟩), by rw [blk_set hz3]; rfl, (hkp.block _ (blk_lt hz4) (by omega)).trans hz4, (HT6.out.2.2.2.1.trans hbe7).trans (hkp.to_below (fun i hi => hi ▸ hbase) hb7), Nat.le_trans hb7 hkp.size, (hkp.block _ (Obj.lt hz5) (fun e => hrne e)).trans hz5, hbase⟩
    clear hz3 hz4 hz5 hkp hb7 hrne hbk7 hbe7 hku7 z0 z1 HT6 HX6 x0 x1 x2 kb_ kc_
    revert HT8
    generalize w7.setCell ⟨w.heap.size, 0, none⟩ (.int .i64 1) = W8
    intro HT8
    obtain ⟨A8, c8, hA8⟩ := HT8.out.1.2.2.2.slice
    have q1 : W8.cell? ⟨gb, 1, none⟩ = some (.slice A8 2 c8) := (blk_cell HT8.out.1.2.1 1).trans (by rw [hA8]; rfl)
    have hk0 := run_look1 r 1 0 0 1 0 0 (.agg #[.int .i64 0, .int .i64 0, .string s]) W8 HT8.out.2.2.2.2.2.1
    rw [if_neg (by decide)] at hk0
    rw [rounds_succ]
    go_wp2
    go_quiet (fail)
    go_wp2
    have HT9 := Aside0.mk (HT8.out.below (pw_below_drewN (below_alloc (Below.refl W8.heap.size W8) (.cells #[.int .i64 0, .int .i64 0, .string ⟨#[]⟩] 23)) nq))
    clear q1 hk0 HT8
    revert HT9
    generalize (W8.alloc (.cells #[.int .i64 0, .int .i64 0, .string ⟨#[]⟩] 23)).drewN nq = W9
    intro HT9
    have q1 : W9.cell? ⟨gb, 1, none⟩ = some (.slice A8 2 c8) := (blk_cell HT9.out.1.2.1 1).trans (by rw [hA8]; rfl)
    have hk0 := run_look1 r 1 0 0 2 0 0 (.agg #[.int .i64 0, .int .i64 0, .string s]) W9 HT9.out.2.2.2.2.2.1
    rw [if_neg (by decide)] at hk0
    rw [rounds_succ]
    go_wp2
    go_quiet (fail)
    go_wp2
    have HT10 := Aside0.mk (HT9.out.below (pw_below_drewN (below_alloc (Below.refl W9.heap.size W9) (.cells #[.int .i64 0, .int .i64 0, .string ⟨#[]⟩] 23)) nq))
    clear q1 hk0 HT9
    revert HT10
    generalize (W9.alloc (.cells #[.int .i64 0, .int .i64 0, .string ⟨#[]⟩] 23)).drewN nq = W10
    intro HT10
    have q1 : W10.cell? ⟨gb, 1, none⟩ = some (.slice A8 2 c8) := (blk_cell HT10.out.1.2.1 1).trans (by rw [hA8]; rfl)
    rw [rounds_succ]
    go_wp2
    clear q1
    rw [rounds_succ]
    go_wp2
    refine wp_loop_rounds 2 ?_
    have q1 : W10.cell? ⟨gb, 2, none⟩ = some (.slice none 0 0) := (blk_cell HT10.out.1.2.1 2).trans rfl
    have hk0 := run_look1 r 1 0 1 0 0 0 (.agg #[.int .i64 0, .int .i64 0, .string s]) W10 HT10.out.2.2.2.2.2.1
    rw [if_neg (by decide)] at hk0
    rw [rounds_succ]
    go_wp2
    go_quiet (fail)
    go_wp2
    have HT11 := Aside0.mk (HT10.out.below (pw_below_drewN (below_alloc (Below.refl W10.heap.size W10) (.cells #[.int .i64 0, .int .i64 0, .string ⟨#[]⟩] 23)) nq))
    clear q1 hk0 HT10
    revert HT11
    generalize (W10.alloc (.cells #[.int .i64 0, .int .i64 0, .string ⟨#[]⟩] 23)).drewN nq = W11
    intro HT11
    have q1 : W11.cell? ⟨gb, 2, none⟩ = some (.slice none 0 0) := (blk_cell HT11.out.1.2.1 2).trans rfl
    rw [rounds_succ]
    go_wp2
    clear q1
    have p0 : W11.cell? ⟨w.heap.size, 0, none⟩ = some (.int .i64 1) := (blk_cell HT11.out.2.1 0).trans rfl
    have p1 := blk_frozen HT11.out.2.1 0
    have p2 : W11.cell? ⟨w.heap.size + 1, 0, none⟩ = some (.int .i64 0) := (blk_cell HT11.out.2.2.1 0).trans rfl
    have p3 := blk_frozen HT11.out.2.2.1 0
    rw [rounds_succ]
    go_wp2
    have g1 := HT11.out.2.1
    have g2 := HT11.out.2.2.1
    have hkp : Kp (fun i => i = w.heap.size ∨ i = w.heap.size + 1) W11 ((W11.setCell ⟨w.heap.size, 0, none⟩ (.int .i64 1)).setCell ⟨w.heap.size + 1, 0, none⟩ (.int .i64 0)) := ((Kp.refl _ W11).setCell (p := ⟨w.heap.size, 0, none⟩) (.inl (.inl rfl)) _).setCell (p := ⟨w.heap.size + 1, 0, none⟩) (.inl (.inr rfl)) _
    have HF := Aside0.mk (HT11.out.1.kp hkp (fun i hi => hi.elim (fun e => ⟨_, e ▸ g1, Out.cells (by decide) (by decide) (by decide) (by decide) (by decide)⟩) (fun e => ⟨_, e ▸ g2, Out.cells (by decide) (by decide) (by decide) (by decide) (by decide)⟩)))
    have HG := Aside0.mk (HT11.out.2.2.2.1.trans (hkp.to_below (fun i hi => hi.elim (fun e => e ▸ hbase) (fun e => e ▸ Nat.le_trans hbase (Nat.le_succ _))) HT11.out.2.2.2.2.1))
    have v1 : (W11.setCell ⟨w.heap.size, 0, none⟩ (.int .i64 1)).heap[w.heap.size]? = some (.cells #[.int .i64 1] 3 (0, 0)) := by rw [blk_set g1]; rfl
    have v2 : (W11.setCell ⟨w.heap.size, 0, none⟩ (.int .i64 1)).heap[w.heap.size + 1]? = some (.cells #[.int .i64 0] 28 (0, 0)) := (Below.heap_setCell _ _ _ _ (by simp)).trans g2
    have hc1 : ((W11.setCell ⟨w.heap.size, 0, none⟩ (.int .i64 1)).setCell ⟨w.heap.size + 1, 0, none⟩ (.int .i64 0)).cell? ⟨w.heap.size, 0, none⟩ = some (.int .i64 1) := (blk_cell ((Below.heap_setCell _ _ _ _ (by simp)).trans v1) 0).trans rfl
    have hc2 : ((W11.setCell ⟨w.heap.size, 0, none⟩ (.int .i64 1)).setCell ⟨w.heap.size + 1, 0, none⟩ (.int .i64 0)).cell? ⟨w.heap.size + 1, 0, none⟩ = some (.int .i64 0) := (blk_cell (blk_set v2 0 _) 0).trans rfl
    clear g1 g2 hkp v1 v2 p0 p1 p2 p3 HT11
    revert HF HG hc1 hc2
    generalize (W11.setCell ⟨w.heap.size, 0, none⟩ (.int .i64 1)).setCell ⟨w.heap.size + 1, 0, none⟩ (.int .i64 0) = WF
    intro HF HG hc1 hc2
    refine leaves_cons (f := 108) (args := #[.pointer (some ⟨w.heap.size + 1, 0, none⟩)]) (by simp) (by simp [go_sem]) ?_
    refine (caught_idle _ _).mono ?_
    rintro e u' w'' ⟨rfl, rfl, rfl⟩
    refine leaves_cons (f := 114) (args := #[.pointer (some ⟨w.heap.size + 1, 0, none⟩), .pointer (some ⟨w.heap.size, 0, none⟩)]) (by simp [settle]) (by simp [go_sem]) ?_
    refine (take1_idle _ _ _ hc2).mono ?_
    rintro e u' w'' ⟨rfl, rfl, rfl⟩
    refine ⟨_, ?_, rfl, e1, HF.out, HG.out⟩
    simp [results, Try.results62, go_sem, hc1, hc2]
end Go.Proofs.Ytkedodmlbepfnaa.Lg

-- from the working text Al
set_option linter.unusedSimpArgs false
set_option linter.unusedVariables false
namespace Go.Proofs.Ytkedodmlbepfnaa.Lg
open Go.RowKit Go.Proofs.YtkedodmlbepfnaaW.PrintWords Go.Proofs.YtkedodmlbepfnaaW.PrintLast Go.Proofs.YtkedodmlbepfnaaW.PrintMore Go.Proofs.Ytkedodmlbepfnaa.Rg
set_option maxHeartbeats 8000000 in
set_option maxRecDepth 100000 in
theorem all_calls (w : World) (S : Nat → Prop) (gb gd : Nat) (e0 : Value) (used f : Int) (nE : Nat) (xs : List Value) (hb : BookAt w gb gd e0 used f) (ho : Own w S 23 3 e0 nE xs) (hn1 : 1 ≤ nE) (hn : nE ≤ 60) (h1 : ∀ u ∈ xs, u.oneCell' = true) :
    Calls Try.prog 63 #[.pointer (some ⟨gb, 0, none⟩)] w fun e w' => ∃ v, e = .returned v ∧ w'.ownsRow w.heap.size 23 3 v nE xs ∧ Below w.heap.size w w' := by
  have HB := Aside0.mk hb
  obtain ⟨gE, c, cur, rfl, hSE, hcur, hnc, hc63, hcs, htk⟩ := ho.form hn1
  have c0 : w.cell? ⟨gb, 0, none⟩ = some (.int .i64 2) := (blk_cell hb 0).trans rfl
  have c1 : w.cell? ⟨gb, 1, none⟩ = some (.slice (some ⟨gE, 0, none⟩) nE c) := (blk_cell hb 1).trans rfl
  have hlen := ho.1.1
  have hnews : ∀ j u, xs[j]? = some u → w.cell? ((⟨gE, 0, none⟩ : Addr).add j) = some u := by
    intro j u hu
    rw [Addr.add_mid, Nat.zero_add, blk_cell hcur j]
    rw [← htk, List.getElem?_take] at hu
    split at hu
    · rw [← Array.getElem?_toList]; exact hu
    · cases hu
  obtain ⟨i0, hi, hz0, hz1, hz2⟩ := info_parts info23
  clear hb ho hcur htk
  go_enter Try.func63, Try.ntmps63
  go_wp2
  refine wp_loop_rounds 3 ?_
  rw [rounds_succ]
  go_wp2_with (at_builtin; refine wpList_append_own _ rfl _ _ 24 rfl w.heap.size 23 i0 _ 3 32 Try.underlying24 hi hz0 hz1 hz2 rfl (by decide) _ _ _ rfl (own_nil w w.heap.size 23 3) ⟨gE, 0, none⟩ nE c xs rfl hlen hnews h1 ?q1 ?q2 (Nat.le_refl _) ?_; (case q1 => simp only [maxLen]; omega); (case q2 => omega); intro v1 w1 hown hg _)
  have hbw : Below w.heap.size w w1 := ⟨hg.os, hg.tape, hg.output, hg.size, fun k hk => hg.block k hk (by simp [Act.eval, Value.ownBlock])⟩
  have c2 : w1.cell? ⟨gb, 2, none⟩ = some (.slice none 0 0) := (blk_cell (HB.out.below hbw) 2).trans rfl
  rw [Nat.zero_add, List.nil_append] at hown
  have HOwn := Aside0.mk hown
  have HBw := Aside0.mk hbw
  clear hg hown hbw c0 c1 hnews hlen
  rw [rounds_succ]
  go_wp2_with (at_builtin; refine wpList_append_own_none rfl _ _ 24 rfl w.heap.size 23 i0 3 Try.underlying24 hi _ _ _ rfl HOwn.out rfl ?_)
  rw [rounds_succ]
  go_wp2
  go_ret
  exact ⟨_, rfl, HOwn.out, HBw.out⟩
end Go.Proofs.Ytkedodmlbepfnaa.Lg

-- from the working text Ex
set_option linter.unusedSimpArgs false
set_option linter.unusedVariables false
namespace Go.Proofs.Ytkedodmlbepfnaa.Lg
open Go.RowKit Go.Proofs.YtkedodmlbepfnaaW.PrintWords Go.Proofs.YtkedodmlbepfnaaW.PrintLast Go.Proofs.YtkedodmlbepfnaaW.PrintMore Go.Proofs.Ytkedodmlbepfnaa.Rg
/-- The error of an entry. -/
def errE (e : S23) : Int := if Valid e then 0 else 90
theorem errE_f (e : S23) : ledger_CheckEntry.f e.f0 e.f1 e.f2 = some (errE e) := by
  unfold ledger_CheckEntry.f errE
  by_cases hv : Valid e
  · have hv2 := hv
    unfold Valid at hv2
    rw [if_pos hv, if_neg (by omega), if_neg (by omega), if_neg (by omega), if_neg (by omega), if_neg (by omega)]
  · have hv2 := hv
    unfold Valid at hv2
    rw [if_neg hv]
    repeat' split
    all_goals first | rfl | (exfalso; omega)
theorem checkE_calls (e : S23) (w : World) : Calls Try.prog 16 #[.agg #[.int .i64 e.f0, .int .i64 e.f1, .string e.f2]] w fun x w' => x = .returned (.int .i64 (errE e)) ∧ Below w.heap.size w w' := ledger_CheckEntry.calls _ _ _ _ w (errE_f e)
/-- The error of a list. -/
def errL (l : List S23) : Int := if 512 < l.length then 2 else if ∀ e ∈ l, Valid e then 0 else 90
theorem errL_len {l : List S23} (h : errL l = 0) : l.length ≤ 512 := by
  unfold errL at h
  split at h
  · cases h
  · omega
theorem errL_valid {l : List S23} (h : errL l = 0) : ∀ e ∈ l, Valid e := by
  unfold errL at h
  split at h
  · cases h
  · split at h
    · assumption
    · cases h
theorem rd_T23_get {l : List S23} {j : Nat} (h : j < l.length) : rd_T23 l (j : Int) = l[j] := by simp [rd_T23, List.getD_eq_getElem?_getD, h]
theorem checkL_l0 (l : List S23) (hn : l.length ≤ 9223372036854775806) : ∀ (d j k : Nat), l.length - j = d → j ≤ l.length → d < k → ledger_checkList.l0 k l (l.length : Int) (j : Int) = some (if ∀ e ∈ l.drop j, Valid e then 0 else 90)
  | 0, j, k, hd, hj, hk => by
    obtain ⟨k, rfl⟩ : ∃ m, k = m + 1 := ⟨k - 1, by omega⟩
    have : j = l.length := by omega
    subst this
    simp [ledger_checkList.l0]
  | d + 1, j, k, hd, hj, hk => by
    obtain ⟨k, rfl⟩ : ∃ m, k = m + 1 := ⟨k - 1, by omega⟩
    have hlt : j < l.length := by omega
    rw [ledger_checkList.l0, if_pos (by omega), if_pos (by omega), if_pos (by omega), rd_T23_get hlt, errE_f, Option.bind_some, w64_succ (n := l.length) (by omega) (by omega) (by omega), List.drop_eq_getElem_cons hlt]
    by_cases hv : Valid l[j]
    · rw [show errE l[j] = 0 from if_pos hv, if_pos rfl]
      have ih := checkL_l0 l hn d (j + 1) k (by omega) (by omega) (by omega)
      rw [show ((j : Int) + 1) = ((j + 1 : Nat) : Int) by omega, ih]
      congr 1
      by_cases ha : ∀ e ∈ l.drop (j + 1), Valid e
      · rw [if_pos ha, if_pos (fun e he => (List.mem_cons.1 he).elim (fun h => h ▸ hv) (ha e))]
      · rw [if_neg ha, if_neg (fun h => ha fun e he => h e (List.mem_cons_of_mem _ he))]
    · rw [show errE l[j] = 90 from if_neg hv, if_neg (by decide), if_neg (fun h => hv (h _ List.mem_cons_self))]
theorem checkL_f (l : List S23) : ledger_checkList.f 514 l = some (errL l) := by
  unfold ledger_checkList.f errL
  by_cases h : 512 < l.length
  · rw [if_pos (by omega), if_pos h]
  · rw [if_neg (by omega), if_neg h]
    exact checkL_l0 l (by omega) l.length 0 514 (by omega) (by omega) (by omega)
theorem checkL_calls (l : List S23) (A : Option Addr) (c : Nat) (w : World) (hr0 : Kd.C k23 w A l.length l) (hc0 : l.length ≤ c) : Calls Try.prog 68 #[.slice A l.length c] w fun x w' => x = .returned (.int .i64 (errL l)) ∧ Below w.heap.size w w' := ledger_checkList.calls _ A c l _ w hr0 hc0 (checkL_f l)
set_option maxHeartbeats 4000000 in
set_option maxRecDepth 100000 in
theorem leafX_calls (e : S23) (w : World) : Calls Try.prog 12 #[.agg #[.int .i64 e.f0, .int .i64 e.f1, .string e.f2]] w fun x w' => x = .returned (.tuple #[.int .u64 (if Valid e then leafS e else 0), .int .i64 (errE e)]) ∧ Below w.heap.size w w' := by
  have hB1 : Below w.heap.size w (w.alloc (.cells #[.int .i64 e.f0, .int .i64 e.f1, .string e.f2] 23)) := below_alloc (Below.refl _ _) _
  have HX := Aside0.mk (blk_new w (.cells #[.int .i64 e.f0, .int .i64 e.f1, .string e.f2] 23))
  have HBe := Aside0.mk hB1
  clear hB1
  by_cases h : Valid e
  · have he : errE e = 0 := if_pos h
    have HV := Aside0.mk h
    have hv5 : e.f2.size ≤ 2400 := h.2.2.2.2
    rw [if_pos h]
    clear h
    go_enter Try.func12, Try.ntmps12
    go_wp2_with (first
      | (go_at_call 16; (with_reducible refine (checkE_calls e _).mono ?_); rintro x w1 ⟨rfl, hb⟩; rw [he]; have n3_ := Aside0.mk ((hb.block _ (blk_lt HX.out)).trans HX.out); have n4_ := Aside0.mk (HBe.out.trans (hb.mono HBe.out.size)); clear HX HBe hb; have HX := n3_; have HBe := n4_; clear n3_ n4_; have x0 := (blk_cell HX.out 0).trans rfl; have x1 := (blk_cell HX.out 1).trans rfl; have x2 := (blk_cell HX.out 2).trans rfl)
      | (go_at_call 66; (with_reducible refine (leaf_spec e hv5 _).mono ?_); rintro x w1 ⟨rfl, hb⟩; have n4_ := Aside0.mk (HBe.out.trans (hb.mono HBe.out.size)); clear HX HBe hb; have HBe := n4_; clear n4_))
    go_ret2
    exact ⟨by rw [he]; rfl, HBe.out⟩
  · have he : errE e = 90 := if_neg h
    rw [if_neg h]
    clear h
    go_enter Try.func12, Try.ntmps12
    go_wp2_with (go_at_call 16; (with_reducible refine (checkE_calls e _).mono ?_); rintro x w1 ⟨rfl, hb⟩; rw [he]; have n4_ := Aside0.mk (HBe.out.trans (hb.mono HBe.out.size)); clear HX HBe hb; have HBe := n4_; clear n4_)
    go_ret2
    exact ⟨by rw [he]; rfl, HBe.out⟩
set_option maxHeartbeats 4000000 in
set_option maxRecDepth 100000 in
theorem rootX_calls (l : List S23) (A : Option Addr) (c : Nat) (w : World) (hr0 : Kd.C k23 w A l.length l) (hc0 : l.length ≤ c) : Calls Try.prog 14 #[.slice A l.length c] w fun x w' => x = .returned (.tuple #[.int .u64 (if errL l = 0 then rootS l else 0), .int .i64 (errL l)]) ∧ Below w.heap.size w w' := by
  have HR := Aside0.mk hr0
  have HBe := Aside0.mk (Below.refl w.heap.size w)
  clear hr0
  by_cases h : errL l = 0
  · have HL := Aside0.mk (errL_len h)
    have HV := Aside0.mk (errL_valid h)
    rw [if_pos h]
    go_enter Try.func14, Try.ntmps14
    go_wp2_with (first
      | (go_at_call 68; (with_reducible refine (checkL_calls l A c _ HR.out hc0).mono ?_); rintro x w1 ⟨rfl, hb⟩; rw [h]; have n3_ := Aside0.mk (Kd.C_below HR.out hb); have n4_ := Aside0.mk (HBe.out.trans hb); clear HR HBe hb; have HR := n3_; have HBe := n4_; clear n3_ n4_)
      | (go_at_call 69; (with_reducible refine (root_calls l.length l l.length A c _ rfl (Nat.le_refl _) HR.out hc0 HL.out HV.out).mono ?_); rintro x w1 ⟨rfl, hb⟩; have n4_ := Aside0.mk (HBe.out.trans (hb.mono HBe.out.size)); clear HBe hb; have HBe := n4_; clear n4_))
    go_ret2
    exact ⟨by rw [h]; rfl, HBe.out⟩
  · rw [if_neg h]
    have hb0 : ((errL l) == 0) = false := by rw [beq_eq_false_iff_ne]; exact h
    go_enter Try.func14, Try.ntmps14
    go_wp2_with (go_at_call 68; (with_reducible refine (checkL_calls l A c _ HR.out hc0).mono ?_); rintro x w1 ⟨rfl, hb⟩; have n4_ := Aside0.mk (HBe.out.trans hb); clear HR HBe hb; have HBe := n4_; clear n4_)
    go_ret2
    exact ⟨rfl, HBe.out⟩
end Go.Proofs.Ytkedodmlbepfnaa.Lg
