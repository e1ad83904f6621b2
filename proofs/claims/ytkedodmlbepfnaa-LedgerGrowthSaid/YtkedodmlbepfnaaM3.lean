/- Contracts of the ledger's functions (part 3): what each of them answers and leaves, merged by program out of the session's working texts. No condition beyond those that stand in each. -/
import Derived.Test.YtkedodmlbepfnaaM2
-- from the working text So
set_option linter.unusedSimpArgs false
set_option linter.unusedVariables false
namespace Go.Proofs.Ytkedodmlbepfnaa.Lg
open Go.RowKit Go.Proofs.YtkedodmlbepfnaaW.PrintWords Go.Proofs.YtkedodmlbepfnaaW.PrintLast Go.Proofs.YtkedodmlbepfnaaW.PrintMore Go.Proofs.Ytkedodmlbepfnaa.Rg
set_option maxHeartbeats 4000000 in
set_option maxRecDepth 100000 in
theorem sectorOf_calls (s : ByteArray) (b : Int) (w : World) (hs : s.size ≤ 64) :
    Calls Try.prog 109 #[.string s, .int .u8 b] w fun e w' => e = .returned (.string (strOfNums (bytesOf s ++ ((List.replicate 64 0).set 63 b).drop s.size))) ∧ Below w.heap.size w w' := by
  have HS := Aside0.mk hs
  clear hs
  go_enter Try.func109, Try.ntmps109
  go_wp2
  have hrow : ∀ c : Array Value, c = (nums .u8 ((List.replicate 64 0).set 63 b)).toArray → (Builtin.copy_ #[88, 9] 3 #[.slice (some ⟨w.heap.size, 0, none⟩) 64 64, .string s]).run Try.prog (w.alloc (.cells c 122)) =
      .ok (goInt s.size) ((w.alloc (.cells c 122)).setRow w.heap.size (nums .u8 (bytesOf s ++ ((List.replicate 64 0).set 63 b).drop s.size)).toArray) := by
    rintro c rfl
    have hl : (nums .u8 ((List.replicate 64 0).set 63 b)).length = 64 := by rw [nums_length]; simp
    rw [run_copy_str (w.alloc _) 88 9 3 5 w.heap.size 0 64 64 _ 122 s Try.underlying88 (by kernel_rfl) (blk_new w _) HS.out (by rw [List.size_toArray, hl, Nat.zero_add]; exact HS.out)]
    congr 4
    unfold patch
    rw [List.take_zero, List.nil_append, nums_append, Nat.zero_add, nums_length, bytesOf_length]
    unfold nums
    rw [List.map_drop]
  have hrow2 := hrow #[.int .u8 0, .int .u8 0, .int .u8 0, .int .u8 0, .int .u8 0, .int .u8 0, .int .u8 0, .int .u8 0, .int .u8 0, .int .u8 0, .int .u8 0, .int .u8 0, .int .u8 0, .int .u8 0, .int .u8 0, .int .u8 0, .int .u8 0, .int .u8 0, .int .u8 0, .int .u8 0, .int .u8 0, .int .u8 0, .int .u8 0, .int .u8 0, .int .u8 0, .int .u8 0, .int .u8 0, .int .u8 0, .int .u8 0, .int .u8 0, .int .u8 0, .int .u8 0, .int .u8 0, .int .u8 0, .int .u8 0, .int .u8 0, .int .u8 0, .int .u8 0, .int .u8 0, .int .u8 0, .int .u8 0, .int .u8 0, .int .u8 0, .int .u8 0, .int .u8 0, .int .u8 0, .int .u8 0, .int .u8 0, .int .u8 0, .int .u8 0, .int .u8 0, .int .u8 0, .int .u8 0, .int .u8 0, .int .u8 0, .int .u8 0, .int .u8 0, .int .u8 0, .int .u8 0, .int .u8 0, .int .u8 0, .int .u8 0, .int .u8 0, .int .u8 b] rfl
  have heq : (#[.int .u8 0, .int .u8 0, .int .u8 0, .int .u8 0, .int .u8 0, .int .u8 0, .int .u8 0, .int .u8 0, .int .u8 0, .int .u8 0, .int .u8 0, .int .u8 0, .int .u8 0, .int .u8 0, .int .u8 0, .int .u8 0, .int .u8 0, .int .u8 0, .int .u8 0, .int .u8 0, .int .u8 0, .int .u8 0, .int .u8 0, .int .u8 0, .int .u8 0, .int .u8 0, .int .u8 0, .int .u8 0, .int .u8 0, .int .u8 0, .int .u8 0, .int .u8 0, .int .u8 0, .int .u8 0, .int .u8 0, .int .u8 0, .int .u8 0, .int .u8 0, .int .u8 0, .int .u8 0, .int .u8 0, .int .u8 0, .int .u8 0, .int .u8 0, .int .u8 0, .int .u8 0, .int .u8 0, .int .u8 0, .int .u8 0, .int .u8 0, .int .u8 0, .int .u8 0, .int .u8 0, .int .u8 0, .int .u8 0, .int .u8 0, .int .u8 0, .int .u8 0, .int .u8 0, .int .u8 0, .int .u8 0, .int .u8 0, .int .u8 0, .int .u8 b] : Array Value) = (nums .u8 ((List.replicate 64 0).set 63 b)).toArray := rfl
  rw [hrow2, heq]
  clear hrow2 heq
  have hB : Below w.heap.size w ((w.alloc (.cells (nums .u8 ((List.replicate 64 0).set 63 b)).toArray 122)).setRow w.heap.size (nums .u8 (bytesOf s ++ ((List.replicate 64 0).set 63 b).drop s.size)).toArray) := ((Kp.of_below (fun _ => False) (below_alloc (Below.refl _ _) _)).setRow (.inr (Nat.le_refl _)) _).to_below (fun _ h => h.elim) (Nat.le_refl _)
  have hC : ((w.alloc (.cells (nums .u8 ((List.replicate 64 0).set 63 b)).toArray 122)).setRow w.heap.size (nums .u8 (bytesOf s ++ ((List.replicate 64 0).set 63 b).drop s.size)).toArray).heap[w.heap.size]? = some (.cells (nums .u8 (bytesOf s ++ ((List.replicate 64 0).set 63 b).drop s.size)).toArray 122 (0, 0)) := setRow_heap _ _ _ _ _ _ (blk_new w _)
  generalize hW : (w.alloc (.cells (nums .u8 ((List.replicate 64 0).set 63 b)).toArray 122)).setRow w.heap.size (nums .u8 (bytesOf s ++ ((List.replicate 64 0).set 63 b).drop s.size)).toArray = W2 at hB hC ⊢
  have hlen : (bytesOf s ++ ((List.replicate 64 0).set 63 b).drop s.size).length = 64 := by
    have := HS.out
    rw [List.length_append, bytesOf_length, List.length_drop, List.length_set, List.length_replicate]; omega
  generalize hLe : bytesOf s ++ ((List.replicate 64 0).set 63 b).drop s.size = L at hC hlen ⊢
  have kcv := run_convert_bytes_arg (P := Try.prog) W2 88 5 Try.underlying88 Try.underlying5 w.heap.size 0 64 64 L hlen (fun i hi => by
    rw [Nat.zero_add, blk_cell hC, List.getElem?_toArray]
    simp [nums, List.getD, List.getElem?_eq_getElem (show i < L.length by omega)]) 9 Try.underlying9
  have HB := Aside0.mk hB
  clear hrow hC hW hB
  go_wp2
  go_ret
  exact ⟨by rw [hLe]; rfl, HB.out⟩
end Go.Proofs.Ytkedodmlbepfnaa.Lg

-- from the working text Gd
set_option linter.unusedSimpArgs false
set_option linter.unusedVariables false
namespace Go.Proofs.Ytkedodmlbepfnaa.Lg
open Go.RowKit Go.Proofs.YtkedodmlbepfnaaW.PrintWords Go.Proofs.YtkedodmlbepfnaaW.PrintLast Go.Proofs.YtkedodmlbepfnaaW.PrintMore Go.Proofs.Ytkedodmlbepfnaa.Rg
/-- A disk in memory that is up, and will not fail. -/
def GD (w : World) (S : Nat → Prop) (g : Nat) (n : Nat) (f : Int) (k : Nat) : Prop := ∃ d vs vn vw, DiskAt w S g d vs vn vw ∧ d.now.length = n ∧ d.down = false ∧ d.armed = 0 ∧ d.falls = f ∧ d.wr.length ≤ k
section
variable {S S' : Nat → Prop} {w w0 w1 W W' : World} {g n k : Nat} {f : Int}
theorem GD.mono (h : GD w S g n f k) (hs : ∀ k, S k → S' k) : GD w S' g n f k := by
  obtain ⟨d, vs, vn, vw, h1, h2⟩ := h
  exact ⟨d, vs, vn, vw, h1.mono hs, h2⟩
theorem GD.more {k' : Nat} (h : GD w S g n f k) (hk : k ≤ k') : GD w S g n f k' := by
  obtain ⟨d, vs, vn, vw, h1, h2, h3, h4, h5, h6⟩ := h
  exact ⟨d, vs, vn, vw, h1, h2, h3, h4, h5, Nat.le_trans h6 hk⟩
theorem GD.below (h : GD w S g n f k) (hb : Below w.heap.size w w1) : GD w1 S g n f k := by
  obtain ⟨d, vs, vn, vw, h1, h2⟩ := h
  exact ⟨d, vs, vn, vw, h1.below hb, h2⟩
theorem GD.kp (h : GD w S g n f k) (hk : Kp S' w w1) (hd : ∀ k, S k → k < w.heap.size → ¬ S' k) : GD w1 S g n f k := by
  obtain ⟨d, vs, vn, vw, h1, h2⟩ := h
  exact ⟨d, vs, vn, vw, h1.kp hk hd, h2⟩
theorem Own.trim {e : TypeId} {size n : Nat} {v : Value} {xs : List Value} (h : Own w S e size v n xs) : Own w (fun k => S k ∧ k < w.heap.size) e size v n xs := by
  refine ⟨h.1, fun k hk => ⟨h.2 k hk, ?_⟩⟩
  obtain ⟨c, hc⟩ := own_typed h.1 k hk
  exact blk_lt hc
theorem GD.trim (h : GD w S g n f k) : GD w (fun k => S k ∧ k < w.heap.size) g n f k := by
  obtain ⟨d, vs, vn, vw, ⟨h1, h2, h3, h4, h5, h6, h7⟩, hr⟩ := h
  exact ⟨d, vs, vn, vw, ⟨h1, ⟨h2, blk_lt h3⟩, h3, h4.trim, h5.trim, h6.trim, h7⟩, hr⟩
/-- In a function's walk: the disk is well, and nothing but S has changed since w0. -/
def GK (w0 : World) (S : Nat → Prop) (g n : Nat) (f : Int) (k : Nat) (W : World) : Prop := GD W (Nw S w0) g n f k ∧ Kp S w0 W
theorem GK.start (h : GD w S g n f k) : GK w S g n f k w := ⟨h.mono fun _ hk => .inl hk, Kp.refl _ _⟩
theorem GK.below (h : GK w0 S g n f k W) (hb : Below W.heap.size W W') : GK w0 S g n f k W' := ⟨h.1.below hb, h.2.below hb⟩
theorem Nw.idem (hw : w0.heap.size ≤ W.heap.size) : ∀ k, Nw (Nw S w0) W k → Nw S w0 k := fun k hk => hk.elim id fun h => .inr (Nat.le_trans hw h)
/-- What was done in a callee. -/
theorem GK.step {k' : Nat} (h : GK w0 S g n f k W) (hg : GD W' (Nw (Nw S w0) W) g n f k') (hk : Kp (Nw S w0) W W') : GK w0 S g n f k' W' :=
  ⟨hg.mono (Nw.idem h.2.size), h.2.trans hk⟩
/-- At a function's end: its own new blocks came first. -/
theorem GK.fin (h : GK w1 (fun k => S k ∧ k < w.heap.size) g n f k W) (hb : Below w.heap.size w w1) : GD W (Nw S w) g n f k ∧ Kp S w W :=
  ⟨h.1.mono fun i hi => hi.elim (fun h => .inl h.1) (fun h => .inr (Nat.le_trans hb.size h)), (Kp.of_below S hb).trans (h.2.mono fun i hi => .inl hi.1)⟩
theorem GD.begin (h : GD w S g n f k) (hb : Below w.heap.size w w1) : GK w1 (fun k => S k ∧ k < w.heap.size) g n f k w1 := GK.start (h.trim.below hb)
end
theorem gwrite_calls {w0 W : World} {S : Nat → Prop} {g n k : Nat} {f : Int} (i : Nat) (s : ByteArray) (h : GK w0 S g n f k W) (hi : i < n) (hs : s.size = 64) (hf : f ≤ 1000000) (hk : k ≤ 1000) :
    Calls Try.prog 31 #[.pointer (some ⟨g, 0, none⟩), .int .i64 (i : Int), .string s] W fun e W' => e = .returned (.int .i64 0) ∧ GK w0 S g n f (k + 1) W' := by
  obtain ⟨d, vs, vn, vw, h1, h2, h3, h4, h5, h6⟩ := h.1
  refine (write_calls W (Nw S w0) g d vs vn vw (i : Int) s h1 (by omega) (by omega)).mono ?_
  rintro e W' ⟨vs', vn', vw', rfl, hd, hk'⟩
  have hc : d.check (i : Int) = 0 := by
    unfold DS.check
    rw [if_neg (by simp [h3]), if_neg (by omega)]
  have hw : d.write (i : Int) s = (0, d.put i (bytesOf s)) := by
    unfold DS.write
    rw [if_neg (by simp [hc]), if_neg (by simp [hs]), Int.toNat_natCast]
    have : (d.put i (bytesOf s)).fails = (false, d.put i (bytesOf s)) := by
      unfold DS.fails
      rw [if_pos (show (d.put i (bytesOf s)).armed = 0 from h4)]
    rw [this]; rfl
  rw [hw] at hd ⊢
  refine ⟨rfl, h.step ⟨_, vs', vn', vw', hd, ?_, h3, h4, h5, ?_⟩ hk'⟩
  · show (d.now.set i (bytesOf s)).length = n
    rw [List.length_set, h2]
  · show (d.wr ++ [((i : Int), bytesOf s)]).length ≤ k + 1
    rw [List.length_append, List.length_singleton]; omega
theorem gsync_calls {w0 W : World} {S : Nat → Prop} {g n k : Nat} {f : Int} (h : GK w0 S g n f k W) (hf : f ≤ 1000000) :
    Calls Try.prog 34 #[.pointer (some ⟨g, 0, none⟩)] W fun e W' => e = .returned (.int .i64 0) ∧ GK w0 S g n f 0 W' := by
  obtain ⟨d, vs, vn, vw, h1, h2, h3, h4, h5, h6⟩ := h.1
  refine (sync_calls W (Nw S w0) g d vs vn vw h1 (by omega)).mono ?_
  rintro e W' ⟨vs', vn', vw', rfl, hd, hk'⟩
  have hff : d.fails = (false, d) := by unfold DS.fails; rw [if_pos h4]
  have hw : d.sync = (0, { d with safe := d.now, wr := [] }) := by
    unfold DS.sync
    rw [if_neg (by simp [h3]), hff, if_neg (by simp)]
  rw [hw] at hd ⊢
  exact ⟨rfl, h.step ⟨_, vs', vn', vw', hd, h2, h3, h4, h5, Nat.zero_le _⟩ hk'⟩
theorem gsectors_calls {w0 W : World} {S : Nat → Prop} {g n k : Nat} {f : Int} (h : GK w0 S g n f k W) :
    Calls Try.prog 44 #[.pointer (some ⟨g, 0, none⟩)] W fun e W' => e = .returned (.int .i64 (n : Int)) ∧ GK w0 S g n f k W' ∧ Below W.heap.size W W' := by
  obtain ⟨d, vs, vn, vw, h1, h2, _⟩ := h.1
  refine (sectors_calls W (Nw S w0) g d vs vn vw h1).mono ?_
  rintro e W' ⟨rfl, ⟨nd, rfl⟩⟩
  have hb := pw_below_drewN (Below.refl W.heap.size W) nd
  exact ⟨by rw [h2], h.below hb, hb⟩
theorem gup_calls {w0 W : World} {S : Nat → Prop} {g n k : Nat} {f : Int} (h : GK w0 S g n f k W) :
    Calls Try.prog 42 #[.pointer (some ⟨g, 0, none⟩)] W fun e W' => e = .returned (.bool true) ∧ GK w0 S g n f k W' ∧ Below W.heap.size W W' := by
  obtain ⟨d, vs, vn, vw, h1, h2, h3, _⟩ := h.1
  refine (up_calls W (Nw S w0) g d vs vn vw h1).mono ?_
  rintro e W' ⟨rfl, ⟨nd, rfl⟩⟩
  have hb := pw_below_drewN (Below.refl W.heap.size W) nd
  exact ⟨by rw [h3]; rfl, h.below hb, hb⟩
set_option maxRecDepth 100000 in
theorem must_calls (w : World) : Calls Try.prog 110 #[.int .i64 0] w fun e w' => e = .returned (.tuple #[]) ∧ w' = w := by
  go_enter Try.func110, Try.ntmps110
  go_wp2
  go_end0
  exact ⟨rfl, rfl⟩
set_option maxRecDepth 100000 in
theorem make1_idle (p q : Addr) (w : World) (h : w.cell? p = some (.int .i64 0)) :
    CallsD Try.prog 107 #[.pointer (some p), .pointer (some q)] .returning w fun e u' w' => u' = .returning ∧ (e = .returned (.tuple #[]) ∧ w' = w) := by
  go_enter_d Try.func107, Try.ntmps107
  go_wp2
  go_end0
  exact ⟨rfl, rfl⟩
set_option maxRecDepth 100000 in
theorem caught_idle (p : Addr) (w : World) :
    CallsD Try.prog 108 #[.pointer (some p)] .returning w fun e u' w' => e = .returned (.tuple #[]) ∧ u' = .returning ∧ w' = w := by
  refine callsD_of_wpS Try.func108 rfl fun c₀ cs hu => ?_
  apply wpS_seq
  apply wpS_region
  simp [wpOpsS, go_sem, recoverD, hu, Try.ntmps108, Exit.thenS]
  refine wpS_of_wp ?_
  go_wp2
  cases c₀
  simp_all [bodyPostS, results, Try.results108]
end Go.Proofs.Ytkedodmlbepfnaa.Lg

-- from the working text Mk
set_option linter.unusedSimpArgs false
set_option linter.unusedVariables false
namespace Go.Proofs.Ytkedodmlbepfnaa.Lg
open Go.RowKit Go.Proofs.YtkedodmlbepfnaaW.PrintWords Go.Proofs.YtkedodmlbepfnaaW.PrintLast Go.Proofs.YtkedodmlbepfnaaW.PrintMore Go.Proofs.Ytkedodmlbepfnaa.Rg
theorem GK.keeps {w0 W : World} {S : Nat → Prop} {g n k b : Nat} {f : Int} {o : Obj} (h : GK w0 S g n f k W) (hb : w0.heap[b]? = some o) (hS : ¬ S b) : W.heap[b]? = some o :=
  (h.2.block b (by rcases Nat.lt_or_ge b w0.heap.size with h | h; exact h; rw [Array.getElem?_eq_none h] at hb; cases hb) hS).trans hb
theorem GD.fallsC {W : World} {S : Nat → Prop} {g n k : Nat} {f : Int} (h : GD W S g n f k) : W.cell? ⟨g, 5, none⟩ = some (.int .i64 f) := by
  obtain ⟨d, vs, vn, vw, h1, _, _, _, h5, _⟩ := h
  rw [blk_cell h1.2.2.1 5, ← h5]; rfl
/-- The content of a book for two offices, the second of which has no entries. -/
def bookCells (e0 : Value) (used : Int) (gd : Nat) (falls : Int) : Array Value := #[.int .i64 2, e0, .slice none 0 0, .slice none 0 0, .slice none 0 0, .slice none 0 0, .slice none 0 0, .slice none 0 0, .slice none 0 0, .int .i64 used, .pointer (some ⟨gd, 0, none⟩), .int .i64 falls]
theorem gwriteI_calls {w0 W : World} {S : Nat → Prop} {g n k : Nat} {f : Int} (i : Int) (s : ByteArray) (h : GK w0 S g n f k W) (h0 : 0 ≤ i) (hi : i < n) (hs : s.size = 64) (hf : f ≤ 1000000) (hk : k ≤ 1000) :
    Calls Try.prog 31 #[.pointer (some ⟨g, 0, none⟩), .int .i64 i, .string s] W fun e W' => e = .returned (.int .i64 0) ∧ GK w0 S g n f (k + 1) W' := by
  obtain ⟨i, rfl⟩ := Int.eq_ofNat_of_zero_le h0
  exact gwrite_calls i s h (by omega) hs hf hk
def secA (s : ByteArray) (b : Int) : ByteArray := strOfNums (bytesOf s ++ ((List.replicate 64 0).set 63 b).drop s.size)
theorem secA_size {s : ByteArray} (b : Int) (hs : s.size ≤ 64) : (secA s b).size = 64 := by
  unfold secA
  rw [strOfNums_size, List.length_append, bytesOf_length, List.length_drop, List.length_set, List.length_replicate]
  omega
theorem sec_calls (s : ByteArray) (b : Int) (w : World) (hs : s.size ≤ 64) :
    Calls Try.prog 109 #[.string s, .int .u8 b] w fun e w' => ∃ r : ByteArray, e = .returned (.string r) ∧ r.size = 64 ∧ Below w.heap.size w w' :=
  (sectorOf_calls s b w hs).mono fun e w' h => ⟨_, h.1, secA_size b hs, h.2⟩
theorem blk_new1 (w : World) (o o' : Obj) : ((w.alloc o).alloc o').heap[w.heap.size]? = some o :=
  ((below_alloc (Below.refl (w.alloc o).heap.size (w.alloc o)) o').block w.heap.size (by simp)).trans (blk_new w o)
theorem blk_new2 (w : World) (o o' : Obj) : ((w.alloc o).alloc o').heap[w.heap.size + 1]? = some o' := by
  have h := blk_new (w.alloc o) o'
  rw [show (w.alloc o).heap.size = w.heap.size + 1 by simp] at h
  exact h
theorem make_fin (w w' : World) (S : Nat → Prop) (g n k : Nat) (h : GK ((w.alloc (.cells #[.pointer none] 85)).alloc (.cells #[.int .i64 0] 28)) (fun k => S k ∧ k < w.heap.size) g n 0 k w')
    (hbk : ∀ o, (w'.alloc o).heap[w.heap.size]? = some (.cells #[.pointer none] 85 (0, 0))) (hek : ∀ o, (w'.alloc o).heap[w.heap.size + 1]? = some (.cells #[.int .i64 0] 28 (0, 0))) (hlt : w.heap.size + 1 < w'.heap.size) :
    ((((w'.alloc (.cells (bookCells (.slice none 0 0) 1 g 0) 95)).setCell ⟨w.heap.size, 0, none⟩ (.pointer (some ⟨w'.heap.size, 0, none⟩))).setCell ⟨w.heap.size + 1, 0, none⟩ (.int .i64 0)).cell? ⟨w.heap.size, 0, none⟩ = some (.pointer (some ⟨w'.heap.size, 0, none⟩))) ∧
    ((((w'.alloc (.cells (bookCells (.slice none 0 0) 1 g 0) 95)).setCell ⟨w.heap.size, 0, none⟩ (.pointer (some ⟨w'.heap.size, 0, none⟩))).setCell ⟨w.heap.size + 1, 0, none⟩ (.int .i64 0)).cell? ⟨w.heap.size + 1, 0, none⟩ = some (.int .i64 0)) ∧
    ∃ Sd, GD (((w'.alloc (.cells (bookCells (.slice none 0 0) 1 g 0) 95)).setCell ⟨w.heap.size, 0, none⟩ (.pointer (some ⟨w'.heap.size, 0, none⟩))).setCell ⟨w.heap.size + 1, 0, none⟩ (.int .i64 0)) Sd g n 0 k ∧ ¬ Sd w'.heap.size ∧ (∀ i, Sd i → Nw S w i) ∧ w.heap.size ≤ w'.heap.size ∧
      (((w'.alloc (.cells (bookCells (.slice none 0 0) 1 g 0) 95)).setCell ⟨w.heap.size, 0, none⟩ (.pointer (some ⟨w'.heap.size, 0, none⟩))).setCell ⟨w.heap.size + 1, 0, none⟩ (.int .i64 0)).heap[w'.heap.size]? = some (.cells (bookCells (.slice none 0 0) 1 g 0) 95 (0, 0)) ∧
      Kp S w (((w'.alloc (.cells (bookCells (.slice none 0 0) 1 g 0) 95)).setCell ⟨w.heap.size, 0, none⟩ (.pointer (some ⟨w'.heap.size, 0, none⟩))).setCell ⟨w.heap.size + 1, 0, none⟩ (.int .i64 0)) := by
  have hw1 : ((w.alloc (.cells #[.pointer none] 85)).alloc (.cells #[.int .i64 0] 28)).heap.size = w.heap.size + 1 + 1 := by simp
  have hB : Below w.heap.size w ((w.alloc (.cells #[.pointer none] 85)).alloc (.cells #[.int .i64 0] 28)) := below_alloc (below_alloc (Below.refl _ _) _) _
  have hA : Below w'.heap.size w' (w'.alloc (.cells (bookCells (.slice none 0 0) 1 g 0) 95)) := below_alloc (Below.refl _ _) _
  have h2 := (hbk (.cells (bookCells (.slice none 0 0) 1 g 0) 95))
  have h3 := (hek (.cells (bookCells (.slice none 0 0) 1 g 0) 95))
  have hnew := blk_new w' (.cells (bookCells (.slice none 0 0) 1 g 0) 95)
  generalize w'.alloc (.cells (bookCells (.slice none 0 0) 1 g 0) 95) = W1 at hA h2 h3 hnew ⊢
  have a1 : (W1.setCell ⟨w.heap.size, 0, none⟩ (.pointer (some ⟨w'.heap.size, 0, none⟩))).heap[w.heap.size + 1]? = some (.cells #[.int .i64 0] 28 (0, 0)) := (Below.heap_setCell _ _ _ _ (by simp)).trans h3
  have a2 : (W1.setCell ⟨w.heap.size, 0, none⟩ (.pointer (some ⟨w'.heap.size, 0, none⟩))).heap[w.heap.size]? = some (.cells #[.pointer (some ⟨w'.heap.size, 0, none⟩)] 85 (0, 0)) := by rw [blk_set h2]; rfl
  refine ⟨?_, ?_, fun i => Nw (fun k => S k ∧ k < w.heap.size) ((w.alloc (.cells #[.pointer none] 85)).alloc (.cells #[.int .i64 0] 28)) i ∧ i < w'.heap.size, ?_, ?_, ?_, by omega, ?_, ?_⟩
  · exact (blk_cell ((Below.heap_setCell _ _ _ _ (by simp)).trans a2) 0).trans rfl
  · exact (blk_cell (blk_set a1 0 _) 0).trans rfl
  · have hk2 : Kp (fun k => k = w.heap.size ∨ k = w.heap.size + 1) w' ((W1.setCell ⟨w.heap.size, 0, none⟩ (.pointer (some ⟨w'.heap.size, 0, none⟩))).setCell ⟨w.heap.size + 1, 0, none⟩ (.int .i64 0)) :=
      ((Kp.of_below _ hA).setCell (.inl (.inl rfl)) _).setCell (.inl (.inr rfl)) _
    refine h.1.trim.kp hk2 fun i hi hlt' hx => ?_
    rcases hi.1 with h1 | h1
    · rcases hx with hx | hx <;> omega
    · rw [hw1] at h1
      rcases hx with hx | hx <;> omega
  · exact fun hx => by omega
  · rintro i ⟨hi, _⟩
    rcases hi with h1 | h1
    · exact .inl h1.1
    · rw [hw1] at h1
      exact .inr (by omega)
  · exact (Below.heap_setCell _ _ _ _ (by simp; omega)).trans ((Below.heap_setCell _ _ _ _ (by simp; omega)).trans hnew)
  · exact (((h.fin hB).2.below hA).setCell (.inr (Nat.le_refl _)) _).setCell (.inr (by simp)) _
set_option maxHeartbeats 8000000 in
set_option maxRecDepth 100000 in
theorem make_calls (w : World) (S : Nat → Prop) (g n k : Nat) (h : GD w S g n 0 k) (hn : 2 ≤ n) (hn2 : n ≤ 4096) (hk : k ≤ 100) :
    Calls Try.prog 59 #[.pointer (some ⟨g, 0, none⟩), .int .i64 2] w fun e w' => ∃ gb Sd, e = .returned (.tuple #[.pointer (some ⟨gb, 0, none⟩), .int .i64 0]) ∧ GD w' Sd g n 0 0 ∧ ¬ Sd gb ∧ (∀ i, Sd i → Nw S w i) ∧ w.heap.size ≤ gb ∧ w'.heap[gb]? = some (.cells (bookCells (.slice none 0 0) 1 g 0) 95 (0, 0)) ∧ Kp S w w' := by
  have H := Aside0.mk h
  clear h
  have HK := Aside0.mk (GD.begin (w1 := (w.alloc (.cells #[.pointer none] 85)).alloc (.cells #[.int .i64 0] 28)) H.out (below_alloc (below_alloc (Below.refl _ _) _) _))
  have VB := Aside0.mk (blk_new1 w (.cells #[.pointer none] 85) (.cells #[.int .i64 0] 28))
  have VE := Aside0.mk (blk_new2 w (.cells #[.pointer none] 85) (.cells #[.int .i64 0] 28))
  have hmf : ∀ (fn : Fn) (first cap : Array Value) (w : World), (Instr.makeFunc fn first cap).run Try.prog w = .ok (.func fn first cap) w := fun _ _ _ _ => rfl
  have kcv : ∀ W : World, (convert 88 9 (.slice (some ⟨W.heap.size, 0, none⟩) 1 1)).run Try.prog (W.alloc (.cells #[.int .u8 2] 5)) = .ok (.string (strOfNums [2])) (W.alloc (.cells #[.int .u8 2] 5)) := fun W =>
    run_convert_bytes_arg (P := Try.prog) _ 88 5 Try.underlying88 Try.underlying5 W.heap.size 0 1 1 [2] rfl (fun i hi => by
      have : i = 0 := by omega
      subst this
      exact (blk_cell (blk_new W _) 0).trans rfl) 9 Try.underlying9
  have b1 : decide ((n : Int) < 2) = false := by simp; omega
  go_enter_defers Try.func59, Try.ntmps59
  go_wp2_with (first
    | (go_at_call 42; (with_reducible refine (gup_calls HK.out).mono ?_); rintro e w' ⟨rfl, hk, -⟩; have HK' := Aside0.mk hk; clear HK hk; have HK := HK'; clear HK')
    | (go_at_call 44; (with_reducible refine (gsectors_calls HK.out).mono ?_); rintro e w' ⟨rfl, hk, -⟩; have HK' := Aside0.mk hk; clear HK hk; have HK := HK'; clear HK')
    | (go_at_call 109; (with_reducible refine (sec_calls _ _ _ ?hsz).mono ?_); (case hsz => first | exact Nat.zero_le _ | (rw [strOfNums_size]; simp) | decide); rintro e w' ⟨r, rfl, hr, hb⟩; have HR := Aside0.mk hr; have HK' := (by first | exact Aside0.mk (HK.out.below hb) | exact Aside0.mk ((HK.out.below (below_alloc (Below.refl _ _) _)).below hb) : Aside0 (GK _ _ g n 0 _ w')); clear HK hr hb; have HK := HK'; clear HK')
    | (go_at_call 110; (with_reducible refine (must_calls _).mono ?_); rintro e w' ⟨rfl, rfl⟩)
    | (go_at_call 34; (with_reducible refine (gsync_calls HK.out (by decide)).mono ?_); rintro e w' ⟨rfl, hk⟩; have HK' := Aside0.mk hk; clear HK hk; have HK := HK'; clear HK'; have hv1 := HK.out.keeps VB.out (fun h => absurd h.2 (by omega)); have hv2 := HK.out.keeps VE.out (fun h => absurd h.2 (by omega)); have cf : w'.cell? ⟨g, 5, none⟩ = some (.int .i64 0) := HK.out.1.fallsC; have cb : ∀ o, (w'.alloc o).cell? ⟨w.heap.size, 0, none⟩ = some (.pointer none) := fun o => (blk_cell (((below_alloc (Below.refl _ w') o).block _ (blk_lt hv1)).trans hv1) 0).trans rfl; have fb : ∀ o, (w'.alloc o).frozen? ⟨w.heap.size, 0, none⟩ = false := fun o => blk_frozen (((below_alloc (Below.refl _ w') o).block _ (blk_lt hv1)).trans hv1) 0; have ce : ∀ o, (w'.alloc o).cell? ⟨w.heap.size + 1, 0, none⟩ = some (.int .i64 0) := fun o => (blk_cell (((below_alloc (Below.refl _ w') o).block _ (blk_lt hv2)).trans hv2) 0).trans rfl; have fe : ∀ o, (w'.alloc o).frozen? ⟨w.heap.size + 1, 0, none⟩ = false := fun o => blk_frozen (((below_alloc (Below.refl _ w') o).block _ (blk_lt hv2)).trans hv2) 0; have HV1 := Aside0.mk hv1; have HV2 := Aside0.mk hv2; clear hv1 hv2)
    | (go_at_call 31; (with_reducible refine (gwriteI_calls _ _ HK.out ?hi0 ?hi1 HR.out (by decide) ?hk0).mono ?_); (case hi0 => first | omega | decide); (case hi1 => omega); (case hk0 => omega); rintro e w' ⟨rfl, hk⟩; have HK' := Aside0.mk hk; clear HK hk; have HK := HK'; clear HK'))
  have hbk : ∀ o, (w'.alloc o).heap[w.heap.size]? = some (.cells #[.pointer none] 85 (0, 0)) := fun o => ((below_alloc (Below.refl _ w') o).block _ (blk_lt HV1.out)).trans HV1.out
  have hek : ∀ o, (w'.alloc o).heap[w.heap.size + 1]? = some (.cells #[.int .i64 0] 28 (0, 0)) := fun o => ((below_alloc (Below.refl _ w') o).block _ (blk_lt HV2.out)).trans HV2.out
  have hlt := blk_lt HV2.out
  have hfin := make_fin w w' S g n 0 HK.out hbk hek hlt
  generalize hWF : ((w'.alloc (.cells (bookCells (.slice none 0 0) 1 g 0) 95)).setCell ⟨w.heap.size, 0, none⟩ (.pointer (some ⟨w'.heap.size, 0, none⟩))).setCell ⟨w.heap.size + 1, 0, none⟩ (.int .i64 0) = WF at hfin
  rw [show ((w'.alloc (.cells #[.int .i64 2, .slice none 0 0, .slice none 0 0, .slice none 0 0, .slice none 0 0, .slice none 0 0, .slice none 0 0, .slice none 0 0, .slice none 0 0, .int .i64 1, .pointer (some ⟨g, 0, none⟩), .int .i64 0] 95)).setCell ⟨w.heap.size, 0, none⟩ (.pointer (some ⟨w'.heap.size, 0, none⟩))).setCell ⟨w.heap.size + 1, 0, none⟩ (.int .i64 0) = WF from hWF]
  obtain ⟨hc1, hc2, hrest⟩ := hfin
  have HRest := Aside0.mk hrest
  clear hrest hWF hbk hek hlt cb ce fb fe cf kcv hmf
  refine leaves_cons (f := 108) (args := #[.pointer (some ⟨w.heap.size + 1, 0, none⟩)]) (by simp) (by simp [go_sem]) ?_
  refine (caught_idle _ _).mono ?_
  rintro e u' w'' ⟨rfl, rfl, rfl⟩
  refine leaves_cons (f := 107) (args := #[.pointer (some ⟨w.heap.size + 1, 0, none⟩), .pointer (some ⟨w.heap.size, 0, none⟩)]) (by simp [settle]) (by simp [go_sem]) ?_
  refine (make1_idle _ _ _ hc2).mono ?_
  rintro e u' w'' ⟨rfl, rfl, rfl⟩
  obtain ⟨Sd, hr⟩ := HRest.out
  have HR2 := Aside0.mk hr
  clear hr HRest
  refine ⟨_, ?_, ⟨_, Sd, rfl, HR2.out⟩⟩
  simp [results, Try.results59, go_sem, hc1, hc2]
end Go.Proofs.Ytkedodmlbepfnaa.Lg

-- from the working text Rd
set_option linter.unusedSimpArgs false
set_option linter.unusedVariables false
namespace Go.Proofs.Ytkedodmlbepfnaa.Lg
open Go.RowKit Go.Proofs.YtkedodmlbepfnaaW.PrintWords Go.Proofs.YtkedodmlbepfnaaW.PrintLast Go.Proofs.YtkedodmlbepfnaaW.PrintMore Go.Proofs.Ytkedodmlbepfnaa.Rg
theorem GK.more {w0 W : World} {S : Nat → Prop} {g n k k' : Nat} {f : Int} (h : GK w0 S g n f k W) (hk : k ≤ k') : GK w0 S g n f k' W := ⟨h.1.more hk, h.2⟩
theorem payload_calls (a b : Int) (s : ByteArray) (w : World) (hs : s.size ≤ 2400) :
    Calls Try.prog 156 #[.agg #[.int .i64 a, .int .i64 b, .string s]] w fun e w' => ∃ r : ByteArray, e = .returned (.string r) ∧ r.size = s.size + 2 ∧ Below w.heap.size w w' := by
  have hz : (strOfNums [a % 256, b % 256]).size = 2 := by rw [strOfNums_size]; rfl
  refine (ledger_payload.calls a b s (strOfNums [a % 256, b % 256] ++ s) w ?_).mono ?_
  · unfold ledger_payload.f
    rw [Option.bind_some, if_pos (by omega)]
  · rintro e w' ⟨rfl, hb⟩
    exact ⟨_, rfl, by rw [ByteArray.size_append, hz]; omega, hb⟩
theorem count_calls (n : Nat) (w : World) (hn : n ≤ 3000) : Calls Try.prog 155 #[.int .i64 (n : Int)] w fun e w' => e = .returned (.int .i64 ((1 + (n + 4) / 64 : Nat) : Int)) ∧ Below w.heap.size w w' := by
  refine (ledger_count.calls (n : Int) _ w rfl).mono ?_
  rintro e w' ⟨rfl, ⟨nd, rfl⟩⟩
  refine ⟨?_, pw_below_drewN (Below.refl _ _) nd⟩
  have h1 : wrap64 ((n : Int) + 4) = (n : Int) + 4 := by unfold wrap64; omega
  have h2 : Int.tdiv ((n : Int) + 4) 64 = ((n + 4) / 64 : Nat) := by
    rw [show (n : Int) + 4 = ((n + 4 : Nat) : Int) by omega]
    rfl
  rw [h1, h2]
  have h3 : wrap64 (((n + 4) / 64 : Nat) : Int) = (((n + 4) / 64 : Nat) : Int) := by unfold wrap64; omega
  rw [h3]
  have h4 : wrap64 (1 + (((n + 4) / 64 : Nat) : Int)) = ((1 + (n + 4) / 64 : Nat) : Int) := by unfold wrap64; omega
  rw [h4]
theorem count_calls' (n c : Nat) (w : World) (hn : n ≤ 3000) (hc : c = 1 + (n + 4) / 64) : Calls Try.prog 155 #[.int .i64 (n : Int)] w fun e w' => e = .returned (.int .i64 (c : Int)) ∧ Below w.heap.size w w' := by
  subst hc
  exact count_calls n w hn
theorem cut_run2 (p : ByteArray) (i j : Nat) (W : World) (hij : i ≤ j) (hj : j ≤ p.size) : (Instr.slice 9 (.string p) (some (.int .i64 (i : Int))) (some (.int .i64 (j : Int))) none).run Try.prog W = .ok (.string (p.extract i j)) W := by
  have hq := run_slice_string (P := Try.prog) W 9 p .i64 .i64 (i : Int) (j : Int) Try.underlying9 (by omega) (by omega) (by omega)
  rw [Int.toNat_natCast, Int.toNat_natCast] at hq
  exact hq
theorem cut_size0 (p : ByteArray) (i : Nat) : (p.extract i (min p.size (i + 64))).size ≤ 64 := by
  rw [ByteArray.size_extract]
  have h1 := Nat.min_le_right p.size (i + 64)
  have h2 := Nat.min_le_left (min p.size (i + 64)) p.size
  omega
theorem cut_run3 (p : ByteArray) (i : Nat) (h1 : 1 ≤ i) (hle : 59 + (i - 1) * 64 ≤ p.size) : ∃ r : ByteArray, r.size ≤ 64 ∧ ∀ W : World, (Instr.slice 9 (.string p) (some (.int .i64 (59 + ((i : Int) - 1) * 64))) (some (.int .i64 (min (p.size : Int) (59 + ((i : Int) - 1) * 64 + 64)))) none).run Try.prog W = .ok (.string r) W := by
  obtain ⟨fr, hfr⟩ : ∃ fr : Nat, fr = 59 + (i - 1) * 64 := ⟨_, rfl⟩
  have e1 : (59 : Int) + ((i : Int) - 1) * 64 = (fr : Int) := by omega
  have e2 : min (p.size : Int) ((fr : Int) + 64) = ((min p.size (fr + 64) : Nat) : Int) := by
    by_cases h : fr + 64 ≤ p.size
    · rw [Nat.min_eq_right h, Int.min_eq_right (by omega)]; omega
    · rw [Nat.min_eq_left (by omega), Int.min_eq_left (by omega)]
  have hf : fr ≤ p.size := by omega
  refine ⟨p.extract fr (min p.size (fr + 64)), cut_size0 p fr, fun W => ?_⟩
  rw [e1, e2]
  exact cut_run2 p fr _ W (Nat.le_min.2 ⟨hf, Nat.le_add_right _ _⟩) (Nat.min_le_left _ _)
def recRel (p : ByteArray) : Nat → Value → World → Prop
  | 0, v, _ => v = .int .i64 (p.size : Int)
  | 1, v, _ => v = .int .u8 ((p.size : Int) % 256)
  | 2, v, _ => v = .int .i64 (p.size : Int)
  | 3, v, _ => v = .int .i64 ((p.size / 256 : Nat) : Int)
  | 4, v, _ => v = .int .u8 (((p.size / 256 : Nat) : Int) % 256)
  | 5, v, w => ∃ gl, v = .slice (some ⟨gl, 0, none⟩) 4 4 ∧ w.heap[gl]? = some (.cells #[.int .u8 ((p.size : Int) % 256), .int .u8 (((p.size / 256 : Nat) : Int) % 256), .int .u8 0, .int .u8 0] 5 (0, 0))
  | 6, v, _ => ∃ r : ByteArray, v = .string r ∧ r.size = 4
  | 7, v, _ => v = .string p
  | 8, v, _ => v = .int .i64 (p.size : Int)
  | 9, v, _ => v = .int .i64 ((min p.size 59 : Nat) : Int)
  | 10, v, _ => ∃ r : ByteArray, v = .string r ∧ r.size ≤ 59
  | 11, v, _ => ∃ r : ByteArray, v = .string r ∧ r.size ≤ 64
  | 12, v, _ => ∃ r : ByteArray, v = .string r ∧ r.size ≤ 64
  | _, _, _ => True
theorem recRel_stable (p : ByteArray) (j : Nat) (v : Value) (w w' : World) (h : recRel p j v w) (hb : Below w.heap.size w w') : recRel p j v w' := by
  revert h
  unfold recRel
  split <;> intro h <;> first | exact h | (obtain ⟨gl, h1, h2⟩ := h; exact ⟨gl, h1, (hb.block gl (blk_lt h2)).trans h2⟩)
set_option maxHeartbeats 8000000 in
set_option maxRecDepth 100000 in
theorem record_calls (w : World) (S : Nat → Prop) (g n k at_ : Nat) (f a b : Int) (s : ByteArray) (h : GD w S g n f k) (hf : f ≤ 1000000) (hn : n ≤ 4096) (hk : k ≤ 100) (hs : s.size ≤ 2400) (hat : at_ + 1 + (s.size + 6) / 64 ≤ n) :
    Calls Try.prog 143 #[.pointer (some ⟨g, 0, none⟩), .int .i64 (at_ : Int), .agg #[.int .i64 a, .int .i64 b, .string s]] w fun e w' => e = .returned (.tuple #[]) ∧ GD w' (Nw S w) g n f 0 ∧ Kp S w w' := by
  have H := Aside0.mk h
  have HF := Aside0.mk hf
  clear h hf
  have HK := Aside0.mk (GD.begin (w1 := w.alloc (.cells #[.int .i64 a, .int .i64 b, .string s] 23)) H.out (below_alloc (Below.refl _ _) _))
  go_enter Try.func143, Try.ntmps143
  go_wp2_with (first
    | (go_at_call 156; (with_reducible refine (payload_calls _ _ _ _ hs).mono ?_); rintro e w' ⟨p, rfl, hp, hb⟩; have HP := Aside0.mk hp; clear hp; have HK' := Aside0.mk (HK.out.below hb); clear HK hb; have HK := HK'; clear HK'))
  have hps : p.size ≤ 2402 := by rw [HP.out]; omega
  have HPs := Aside0.mk hps
  clear hps
  refine rg_ [0, 1, 2, 3, 4, 5, 6, 7, 8, 9, 10, 11, 12] [(0, 16), (1, 17), (2, 18), (3, 19), (4, 20), (5, 21), (6, 22), (7, 23), (8, 24), (9, 25), (10, 26), (11, 27), (12, 8)] (bitsOf (rtab .any (opsOf Try.f143 3)).2) (recRel p) (by kernel_rfl) rfl (by kernel_rfl) rfl (by kernel_rfl) ?stab ?steps ?rend
  case steps =>
    refine steps_cons (fun a1 w1 hB hsz hdf hn hd => ⟨_, rfl, fun K hK => ?_⟩) ?_
    · have e7 := eval_of ((hn 7 rfl).trans rfl)
      refine value_ (v := .int .i64 (p.size : Int)) (w1 := w1) rfl rfl ?_ (hK _ _ (Below.refl _ _) rfl)
      clear hd hn hK
      simp only [execOp, Option.map_some, Option.map_none, List.map_toArray, List.map_cons, List.map_nil, List.getElem_toArray, List.getElem_cons_zero, List.getElem_cons_succ, e7]
      clear e7
      go_simp
    refine steps_cons (fun a1 w1 hB hsz hdf hn hd => ⟨_, rfl, fun K hK => ?_⟩) ?_
    · obtain ⟨v16, h16, rfl⟩ := hd 0 16 rfl (by kernel_rfl)
      have e16 := eval_of h16
      clear h16
      refine value_ (v := .int .u8 ((p.size : Int) % 256)) (w1 := w1) rfl rfl ?_ (hK _ _ (Below.refl _ _) rfl)
      clear hd hn hK
      simp only [execOp, Option.map_some, Option.map_none, List.map_toArray, List.map_cons, List.map_nil, List.getElem_toArray, List.getElem_cons_zero, List.getElem_cons_succ, e16]
      clear e16
      have hq := IntKind.wrap_u8 (p.size : Int)
      go_simp
    refine steps_cons (fun a1 w1 hB hsz hdf hn hd => ⟨_, rfl, fun K hK => ?_⟩) ?_
    · have e7 := eval_of ((hn 7 rfl).trans rfl)
      refine value_ (v := .int .i64 (p.size : Int)) (w1 := w1) rfl rfl ?_ (hK _ _ (Below.refl _ _) rfl)
      clear hd hn hK
      simp only [execOp, Option.map_some, Option.map_none, List.map_toArray, List.map_cons, List.map_nil, List.getElem_toArray, List.getElem_cons_zero, List.getElem_cons_succ, e7]
      clear e7
      go_simp
    refine steps_cons (fun a1 w1 hB hsz hdf hn hd => ⟨_, rfl, fun K hK => ?_⟩) ?_
    · obtain ⟨v18, h18, rfl⟩ := hd 2 18 rfl (by kernel_rfl)
      have e18 := eval_of h18
      clear h18
      refine value_ (v := .int .i64 ((p.size / 256 : Nat) : Int)) (w1 := w1) rfl rfl ?_ (hK _ _ (Below.refl _ _) rfl)
      clear hd hn hK
      simp only [execOp, Option.map_some, Option.map_none, List.map_toArray, List.map_cons, List.map_nil, List.getElem_toArray, List.getElem_cons_zero, List.getElem_cons_succ, e18]
      clear e18
      go_simp
    refine steps_cons (fun a1 w1 hB hsz hdf hn hd => ⟨_, rfl, fun K hK => ?_⟩) ?_
    · obtain ⟨v19, h19, rfl⟩ := hd 3 19 rfl (by kernel_rfl)
      have e19 := eval_of h19
      clear h19
      refine value_ (v := .int .u8 (((p.size / 256 : Nat) : Int) % 256)) (w1 := w1) rfl rfl ?_ (hK _ _ (Below.refl _ _) rfl)
      clear hd hn hK
      simp only [execOp, Option.map_some, Option.map_none, List.map_toArray, List.map_cons, List.map_nil, List.getElem_toArray, List.getElem_cons_zero, List.getElem_cons_succ, e19]
      clear e19
      have hq := IntKind.wrap_u8 ((p.size : Int) / 256)
      go_simp
    refine steps_cons (fun a1 w1 hB hsz hdf hn hd => ⟨_, rfl, fun K hK => ?_⟩) ?_
    · obtain ⟨v17, h17, rfl⟩ := hd 1 17 rfl (by kernel_rfl)
      have e17 := eval_of h17
      clear h17
      obtain ⟨v20, h20, rfl⟩ := hd 4 20 rfl (by kernel_rfl)
      have e20 := eval_of h20
      clear h20
      refine value_ (v := .slice (some ⟨w1.heap.size, 0, none⟩) 4 4) (w1 := w1.alloc (.cells #[.int .u8 ((p.size : Int) % 256), .int .u8 (((p.size / 256 : Nat) : Int) % 256), .int .u8 0, .int .u8 0] 5)) rfl rfl ?_ (hK _ _ (below_alloc (Below.refl _ _) _) ⟨_, rfl, blk_new _ _⟩)
      clear hd hn hK
      simp only [execOp, Option.map_some, Option.map_none, List.map_toArray, List.map_cons, List.map_nil, List.getElem_toArray, List.getElem_cons_zero, List.getElem_cons_succ, e17, e20]
      clear e17 e20
      go_simp
    refine steps_cons (fun a1 w1 hB hsz hdf hn hd => ⟨_, rfl, fun K hK => ?_⟩) ?_
    · obtain ⟨v21, h21, ⟨gl, rfl, hgl⟩⟩ := hd 5 21 rfl (by kernel_rfl)
      have e21 := eval_of h21
      clear h21
      refine value_ (v := .string (strOfNums [(p.size : Int) % 256, ((p.size / 256 : Nat) : Int) % 256, 0, 0])) (w1 := w1) rfl rfl ?_ (hK _ _ (Below.refl _ _) ⟨_, rfl, by rw [strOfNums_size]; rfl⟩)
      clear hd hn hK
      simp only [execOp, Option.map_some, Option.map_none, List.map_toArray, List.map_cons, List.map_nil, List.getElem_toArray, List.getElem_cons_zero, List.getElem_cons_succ, e21]
      clear e21
      have hq := run_convert_bytes_arg (P := Try.prog) w1 88 5 Try.underlying88 Try.underlying5 gl 0 4 4 [(p.size : Int) % 256, ((p.size / 256 : Nat) : Int) % 256, 0, 0] rfl (fun i hi => by rw [Nat.zero_add, blk_cell hgl]; match i, hi with | 0, _ => rfl | 1, _ => rfl | 2, _ => rfl | 3, _ => rfl) 9 Try.underlying9
      simp only [Sem.run_bind, hq, Result.andThen_ok]
      rfl
    refine steps_cons (fun a1 w1 hB hsz hdf hn hd => ⟨_, rfl, fun K hK => ?_⟩) ?_
    · have e6 := eval_of ((hn 6 rfl).trans rfl)
      refine value_ (v := .string p) (w1 := w1) rfl rfl ?_ (hK _ _ (Below.refl _ _) rfl)
      clear hd hn hK
      simp only [execOp, Option.map_some, Option.map_none, List.map_toArray, List.map_cons, List.map_nil, List.getElem_toArray, List.getElem_cons_zero, List.getElem_cons_succ, e6]
      clear e6
      go_simp
    refine steps_cons (fun a1 w1 hB hsz hdf hn hd => ⟨_, rfl, fun K hK => ?_⟩) ?_
    · have e7 := eval_of ((hn 7 rfl).trans rfl)
      refine value_ (v := .int .i64 (p.size : Int)) (w1 := w1) rfl rfl ?_ (hK _ _ (Below.refl _ _) rfl)
      clear hd hn hK
      simp only [execOp, Option.map_some, Option.map_none, List.map_toArray, List.map_cons, List.map_nil, List.getElem_toArray, List.getElem_cons_zero, List.getElem_cons_succ, e7]
      clear e7
      go_simp
    refine steps_cons (fun a1 w1 hB hsz hdf hn hd => ⟨_, rfl, fun K hK => ?_⟩) ?_
    · obtain ⟨v24, h24, rfl⟩ := hd 8 24 rfl (by kernel_rfl)
      have e24 := eval_of h24
      clear h24
      refine value_ (v := .int .i64 ((min p.size 59 : Nat) : Int)) (w1 := w1) rfl rfl ?_ (hK _ _ (Below.refl _ _) rfl)
      clear hd hn hK
      simp only [execOp, Option.map_some, Option.map_none, List.map_toArray, List.map_cons, List.map_nil, List.getElem_toArray, List.getElem_cons_zero, List.getElem_cons_succ, e24]
      have hq : (Builtin.min_ #[3, 3] 3 #[.int .i64 (p.size : Int), .int .i64 59]).run Try.prog w1 = .ok (.int .i64 ((min p.size 59 : Nat) : Int)) w1 := by rw [run_min_int2]; congr 2; split <;> omega
      have ec : a1.eval (.const (.int .i64 59)) = .int .i64 59 := rfl
      simp only [resolve, invoke, builtin, Sem.run_bind, Sem.run_pure, Result.andThen_ok, List.map_toArray, List.map_cons, List.map_nil, e24, ec, hq]
    refine steps_cons (fun a1 w1 hB hsz hdf hn hd => ⟨_, rfl, fun K hK => ?_⟩) ?_
    · obtain ⟨v23, h23, rfl⟩ := hd 7 23 rfl (by kernel_rfl)
      have e23 := eval_of h23
      clear h23
      obtain ⟨v25, h25, rfl⟩ := hd 9 25 rfl (by kernel_rfl)
      have e25 := eval_of h25
      clear h25
      refine value_ (v := .string (p.extract 0 (min p.size 59))) (w1 := w1) rfl rfl ?_ (hK _ _ (Below.refl _ _) ⟨_, rfl, by rw [ByteArray.size_extract]; omega⟩)
      clear hd hn hK
      simp only [execOp, Option.map_some, Option.map_none, List.map_toArray, List.map_cons, List.map_nil, List.getElem_toArray, List.getElem_cons_zero, List.getElem_cons_succ, e23, e25]
      clear e23 e25
      have hq := run_slice_string_h (P := Try.prog) w1 9 p Try.underlying9 .i64 ((min p.size 59 : Nat) : Int) (by omega) (by omega)
      rw [Int.toNat_natCast] at hq
      simp only [Instr.sliceAt, run_underlying Try.underlying9, Sem.run_bind, hq, Result.andThen_ok]
      rfl
    refine steps_cons (fun a1 w1 hB hsz hdf hn hd => ⟨_, rfl, fun K hK => ?_⟩) ?_
    · obtain ⟨v22, h22, ⟨r22, rfl, hr22⟩⟩ := hd 6 22 rfl (by kernel_rfl)
      have e22 := eval_of h22
      clear h22
      obtain ⟨v26, h26, ⟨r26, rfl, hr26⟩⟩ := hd 10 26 rfl (by kernel_rfl)
      have e26 := eval_of h26
      clear h26
      refine value_ (v := .string (r22 ++ r26)) (w1 := w1) rfl rfl ?_ (hK _ _ (Below.refl _ _) ⟨_, rfl, by rw [ByteArray.size_append]; omega⟩)
      clear hd hn hK
      simp only [execOp, Option.map_some, Option.map_none, List.map_toArray, List.map_cons, List.map_nil, List.getElem_toArray, List.getElem_cons_zero, List.getElem_cons_succ, e22, e26]
      clear e22 e26
      go_simp
      omega
    refine steps_cons (fun a1 w1 hB hsz hdf hn hd => ⟨_, rfl, fun K hK => ?_⟩) ?_
    · obtain ⟨v27, h27, ⟨r27, rfl, hr27⟩⟩ := hd 11 27 rfl (by kernel_rfl)
      have e27 := eval_of h27
      clear h27
      refine value_ (v := .string r27) (w1 := w1) rfl rfl ?_ (hK _ _ (Below.refl _ _) ⟨_, rfl, hr27⟩)
      clear hd hn hK
      simp only [execOp, Option.map_some, Option.map_none, List.map_toArray, List.map_cons, List.map_nil, List.getElem_toArray, List.getElem_cons_zero, List.getElem_cons_succ, e27]
      clear e27
      go_simp
    exact steps_nil
  case stab => exact fun j v w w' => recRel_stable _ j v w w'
  case rend =>
    intro vals w1 hB hrr
    obtain ⟨q, hq, hqs⟩ : ∃ r : ByteArray, vals 12 = .string r ∧ r.size ≤ 64 := hrr (12, 8) (by simp)
    have HQs := Aside0.mk hqs
    have HK2 := Aside0.mk (HK.out.below hB)
    clear hrr hqs hB HK
    simp only [fill, Act.put, List.setIfInBounds_toArray, List.set_cons_zero, List.set_cons_succ, hq]
    obtain ⟨cnt, hcnt⟩ : ∃ c, c = 1 + (p.size + 4) / 64 := ⟨_, rfl⟩
    have HC := Aside0.mk hcnt
    have hc1 : 1 ≤ cnt := by omega
    have hc2 : cnt ≤ 40 := by have := HPs.out; omega
    have hat2 : at_ + cnt ≤ n := by have := HP.out; omega
    clear hq hcnt hat HPs
    go_wp2
    go_loopg [9, 10] cnt (fun kq v9 v10 W => ∃ i : Nat, v9 = .int .i64 (i : Int) ∧ Aside0 (i + kq = cnt + 1) ∧ Aside0 (1 ≤ i) ∧ Aside0 (GK (w.alloc (.cells #[.int .i64 a, .int .i64 b, .string s] 23)) (fun k => S k ∧ k < w.heap.size) g n f (k + i) W))
    case atStart => exact ⟨1, rfl, ⟨by omega⟩, ⟨Nat.le_refl _⟩, ⟨HK2.out.more (by omega)⟩⟩
    case round =>
      clear HK2
      obtain ⟨i, rfl, HI1, HI2, HK⟩ := hrel
      by_cases c1 : i < cnt
      · have c1b : decide ((i : Int) < (cnt : Int)) = true := by simp; omega
        have hi1 := HI2.out
        obtain ⟨rr, hrs, hsl⟩ := cut_run3 p i hi1 (by have h1 := HC.out; omega)
        have hps : p.size ≤ 3000 := by rw [HP.out]; omega
        have hgk := HI1.out
        cases gk with
        | zero => omega
        | succ k1 =>
          have hx0 : (0 : Int) ≤ (at_ : Int) + (i : Int) := by omega
          have hx1 : (at_ : Int) + (i : Int) < (n : Int) := by omega
          have hx2 : k + i ≤ 1000 := by omega
          have hx3 : i + 1 + k1 = cnt + 1 := by omega
          have hx4 : k1 < k1 + 1 := by omega
          have hx5 : 1 ≤ i + 1 := by omega
          clear hgk
          have HZ64 := Aside0.mk hrs
          clear hrs
          go_wp2_with (first
            | (go_at_call 155; (with_reducible refine (count_calls' p.size cnt _ hps HC.out).mono ?_); rintro e w' ⟨rfl, hb⟩; have HK' := Aside0.mk (HK.out.below hb); clear HK hb; have HK := HK'; clear HK')
            | (go_at_call 109; (with_reducible refine (sec_calls _ _ _ HZ64.out).mono ?_); rintro e w' ⟨r, rfl, hr, hb⟩; have HR := Aside0.mk hr; have HK' := Aside0.mk (HK.out.below hb); clear HK hr hb; have HK := HK'; clear HK')
            | (go_at_call 110; (with_reducible refine (must_calls _).mono ?_); rintro e w' ⟨rfl, rfl⟩)
            | (go_at_call 31; (with_reducible refine (gwriteI_calls _ _ HK.out ?hi0 ?hi1 HR.out HF.out ?hk0).mono ?_); (case hi0 => exact hx0); (case hi1 => exact hx1); (case hk0 => exact hx2); rintro e w' ⟨rfl, hk⟩; have HK' := Aside0.mk hk; clear HK hk; have HK := HK'; clear HK'))
          go_roundg k1
          case measure => exact hx4
          case rel => exact ⟨i + 1, by simp, ⟨hx3⟩, ⟨hx5⟩, HK⟩
      · have c1b : decide ((i : Int) < (cnt : Int)) = false := by simp; omega
        have hki : k + i ≤ 900 := by have := HI1.out; omega
        have hps : p.size ≤ 3000 := by rw [HP.out]; omega
        have hin : (at_ : Int) < (n : Int) := by omega
        by_cases c2 : at_ + cnt < n
        · have c2b : decide ((at_ : Int) + (cnt : Int) < (n : Int)) = true := by simp; omega
          go_wp2_with (first
          | (go_at_call 155; (with_reducible refine (count_calls' p.size cnt _ hps HC.out).mono ?_); rintro e w' ⟨rfl, hb⟩; have HK' := Aside0.mk (HK.out.below hb); clear HK hb; have HK := HK'; clear HK')
          | (go_at_call 44; (with_reducible refine (gsectors_calls HK.out).mono ?_); rintro e w' ⟨rfl, hk, -⟩; have HK' := Aside0.mk hk; clear HK hk; have HK := HK'; clear HK')
          | (go_at_call 109; (with_reducible refine (sec_calls _ _ _ ?hsz).mono ?_); (case hsz => first | exact HQs.out | exact Nat.zero_le _ | decide); rintro e w' ⟨r, rfl, hr, hb⟩; have HR := Aside0.mk hr; have HK' := Aside0.mk (HK.out.below hb); clear HK hr hb; have HK := HK'; clear HK')
          | (go_at_call 110; (with_reducible refine (must_calls _).mono ?_); rintro e w' ⟨rfl, rfl⟩)
          | (go_at_call 34; (with_reducible refine (gsync_calls HK.out HF.out).mono ?_); rintro e w' ⟨rfl, hk⟩; have HK' := Aside0.mk hk; clear HK hk; have HK := HK'; clear HK')
          | (go_at_call 31; (with_reducible refine (gwriteI_calls _ _ HK.out ?hi0 ?hi1 HR.out HF.out ?hk0).mono ?_); (case hi0 => omega); (case hi1 => omega); (case hk0 => omega); rintro e w' ⟨rfl, hk⟩; have HK' := Aside0.mk hk; clear HK hk; have HK := HK'; clear HK'))
          go_end0
          exact ⟨rfl, HK.out.fin (below_alloc (Below.refl _ _) _)⟩
        · have c2b : decide ((at_ : Int) + (cnt : Int) < (n : Int)) = false := by simp; omega
          go_wp2_with (first
          | (go_at_call 155; (with_reducible refine (count_calls' p.size cnt _ hps HC.out).mono ?_); rintro e w' ⟨rfl, hb⟩; have HK' := Aside0.mk (HK.out.below hb); clear HK hb; have HK := HK'; clear HK')
          | (go_at_call 44; (with_reducible refine (gsectors_calls HK.out).mono ?_); rintro e w' ⟨rfl, hk, -⟩; have HK' := Aside0.mk hk; clear HK hk; have HK := HK'; clear HK')
          | (go_at_call 109; (with_reducible refine (sec_calls _ _ _ ?hsz).mono ?_); (case hsz => first | exact HQs.out | exact Nat.zero_le _ | decide); rintro e w' ⟨r, rfl, hr, hb⟩; have HR := Aside0.mk hr; have HK' := Aside0.mk (HK.out.below hb); clear HK hr hb; have HK := HK'; clear HK')
          | (go_at_call 110; (with_reducible refine (must_calls _).mono ?_); rintro e w' ⟨rfl, rfl⟩)
          | (go_at_call 34; (with_reducible refine (gsync_calls HK.out HF.out).mono ?_); rintro e w' ⟨rfl, hk⟩; have HK' := Aside0.mk hk; clear HK hk; have HK := HK'; clear HK')
          | (go_at_call 31; (with_reducible refine (gwriteI_calls _ _ HK.out ?hi0 ?hi1 HR.out HF.out ?hk0).mono ?_); (case hi0 => omega); (case hi1 => omega); (case hk0 => omega); rintro e w' ⟨rfl, hk⟩; have HK' := Aside0.mk hk; clear HK hk; have HK := HK'; clear HK'))
          go_end0
          exact ⟨rfl, HK.out.fin (below_alloc (Below.refl _ _) _)⟩
end Go.Proofs.Ytkedodmlbepfnaa.Lg

-- from the working text Bk
set_option linter.unusedSimpArgs false
set_option linter.unusedVariables false
namespace Go.Proofs.Ytkedodmlbepfnaa.Lg
open Go.RowKit Go.Proofs.YtkedodmlbepfnaaW.PrintWords Go.Proofs.YtkedodmlbepfnaaW.PrintLast Go.Proofs.YtkedodmlbepfnaaW.PrintMore Go.Proofs.Ytkedodmlbepfnaa.Rg
/-- A book for two offices, in memory. -/
def BookAt (W : World) (gb gd : Nat) (e0 : Value) (used falls : Int) : Prop := W.heap[gb]? = some (.cells (bookCells e0 used gd falls) 95 (0, 0))
theorem BookAt.below {W W' : World} {gb gd : Nat} {e0 : Value} {used falls : Int} (h : BookAt W gb gd e0 used falls) (hb : Below W.heap.size W W') : BookAt W' gb gd e0 used falls := (hb.block gb (blk_lt h)).trans h
theorem gsectors0 {W : World} {S : Nat → Prop} {g n k : Nat} {f : Int} (h : GD W S g n f k) :
    Calls Try.prog 44 #[.pointer (some ⟨g, 0, none⟩)] W fun e W' => e = .returned (.int .i64 (n : Int)) ∧ Below W.heap.size W W' :=
  (gsectors_calls (GK.start h)).mono fun e W' h => ⟨h.1, h.2.2⟩
def roomRel (gb gd : Nat) (n : Nat) (used : Int) : Nat → Value → World → Prop
  | 0, v, _ => v = .pointer (some ⟨gb, 0, none⟩)
  | 1, v, _ => v = .pointer (some ⟨gb, 0, none⟩)
  | 2, v, _ => v = .pointer (some ⟨gb, 10, none⟩)
  | 3, v, _ => v = .pointer (some ⟨gd, 0, none⟩)
  | 4, v, _ => v = .int .i64 (n : Int)
  | 5, v, _ => v = .pointer (some ⟨gb, 0, none⟩)
  | 6, v, _ => v = .pointer (some ⟨gb, 0, none⟩)
  | 7, v, _ => v = .pointer (some ⟨gb, 0, none⟩)
  | 8, v, _ => v = .pointer (some ⟨gb, 9, none⟩)
  | 9, v, _ => v = .int .i64 used
  | 10, v, _ => v = .int .i64 ((n : Int) - used)
  | 11, v, _ => v = .int .i64 ((n : Int) - used)
  | _, _, _ => True
set_option maxHeartbeats 4000000 in
set_option maxRecDepth 100000 in
theorem room_calls (W : World) (S : Nat → Prop) (gb gd n k : Nat) (e0 : Value) (used falls f : Int) (hb : BookAt W gb gd e0 used falls) (hd : GD W S gd n f k) (h0 : 0 ≤ used) (h1 : used ≤ n) (hn : n ≤ 4096) :
    Calls Try.prog 60 #[.pointer (some ⟨gb, 0, none⟩)] W fun e W' => e = .returned (.int .i64 ((n : Int) - used)) ∧ Below W.heap.size W W' := by
  have HB := Aside0.mk hb
  have HD := Aside0.mk hd
  clear hb hd
  go_enter Try.func60, Try.ntmps60
  go_wp2
  refine rg_ [0, 1, 2, 3, 4, 5, 6, 7, 8, 9, 10, 11] [(0, 3), (1, 4), (2, 5), (3, 6), (4, 7), (5, 8), (6, 9), (7, 10), (8, 11), (9, 12), (10, 13), (11, 2)] (bitsOf (rtab .any (opsOf Try.f60 1)).2) (roomRel gb gd n used) (by kernel_rfl) rfl (by kernel_rfl) rfl (by kernel_rfl) ?stab ?steps ?rend
  case steps =>
    refine steps_cons (fun a1 w1 hB hsz hdf hn hd => ⟨_, rfl, fun K hK => ?_⟩) ?_
    · have e0 := eval_of ((hn 0 rfl).trans rfl)
      refine value_ (v := .pointer (some ⟨gb, 0, none⟩)) (w1 := w1) rfl rfl ?_ (hK _ _ (Below.refl _ _) rfl)
      clear hd hn hK
      simp only [execOp, Option.map_some, Option.map_none, List.map_toArray, List.map_cons, List.map_nil, List.getElem_toArray, List.getElem_cons_zero, List.getElem_cons_succ, e0]
      clear e0
      go_simp
    refine steps_cons (fun a1 w1 hB hsz hdf hn hd => ⟨_, rfl, fun K hK => ?_⟩) ?_
    · obtain ⟨v3, h3, rfl⟩ := hd 0 3 rfl (by kernel_rfl)
      have e3 := eval_of h3
      clear h3
      refine value_ (v := .pointer (some ⟨gb, 0, none⟩)) (w1 := w1) rfl rfl ?_ (hK _ _ (Below.refl _ _) rfl)
      clear hd hn hK
      simp only [execOp, Option.map_some, Option.map_none, List.map_toArray, List.map_cons, List.map_nil, List.getElem_toArray, List.getElem_cons_zero, List.getElem_cons_succ, e3]
      clear e3
      go_simp
    refine steps_cons (fun a1 w1 hB hsz hdf hn hd => ⟨_, rfl, fun K hK => ?_⟩) ?_
    · obtain ⟨v4, h4, rfl⟩ := hd 1 4 rfl (by kernel_rfl)
      have e4 := eval_of h4
      clear h4
      refine value_ (v := .pointer (some ⟨gb, 10, none⟩)) (w1 := w1) rfl rfl ?_ (hK _ _ (Below.refl _ _) rfl)
      clear hd hn hK
      simp only [execOp, Option.map_some, Option.map_none, List.map_toArray, List.map_cons, List.map_nil, List.getElem_toArray, List.getElem_cons_zero, List.getElem_cons_succ, e4]
      clear e4
      go_simp
    refine steps_cons (fun a1 w1 hB hsz hdf hn hd => ⟨_, rfl, fun K hK => ?_⟩) ?_
    · obtain ⟨v5, h5, rfl⟩ := hd 2 5 rfl (by kernel_rfl)
      have e5 := eval_of h5
      clear h5
      refine value_ (v := .pointer (some ⟨gd, 0, none⟩)) (w1 := w1) rfl rfl ?_ (hK _ _ (Below.refl _ _) rfl)
      clear hd hn hK
      simp only [execOp, Option.map_some, Option.map_none, List.map_toArray, List.map_cons, List.map_nil, List.getElem_toArray, List.getElem_cons_zero, List.getElem_cons_succ, e5]
      clear e5
      have hq : w1.cell? ⟨gb, 10, none⟩ = some (.pointer (some ⟨gd, 0, none⟩)) := (blk_cell (HB.out.below hB) 10).trans rfl
      clear hB
      go_simp
    refine steps_cons (fun a1 w1 hB hsz hdf hn hd => ⟨_, rfl, fun K hK => ?_⟩) ?_
    · obtain ⟨v6, h6, rfl⟩ := hd 3 6 rfl (by kernel_rfl)
      have e6 := eval_of h6
      clear h6
      refine goes_ Try.func44 (by kernel_rfl) rfl #[.pointer (some ⟨gd, 0, none⟩)] (by rfl) rfl rfl (by simp only [List.map_toArray, List.map_cons, List.map_nil, e6]) ?_
      refine (gsectors0 (HD.out.below hB)).mono ?_
      rintro e w2 ⟨rfl, hbw⟩
      exact ⟨_, rfl, hK _ _ hbw rfl⟩
    refine steps_cons (fun a1 w1 hB hsz hdf hn hd => ⟨_, rfl, fun K hK => ?_⟩) ?_
    · have e0 := eval_of ((hn 0 rfl).trans rfl)
      refine value_ (v := .pointer (some ⟨gb, 0, none⟩)) (w1 := w1) rfl rfl ?_ (hK _ _ (Below.refl _ _) rfl)
      clear hd hn hK
      simp only [execOp, Option.map_some, Option.map_none, List.map_toArray, List.map_cons, List.map_nil, List.getElem_toArray, List.getElem_cons_zero, List.getElem_cons_succ, e0]
      clear e0
      go_simp
    refine steps_cons (fun a1 w1 hB hsz hdf hn hd => ⟨_, rfl, fun K hK => ?_⟩) ?_
    · obtain ⟨v8, h8, rfl⟩ := hd 5 8 rfl (by kernel_rfl)
      have e8 := eval_of h8
      clear h8
      refine value_ (v := .pointer (some ⟨gb, 0, none⟩)) (w1 := w1) rfl rfl ?_ (hK _ _ (Below.refl _ _) rfl)
      clear hd hn hK
      simp only [execOp, Option.map_some, Option.map_none, List.map_toArray, List.map_cons, List.map_nil, List.getElem_toArray, List.getElem_cons_zero, List.getElem_cons_succ, e8]
      clear e8
      go_simp
    refine steps_cons (fun a1 w1 hB hsz hdf hn hd => ⟨_, rfl, fun K hK => ?_⟩) ?_
    · obtain ⟨v9, h9, rfl⟩ := hd 6 9 rfl (by kernel_rfl)
      have e9 := eval_of h9
      clear h9
      refine value_ (v := .pointer (some ⟨gb, 0, none⟩)) (w1 := w1) rfl rfl ?_ (hK _ _ (Below.refl _ _) rfl)
      clear hd hn hK
      simp only [execOp, Option.map_some, Option.map_none, List.map_toArray, List.map_cons, List.map_nil, List.getElem_toArray, List.getElem_cons_zero, List.getElem_cons_succ, e9]
      clear e9
      go_simp
    refine steps_cons (fun a1 w1 hB hsz hdf hn hd => ⟨_, rfl, fun K hK => ?_⟩) ?_
    · obtain ⟨v10, h10, rfl⟩ := hd 7 10 rfl (by kernel_rfl)
      have e10 := eval_of h10
      clear h10
      refine value_ (v := .pointer (some ⟨gb, 9, none⟩)) (w1 := w1) rfl rfl ?_ (hK _ _ (Below.refl _ _) rfl)
      clear hd hn hK
      simp only [execOp, Option.map_some, Option.map_none, List.map_toArray, List.map_cons, List.map_nil, List.getElem_toArray, List.getElem_cons_zero, List.getElem_cons_succ, e10]
      clear e10
      go_simp
    refine steps_cons (fun a1 w1 hB hsz hdf hn hd => ⟨_, rfl, fun K hK => ?_⟩) ?_
    · obtain ⟨v11, h11, rfl⟩ := hd 8 11 rfl (by kernel_rfl)
      have e11 := eval_of h11
      clear h11
      refine value_ (v := .int .i64 used) (w1 := w1) rfl rfl ?_ (hK _ _ (Below.refl _ _) rfl)
      clear hd hn hK
      simp only [execOp, Option.map_some, Option.map_none, List.map_toArray, List.map_cons, List.map_nil, List.getElem_toArray, List.getElem_cons_zero, List.getElem_cons_succ, e11]
      clear e11
      have hq : w1.cell? ⟨gb, 9, none⟩ = some (.int .i64 used) := (blk_cell (HB.out.below hB) 9).trans rfl
      clear hB
      go_simp
    refine steps_cons (fun a1 w1 hB hsz hdf hn hd => ⟨_, rfl, fun K hK => ?_⟩) ?_
    · obtain ⟨v7, h7, rfl⟩ := hd 4 7 rfl (by kernel_rfl)
      have e7 := eval_of h7
      clear h7
      obtain ⟨v12, h12, rfl⟩ := hd 9 12 rfl (by kernel_rfl)
      have e12 := eval_of h12
      clear h12
      refine value_ (v := .int .i64 ((n : Int) - used)) (w1 := w1) rfl rfl ?_ (hK _ _ (Below.refl _ _) rfl)
      clear hd hn hK
      simp only [execOp, Option.map_some, Option.map_none, List.map_toArray, List.map_cons, List.map_nil, List.getElem_toArray, List.getElem_cons_zero, List.getElem_cons_succ, e7, e12]
      clear e7 e12
      have hq : IntKind.i64.wrap ((n : Int) - used) = (n : Int) - used := by rw [i64_w]; unfold wrap64; omega
      clear hB
      go_simp
    refine steps_cons (fun a1 w1 hB hsz hdf hn hd => ⟨_, rfl, fun K hK => ?_⟩) ?_
    · obtain ⟨v13, h13, rfl⟩ := hd 10 13 rfl (by kernel_rfl)
      have e13 := eval_of h13
      clear h13
      refine value_ (v := .int .i64 ((n : Int) - used)) (w1 := w1) rfl rfl ?_ (hK _ _ (Below.refl _ _) rfl)
      clear hd hn hK
      simp only [execOp, Option.map_some, Option.map_none, List.map_toArray, List.map_cons, List.map_nil, List.getElem_toArray, List.getElem_cons_zero, List.getElem_cons_succ, e13]
      clear e13
      go_simp
    exact steps_nil
  case stab => exact fun j v w w' h _ => by revert h; unfold roomRel; split <;> exact id
  case rend =>
    intro vals w1 hB hrr
    have hl : vals 11 = .int .i64 ((n : Int) - used) := hrr (11, 2) (by simp)
    have HBB := Aside0.mk hB
    clear hrr hB
    simp only [fill, Act.put, List.setIfInBounds_toArray, List.set_cons_zero, List.set_cons_succ, hl]
    go_wp2
    go_ret
    exact ⟨rfl, HBB.out⟩
set_option maxHeartbeats 4000000 in
set_option maxRecDepth 100000 in
theorem has_calls (W : World) (gb gd : Nat) (e0 : Value) (used falls o : Int) (hb : BookAt W gb gd e0 used falls) (h0 : 0 ≤ o) (h1 : o < 2) :
    Calls Try.prog 112 #[.pointer (some ⟨gb, 0, none⟩), .int .i64 o] W fun e W' => e = .returned (.bool true) ∧ Below W.heap.size W W' := by
  have c0 : W.cell? ⟨gb, 0, none⟩ = some (.int .i64 2) := (blk_cell hb 0).trans rfl
  have b0 : decide (0 ≤ o) = true := by simp; omega
  have b1 : decide (o < 2) = true := by simp; omega
  clear hb
  go_enter Try.func112, Try.ntmps112
  go_wp2
  go_ret
  exact ⟨rfl, by repeat (first | exact Below.refl _ _ | apply below_drew | apply pw_below_drewN | apply below_drew1)⟩
set_option maxHeartbeats 4000000 in
set_option maxRecDepth 100000 in
theorem bup_calls (W : World) (S : Nat → Prop) (gb gd n k : Nat) (e0 : Value) (used f : Int) (hb : BookAt W gb gd e0 used f) (hd : GD W S gd n f k) :
    Calls Try.prog 111 #[.pointer (some ⟨gb, 0, none⟩)] W fun e W' => e = .returned (.tuple #[]) ∧ Below W.heap.size W W' := by
  have c10 : W.cell? ⟨gb, 10, none⟩ = some (.pointer (some ⟨gd, 0, none⟩)) := (blk_cell hb 10).trans rfl
  have c11 : W.cell? ⟨gb, 11, none⟩ = some (.int .i64 f) := (blk_cell hb 11).trans rfl
  have c5 : W.cell? ⟨gd, 5, none⟩ = some (.int .i64 f) := hd.fallsC
  clear hb hd
  go_enter Try.func111, Try.ntmps111
  go_wp2
  go_region
  all_goals go_wp2
  all_goals go_end0
  all_goals exact ⟨rfl, by repeat (first | exact Below.refl _ _ | apply below_drew | apply pw_below_drewN | apply below_drew1)⟩
end Go.Proofs.Ytkedodmlbepfnaa.Lg

-- from the working text Ro
namespace Go.Proofs.Ytkedodmlbepfnaa.Rg
open Go.RowKit Go.Proofs.YtkedodmlbepfnaaW.PrintWords Go.Proofs.YtkedodmlbepfnaaW.PrintLast Go.Proofs.YtkedodmlbepfnaaW.PrintMore
section
variable {P : Program} {ops : Array Oper} {Q : Exit → Act → World → Prop} {T : Bool × List (List Nat × List Nat)} {n : Nat} {a0 : Act} {w0 : World}
/-- m waits for all. -/
def lastOne (B : List Nat) (O : List Nat) (m : Nat) : Bool := O.contains m && O.all (fun i => i == m || (B.getD m 0).testBit i)
theorem rg5_ {id : Nat} (m : Nat) (O : List Nat) (D : List (Nat × Tmp)) (B : List Nat) (rel : Nat → Value → World → Prop) (post : Value → World → Prop)
    (hm : P.follows .mixedOrders = true) (hT : rtab .any ops = T) (hw : waitsOk T.2 B = true) (hn : ops.size = n)
    (hk : (baseOk T.2 O && dOk ops O D a0.tmps.size && (lof T.2.length O (fun _ => false) == (Array.replicate n false).toList && O.length == n) && lastOne B O m) = true)
    (hst : ∀ i v w w', rel i v w → Below w.heap.size w w' → rel i v w')
    (hs : ∀ i ∈ O, i = m ∨ Step P ops Q B D rel a0 w0 i)
    (h1 : ∀ a w, Below w0.heap.size w0 w → (∀ t, (D.all fun e => !(e.2 == t)) = true → a.tmps[t]? = a0.tmps[t]?) → (∀ j t, D.contains (j, t) = true → (!(j == m)) = true → ∃ v, a.tmps[t]? = some v ∧ rel j v w) →
      ∃ oi, ops[m]? = some oi ∧ ∀ K : Act → World → Prop, (∀ v w1, post v w1 → K (a.put oi.dst v) w1) → if Region.wanted oi (yielded ops a.tmps) = true then Oper.wp P oi a w K Q else K (a.put oi.dst undef) w)
    (hend : ∀ (vals : Nat → Value) (w : World), post (vals m) w → Q .normal (fill a0 vals D) w) :
    (Code.region id ops true).wp P Q a0 w0 := by
  simp only [Bool.and_eq_true] at hk
  obtain ⟨⟨⟨hk1, hk2⟩, hk3⟩, hk4⟩ := hk
  refine start_ (n := n) (S := fun _ => True) (ds := []) (Array.replicate n false) hm hn rfl trivial fun _ => ?_
  have hb0 : Below w0.heap.size w0 w0.drew := below_drew (Below.refl _ _)
  revert hb0
  generalize w0.drew = w
  intro hb0
  simp only [dOk, Bool.and_eq_true] at hk2
  obtain ⟨⟨⟨hD1, hD2⟩, hD3⟩, hD4⟩ := hk2
  have hD2 := of_decide_eq_true hD2
  have hD3 := of_decide_eq_true hD3
  simp only [lastOne, Bool.and_eq_true] at hk4
  obtain ⟨hmO, hwait⟩ := hk4
  have hwt : ∀ i, O.contains i = true → i ≠ m → (B.getD m 0).testBit i = true := by
    intro i hi h1
    have h := List.all_eq_true.1 hwait i (List.contains_iff_mem.1 hi)
    simp only [Bool.or_eq_true, beq_iff_eq] at h
    exact h.resolve_left h1
  have hmemO : ∀ j t, D.contains (j, t) = true → O.contains j = true := fun j t hjt => by
    have h1 := List.all_eq_true.1 hD1 (j, t) (List.contains_iff_mem.1 hjt)
    simp only [Bool.and_eq_true] at h1
    exact h1.2
  refine inv_ O (fun b a w => ∃ vals : Nat → Value, a = putSel a0 b (ent vals D) ∧ (b m = false → Below w0.heap.size w0 w ∧ ∀ i, O.contains i = true → b i = true → i ≠ m → rel i (vals i) w) ∧ (b m = true → post (vals m) w)) hT hw hk1 (by rw [Bool.and_eq_true]; exact hk3) ?_ ?_ ?_
  · refine ⟨fun _ => undef, ?_, fun _ => ⟨hb0, fun i _ h => by cases h⟩, fun h => by cases h⟩
    have : ∀ (D : List (Nat × Tmp)) (a : Act), a = putSel a (fun _ => false) (ent (fun _ => undef) D) := by
      intro D
      induction D with
      | nil => intro a; rfl
      | cons e r ih => intro a; exact ih a
    exact this D a0
  · intro i hi b a w hI hbi hneed hafter
    obtain ⟨vals, ha, hA, hB⟩ := hI
    have hsz := putSel_size b (ent vals D) a0
    rw [← ha] at hsz
    have hiO : O.contains i = true := List.contains_iff_mem.2 hi
    have hoff : ∀ t, (D.all fun e => !(e.2 == t)) = true → a.tmps[t]? = a0.tmps[t]? := fun t ht => by
      rw [ha]
      refine putSel_off ?_
      unfold ent
      rw [List.all_map]
      exact ht
    by_cases hi1 : i = m
    · subst hi1
      obtain ⟨hbw, hrel⟩ := hA hbi
      obtain ⟨oi, hoi, hstep⟩ := h1 a w hbw hoff (fun j t hjt hne => by
        simp only [Bool.not_eq_true', beq_eq_false_iff_ne] at hne
        have hbj := hneed j (by rw [Bool.and_eq_true]; exact ⟨hmemO j t hjt, hwt j (hmemO j t hjt) hne⟩)
        refine ⟨vals j, ?_, hrel j (hmemO j t hjt) hbj hne⟩
        rw [ha]
        exact slot_of hD1 hD2 (List.contains_iff_mem.1 hjt) hbj)
      refine ⟨oi, hoi, fun K hK => hstep K fun v w1 hv => hK _ _ ⟨fun j => if j = i then v else vals j, ?_, fun h => ?_, fun _ => ?_⟩⟩
      · rw [ha]; exact put_of hD2 hD3 hoi hi hbi hD4
      · rw [up_self] at h; cases h
      · simp only [if_true]; exact hv
    · have hb1 : b m = false := hafter m (by rw [Bool.and_eq_true]; exact ⟨hmO, hwt i hiO hi1⟩)
      obtain ⟨hbw, hrel⟩ := hA hb1
      obtain ⟨oi, hoi, hstep⟩ := ((hs i hi).resolve_left hi1) a w hbw hsz.1 hsz.2 hoff (fun j t hjt hbit => by
        have hbj := hneed j (by rw [Bool.and_eq_true]; exact ⟨hmemO j t hjt, hbit⟩)
        have hj1 : j ≠ m := fun h => by subst h; rw [hb1] at hbj; cases hbj
        refine ⟨vals j, ?_, hrel j (hmemO j t hjt) hbj hj1⟩
        rw [ha]
        exact slot_of hD1 hD2 (List.contains_iff_mem.1 hjt) hbj)
      refine ⟨oi, hoi, fun K hK => hstep K fun v w1 hbw1 hrv => hK _ _ ⟨fun j => if j = i then v else vals j, ?_, fun _ => ⟨below_step hbw hbw1, fun j hj hbj hj1 => ?_⟩, fun h => ?_⟩⟩
      · rw [ha]; exact put_of hD2 hD3 hoi hi hbi hD4
      · by_cases hji : j = i
        · subst hji; simp only [if_true]; exact hrv
        · simp only [if_neg hji]
          rw [up_ne hji] at hbj
          exact hst j _ _ _ (hrel j hj hbj hj1) hbw1
      · rw [up_ne (Ne.symm hi1), hb1] at h; cases h
  · intro b a w hall hI
    obtain ⟨vals, ha, _, hB⟩ := hI
    have hmm : ∀ e ∈ D, O.contains e.1 = true := fun e he => by
      have h1 := List.all_eq_true.1 hD1 e he
      simp only [Bool.and_eq_true] at h1
      exact h1.2
    rw [ha, fill_eq vals D a0 fun e he => hall e.1 (hmm e he)]
    exact hend vals w (hB (hall m hmO))
theorem steps5_nil {B : List Nat} {D : List (Nat × Tmp)} {rel : Nat → Value → World → Prop} {m : Nat} : ∀ i ∈ ([] : List Nat), i = m ∨ Step P ops Q B D rel a0 w0 i := fun _ h => by cases h
theorem steps5_cons {B : List Nat} {D : List (Nat × Tmp)} {rel : Nat → Value → World → Prop} {m i : Nat} {rs : List Nat} (h : Step P ops Q B D rel a0 w0 i) (hs : ∀ j ∈ rs, j = m ∨ Step P ops Q B D rel a0 w0 j) : ∀ j ∈ i :: rs, j = m ∨ Step P ops Q B D rel a0 w0 j := fun j hj => by
  rcases List.mem_cons.1 hj with rfl | hj
  · exact .inr h
  · exact hs j hj
theorem steps5_m {B : List Nat} {D : List (Nat × Tmp)} {rel : Nat → Value → World → Prop} {m : Nat} {rs : List Nat} (hs : ∀ j ∈ rs, j = m ∨ Step P ops Q B D rel a0 w0 j) : ∀ j ∈ m :: rs, j = m ∨ Step P ops Q B D rel a0 w0 j := fun j hj => by
  rcases List.mem_cons.1 hj with rfl | hj
  · exact .inl rfl
  · exact hs j hj
end
end Go.Proofs.Ytkedodmlbepfnaa.Rg

-- from the working text Pt
set_option linter.unusedSimpArgs false
set_option linter.unusedVariables false
namespace Go.Proofs.Ytkedodmlbepfnaa.Lg
open Go.RowKit Go.Proofs.YtkedodmlbepfnaaW.PrintWords Go.Proofs.YtkedodmlbepfnaaW.PrintLast Go.Proofs.YtkedodmlbepfnaaW.PrintMore Go.Proofs.Ytkedodmlbepfnaa.Rg
theorem append23 {w : World} {S : Nat → Prop} {v : Value} {n : Nat} {xs cs : List Value} {gl : Nat} (ty : TypeId) (h : Own w S 23 3 v n xs) (hl : w.heap[gl]? = some (.cells cs.toArray 23 (0, 0))) (hc : cs.length = 3) (h1 : ∀ u ∈ cs, u.oneCell' = true) (hn : n ≤ 1000000) :
    ∃ v' w', (Builtin.append_ #[24, 24] ty #[v, .slice (some ⟨gl, 0, none⟩) 1 1]).run Try.prog w = .ok v' w' ∧ Own w' (Nw S w) 23 3 v' (n + 1) (xs ++ cs) ∧ w.grownBy w' v.ownBlock := by
  obtain ⟨i0, hi, hz0, hz1, hz2⟩ := info_parts info23
  obtain ⟨v', w', hrun, hown, hg, _, hb⟩ := run_append_own_at (P := Try.prog) w 0 24 ty 23 i0 _ 3 32 Try.underlying24 hi hz0 hz1 hz2 rfl (by omega) v n xs h.1 ⟨gl, 0, none⟩ 1 1 cs (by omega)
    (by
      intro j u hu
      rw [Addr.add_mid, Nat.zero_add, blk_cell hl j, List.getElem?_toArray]
      exact hu) h1 (by simp only [maxLen]; omega) (by omega) (Nat.zero_le _)
  refine ⟨v', w', hrun, ⟨hown, fun k hk => ?_⟩, hg⟩
  rcases hb with hb | hb
  · exact .inl (h.2 k (hb ▸ hk))
  · rw [hb] at hk
    injection hk with hk
    exact .inr (by omega)
theorem append23_ {ops : Array Oper} {Q : Exit → Act → World → Prop} {oi : Oper} {N : Option Tmp} {a : Act} {w : World} {K : Act → World → Prop} {S : Nat → Prop} {s x : Operand} {v : Value} {n gl : Nat} {xs cs : List Value} (hw : Region.wanted oi (yielded ops a.tmps) = true) (hN : oi.dst = N)
    (hop : oi.op = .call { callee := .builtin .append, args := #[s, x], argTypes := #[24, 24] })
    (hs : a.eval s = v) (hx : a.eval x = .slice (some ⟨gl, 0, none⟩) 1 1) (h : Own w S 23 3 v n xs) (hl : w.heap[gl]? = some (.cells cs.toArray 23 (0, 0))) (hc : cs.length = 3) (h1 : ∀ u ∈ cs, u.oneCell' = true) (hn : n ≤ 1000000)
    (hk : ∀ v' w', Own w' (Nw S w) 23 3 v' (n + 1) (xs ++ cs) → w.grownBy w' v.ownBlock → K (a.put N v') w') : if Region.wanted oi (yielded ops a.tmps) = true then Oper.wp Try.prog oi a w K Q else K (a.put N undef) w := by
  obtain ⟨v', w', hrun, ho, hg⟩ := append23 oi.type h hl hc h1 hn
  refine value_ hw hN ?_ (hk v' w' ho hg)
  unfold execOp
  simp only [hop, resolve, invoke, builtin, Sem.run_bind, Sem.run_pure, Result.andThen_ok, List.map_toArray, List.map_cons, List.map_nil, hs, hx, hrun]
theorem size24 : (Try.prog.info? 24).map (·.size) = some 1 := by kernel_rfl
theorem sectors_calls23 (a b : Int) (s : ByteArray) (w : World) (hs : s.size ≤ 2400) :
    Calls Try.prog 142 #[.agg #[.int .i64 a, .int .i64 b, .string s]] w fun e w' => e = .returned (.int .i64 ((1 + (s.size + 6) / 64 : Nat) : Int)) ∧ Below w.heap.size w w' := by
  have hz : (strOfNums [a % 256, b % 256]).size = 2 := by rw [strOfNums_size]; rfl
  have hsz : (strOfNums [a % 256, b % 256] ++ s).size = s.size + 2 := by rw [ByteArray.size_append, hz]; omega
  refine ledger_sectors.calls a b s _ w ?_
  unfold ledger_sectors.f ledger_payload.f ledger_count.f
  rw [Option.bind_some, if_pos (by omega), Option.bind_some, Option.bind_some, hsz]
  congr 1
  have h1 : wrap64 (((s.size + 2 : Nat) : Int) + 4) = ((s.size + 6 : Nat) : Int) := by unfold wrap64; omega
  rw [h1]
  have h2 : Int.tdiv ((s.size + 6 : Nat) : Int) 64 = (((s.size + 6) / 64 : Nat) : Int) := rfl
  rw [h2]
  have h3 : wrap64 ((((s.size + 6) / 64 : Nat)) : Int) = (((s.size + 6) / 64 : Nat) : Int) := by unfold wrap64; omega
  rw [h3]
  unfold wrap64; omega
def putRel (gb : Nat) (e0 : Value) (a no : Int) (s : ByteArray) : Nat → Value → World → Prop
  | 0, v, _ => v = .pointer (some ⟨gb, 1, none⟩)
  | 1, v, _ => v = .pointer (some ⟨gb, 1, none⟩)
  | 2, v, _ => v = .pointer (some ⟨gb, 1, none⟩)
  | 3, v, _ => v = e0
  | 4, v, _ => v = .agg #[.int .i64 a, .int .i64 no, .string s]
  | 5, v, w => ∃ gl, v = .slice (some ⟨gl, 0, none⟩) 1 1 ∧ w.heap[gl]? = some (.cells [.int .i64 a, .int .i64 no, .string s].toArray 23 (0, 0))
  | 7, v, _ => v = .pointer (some ⟨gb, 1, none⟩)
  | _, _, _ => True
def putSt (gb : Nat) : Nat → Value → Prop
  | 0, v => v = .pointer (some ⟨gb, 1, none⟩)
  | 7, v => v = .pointer (some ⟨gb, 1, none⟩)
  | _, _ => True
theorem putRel_stable (gb : Nat) (e0 : Value) (a no : Int) (s : ByteArray) (j : Nat) (v : Value) (w w' : World) (h : putRel gb e0 a no s j v w) (hb : Below w.heap.size w w') : putRel gb e0 a no s j v w' := by
  revert h
  unfold putRel
  split <;> intro h <;> first | exact h | (obtain ⟨gl, h1, h2⟩ := h; exact ⟨gl, h1, (hb.block gl (blk_lt h2)).trans h2⟩)
theorem putRel_st (gb : Nat) (e0 : Value) (a no : Int) (s : ByteArray) (j : Nat) (v : Value) (w : World) (h : putRel gb e0 a no s j v w) : putSt gb j v := by
  unfold putSt
  split <;> first | exact h | trivial
/-- Behind the append, and behind the store. -/
def PutMid (w : World) (Se : Nat → Prop) (gb gd gx : Nat) (e0 : Value) (used falls : Int) (nE : Nat) (ys : List Value) (a no : Int) (s : ByteArray) (v : Value) (W : World) : Prop :=
  BookAt W gb gd e0 used falls ∧ Own W (Nw Se w) 23 3 v nE ys ∧ Kp Se w W ∧ W.heap[gx]? = some (.cells #[.int .i64 a, .int .i64 no, .string s] 23 (0, 0))
def PutEnd (w : World) (Se : Nat → Prop) (gb gd gx : Nat) (used falls : Int) (nE : Nat) (ys : List Value) (a no : Int) (s : ByteArray) (W : World) : Prop :=
  ∃ e1, BookAt W gb gd e1 used falls ∧ Own W (Nw Se w) 23 3 e1 nE ys ∧ Kp (fun k => Se k ∨ k = gb) w W ∧ W.heap[gx]? = some (.cells #[.int .i64 a, .int .i64 no, .string s] 23 (0, 0))
theorem PutMid.store {w W : World} {Se : Nat → Prop} {gb gd gx nE : Nat} {e0 v : Value} {used falls a no : Int} {ys : List Value} {s : ByteArray} (h : PutMid w Se gb gd gx e0 used falls nE ys a no s v W) :
    PutEnd w Se gb gd gx used falls nE ys a no s (W.setCell ⟨gb, 1, none⟩ v) := by
  obtain ⟨h1, h2, h3, h4⟩ := h
  have h1' : W.heap[gb]? = some (.cells (bookCells e0 used gd falls) 95 (0, 0)) := h1
  refine ⟨v, ?_, h2.setCell (h2.type_ne h1' (by decide)) v, (h3.mono fun k hk => .inl hk).setCell (.inl (.inr rfl)) v, ?_⟩
  · unfold BookAt
    rw [blk_set h1']
    rfl
  · refine (Below.heap_setCell _ _ _ _ (fun e => ?_)).trans h4
    rw [e] at h4
    simp only at h4
    rw [h1'] at h4
    injection h4 with h4
    injection h4 with _ h4 _
    cases h4
def put5Rel (gb cnt : Nat) (used a no : Int) (s : ByteArray) : Nat → Value → World → Prop
  | 0, v, _ => v = .pointer (some ⟨gb, 0, none⟩)
  | 1, v, _ => v = .pointer (some ⟨gb, 0, none⟩)
  | 2, v, _ => v = .pointer (some ⟨gb, 9, none⟩)
  | 3, v, _ => v = .int .i64 used
  | 4, v, _ => v = .agg #[.int .i64 a, .int .i64 no, .string s]
  | 5, v, _ => v = .int .i64 (cnt : Int)
  | 6, v, _ => v = .int .i64 (used + (cnt : Int))
  | 7, v, _ => v = .pointer (some ⟨gb, 0, none⟩)
  | 8, v, _ => v = .pointer (some ⟨gb, 9, none⟩)
  | _, _, _ => True
theorem size3 : (Try.prog.info? 3).map (·.size) = some 1 := by kernel_rfl
set_option maxRecDepth 100000 in
theorem store3_ {ops : Array Oper} {Q : Exit → Act → World → Prop} {oi : Oper} {a : Act} {w : World} {K : Act → World → Prop} {g i : Nat} {y : Int} {x p : Operand} {u : Value} (hw : Region.wanted oi (yielded ops a.tmps) = true) (hN : oi.dst = none) (hop : oi.op = .store 3 p x) (hp : a.eval p = .pointer (some ⟨g, i, none⟩)) (hx : a.eval x = .int .i64 y) (hc : w.cell? ⟨g, i, none⟩ = some u) (hf : w.frozen? ⟨g, i, none⟩ = false)
    (hk : K a (w.setCell ⟨g, i, none⟩ (.int .i64 y))) : if Region.wanted oi (yielded ops a.tmps) = true then Oper.wp Try.prog oi a w K Q else K (a.put none undef) w := by
  refine skip_ hw hN ?_ hk
  unfold execOp
  simp only [hop, hp, hx]
  go_simp
theorem PutEnd.store {w W W1 : World} {Se : Nat → Prop} {gb gd gx nE : Nat} {used falls a no : Int} {ys : List Value} {s : ByteArray} (h : PutEnd w Se gb gd gx used falls nE ys a no s W) (hB : Below W.heap.size W W1) (y : Int) :
    ∃ e1, BookAt (W1.setCell ⟨gb, 9, none⟩ (.int .i64 y)) gb gd e1 y falls ∧ Own (W1.setCell ⟨gb, 9, none⟩ (.int .i64 y)) (Nw Se w) 23 3 e1 nE ys ∧ Kp (fun k => Se k ∨ k = gb) w (W1.setCell ⟨gb, 9, none⟩ (.int .i64 y)) := by
  obtain ⟨e1, h1, h2, h3, h4⟩ := h
  have h1' : W1.heap[gb]? = some (.cells (bookCells e1 used gd falls) 95 (0, 0)) := h1.below hB
  refine ⟨e1, ?_, (own_later h2 hB).setCell ((own_later h2 hB).type_ne h1' (by decide)) _, (h3.below hB).setCell (.inl (.inr rfl)) _⟩
  unfold BookAt
  rw [blk_set h1']
  rfl
set_option maxHeartbeats 8000000 in
set_option maxRecDepth 100000 in
theorem putA_calls (w : World) (Se : Nat → Prop) (gb gd nE : Nat) (e0 : Value) (used falls : Int) (xs : List Value) (s : ByteArray) (hb : BookAt w gb gd e0 used falls) (ho : Own w Se 23 3 e0 nE xs) (hn : nE ≤ 60) (hs : s.size ≤ 2400) (hu : 0 ≤ used) (hu2 : used ≤ 4096) (hSe : ∀ k, Se k → k < w.heap.size) :
    Calls Try.prog 144 #[.pointer (some ⟨gb, 0, none⟩), .agg #[.int .i64 0, .int .i64 (nE : Int), .string s]] w fun e w' => e = .returned (.tuple #[]) ∧ ∃ e1, BookAt w' gb gd e1 (used + ((1 + (s.size + 6) / 64 : Nat) : Int)) falls ∧ Own w' (Nw Se w) 23 3 e1 (nE + 1) (xs ++ [.int .i64 0, .int .i64 (nE : Int), .string s]) ∧ Kp (fun k => Se k ∨ k = gb) w w' := by
  obtain ⟨A, c, rfl⟩ := ho.slice
  have hlt := blk_lt hb
  have hX := blk_new w (.cells #[.int .i64 0, .int .i64 (nE : Int), .string s] 23)
  have hB1 : Below w.heap.size w (w.alloc (.cells #[.int .i64 0, .int .i64 (nE : Int), .string s] 23)) := below_alloc (Below.refl _ _) _
  have c1 : (w.alloc (.cells #[.int .i64 0, .int .i64 (nE : Int), .string s] 23)).cell? ⟨gb, 1, none⟩ = some (.slice A nE c) := (blk_cell (hb.below hB1) 1).trans rfl
  have HBk := Aside0.mk (hb.below hB1)
  have HO := Aside0.mk (own_later ho hB1)
  have HX := Aside0.mk hX
  have HKp := Aside0.mk (Kp.of_below Se hB1)
  have HXne : Aside0 (¬ Se w.heap.size) := Aside0.mk fun h => Nat.lt_irrefl _ (hSe _ h)
  have HN : Aside0 (nE ≤ 1000000) := Aside0.mk (by omega)
  clear hb ho hX hB1 hSe
  go_enter Try.func144, Try.ntmps144
  go_wp2
  go_region
  all_goals go_wp2
  all_goals (try go_region)
  all_goals go_wp2
  generalize hWW : (w.alloc (.cells #[.int .i64 0, .int .i64 (nE : Int), .string s] 23)).drew.drew = W0
  have hb2 : Below (w.alloc (.cells #[.int .i64 0, .int .i64 (nE : Int), .string s] 23)).heap.size (w.alloc (.cells #[.int .i64 0, .int .i64 (nE : Int), .string s] 23)) W0 := by rw [← hWW]; exact below_drew (below_drew (Below.refl _ _))
  have HBk' := Aside0.mk (HBk.out.below hb2)
  have HO' := Aside0.mk (own_later HO.out hb2)
  have HX' := Aside0.mk ((hb2.block _ (blk_lt HX.out)).trans HX.out)
  have HKp' := Aside0.mk (HKp.out.below hb2)
  clear HBk HO HX HKp hb2 hWW c1
  have HBk := HBk'
  have HO := HO'
  have HX := HX'
  have HKp := HKp'
  clear HBk' HO' HX' HKp'
  refine rg4_ 6 8 [0, 1, 2, 3, 4, 5, 6, 7, 8] [0, 7] [(0, 18), (1, 19), (2, 20), (3, 21), (4, 22), (5, 23), (6, 24), (7, 25)] (bitsOf (rtab .any (opsOf Try.f144 3)).2) (putRel gb (.slice A nE c) 0 (nE : Int) s) (putSt gb) (PutMid w Se gb gd (w.heap.size) (.slice A nE c) used falls (nE + 1) (xs ++ [.int .i64 0, .int .i64 (nE : Int), .string s]) 0 (nE : Int) s) (fun _ W => PutEnd w Se gb gd (w.heap.size) used falls (nE + 1) (xs ++ [.int .i64 0, .int .i64 (nE : Int), .string s]) 0 (nE : Int) s W) (by kernel_rfl) rfl (by kernel_rfl) rfl (by kernel_rfl) (putRel_stable _ _ _ _ _) (putRel_st _ _ _ _ _) ?steps ?h1 ?h2 ?rend
  case steps =>
    refine steps4_loose rfl (fun a1 w1 hn hd => ⟨_, rfl, fun K hK => ?_⟩) ?_
    · have e4 := eval_of ((hn 4 rfl).trans rfl)
      refine value_ (v := .pointer (some ⟨gb, 1, none⟩)) (w1 := w1) rfl rfl ?_ (hK _ (fun _ => rfl))
      clear hd hn hK
      simp only [execOp, Option.map_some, Option.map_none, List.map_toArray, List.map_cons, List.map_nil, List.getElem_toArray, List.getElem_cons_zero, List.getElem_cons_succ, e4]
      clear e4
      go_simp
    refine steps4_cons rfl (fun a1 w1 hB hsz hdf hn hd => ⟨_, rfl, fun K hK => ?_⟩) ?_
    · have e4 := eval_of ((hn 4 rfl).trans rfl)
      refine value_ (v := .pointer (some ⟨gb, 1, none⟩)) (w1 := w1) rfl rfl ?_ (hK _ _ (Below.refl _ _) rfl)
      clear hd hn hK
      simp only [execOp, Option.map_some, Option.map_none, List.map_toArray, List.map_cons, List.map_nil, List.getElem_toArray, List.getElem_cons_zero, List.getElem_cons_succ, e4]
      clear e4
      go_simp
    refine steps4_cons rfl (fun a1 w1 hB hsz hdf hn hd => ⟨_, rfl, fun K hK => ?_⟩) ?_
    · obtain ⟨v19, h19, rfl⟩ := hd 1 19 rfl (by kernel_rfl)
      have e19 := eval_of h19
      clear h19
      refine value_ (v := .pointer (some ⟨gb, 1, none⟩)) (w1 := w1) rfl rfl ?_ (hK _ _ (Below.refl _ _) rfl)
      clear hd hn hK
      simp only [execOp, Option.map_some, Option.map_none, List.map_toArray, List.map_cons, List.map_nil, List.getElem_toArray, List.getElem_cons_zero, List.getElem_cons_succ, e19]
      clear e19
      go_simp
    refine steps4_cons rfl (fun a1 w1 hB hsz hdf hn hd => ⟨_, rfl, fun K hK => ?_⟩) ?_
    · obtain ⟨v20, h20, rfl⟩ := hd 2 20 rfl (by kernel_rfl)
      have e20 := eval_of h20
      clear h20
      refine value_ (v := .slice A nE c) (w1 := w1) rfl rfl ?_ (hK _ _ (Below.refl _ _) rfl)
      clear hd hn hK
      simp only [execOp, Option.map_some, Option.map_none, List.map_toArray, List.map_cons, List.map_nil, List.getElem_toArray, List.getElem_cons_zero, List.getElem_cons_succ, e20]
      clear e20
      have hq : w1.cell? ⟨gb, 1, none⟩ = some (.slice A nE c) := (blk_cell (HBk.out.below hB) 1).trans rfl
      clear hB
      go_simp
    refine steps4_cons rfl (fun a1 w1 hB hsz hdf hn hd => ⟨_, rfl, fun K hK => ?_⟩) ?_
    · have e3 := eval_of ((hn 3 rfl).trans rfl)
      refine value_ (v := .agg #[.int .i64 0, .int .i64 (nE : Int), .string s]) (w1 := w1) rfl rfl ?_ (hK _ _ (Below.refl _ _) rfl)
      clear hd hn hK
      simp only [execOp, Option.map_some, Option.map_none, List.map_toArray, List.map_cons, List.map_nil, List.getElem_toArray, List.getElem_cons_zero, List.getElem_cons_succ, e3]
      clear e3
      have hbx := (hB.block w.heap.size (blk_lt HX.out)).trans HX.out
      have hx0 : w1.cell? ⟨w.heap.size, 0, none⟩ = some (.int .i64 0) := (blk_cell hbx 0).trans rfl
      have hx1 : w1.cell? ⟨w.heap.size, 1, none⟩ = some (.int .i64 (nE : Int)) := (blk_cell hbx 1).trans rfl
      have hx2 : w1.cell? ⟨w.heap.size, 2, none⟩ = some (.string s) := (blk_cell hbx 2).trans rfl
      clear hB hbx
      go_simp
    refine steps4_cons rfl (fun a1 w1 hB hsz hdf hn hd => ⟨_, rfl, fun K hK => ?_⟩) ?_
    · obtain ⟨v22, h22, rfl⟩ := hd 4 22 rfl (by kernel_rfl)
      have e22 := eval_of h22
      clear h22
      refine value_ (v := .slice (some ⟨w1.heap.size, 0, none⟩) 1 1) (w1 := w1.alloc (.cells [.int .i64 0, .int .i64 (nE : Int), .string s].toArray 23)) rfl rfl ?_ (hK _ _ (below_alloc (Below.refl _ _) _) ⟨_, rfl, blk_new _ _⟩)
      clear hd hn hK
      simp only [execOp, Option.map_some, Option.map_none, List.map_toArray, List.map_cons, List.map_nil, List.getElem_toArray, List.getElem_cons_zero, List.getElem_cons_succ, e22]
      clear e22
      go_simp
    refine steps4_m1 ?_
    refine steps4_loose rfl (fun a1 w1 hn hd => ⟨_, rfl, fun K hK => ?_⟩) ?_
    · obtain ⟨v18, h18, rfl⟩ := hd 0 18 rfl (by kernel_rfl)
      have e18 := eval_of h18
      clear h18
      refine value_ (v := .pointer (some ⟨gb, 1, none⟩)) (w1 := w1) rfl rfl ?_ (hK _ (fun _ => rfl))
      clear hd hn hK
      simp only [execOp, Option.map_some, Option.map_none, List.map_toArray, List.map_cons, List.map_nil, List.getElem_toArray, List.getElem_cons_zero, List.getElem_cons_succ, e18]
      clear e18
      go_simp
    refine steps4_m2 ?_
    exact steps4_nil
  case h1 =>
    intro a1 w1 hB hn hd
    obtain ⟨v21, h21, q21⟩ := hd 3 21 rfl (by kernel_rfl)
    obtain ⟨v23, h23, gl, rfl, hgl⟩ := hd 5 23 rfl (by kernel_rfl)
    have e21 : v21 = .slice A nE c := q21
    subst e21
    have e1 := eval_of h21
    have e2 := eval_of h23
    refine ⟨_, rfl, fun K hK => ?_⟩
    refine append23_ rfl rfl rfl e1 e2 (own_later HO.out hB) hgl rfl (by intro u hu; simp only [List.mem_cons, List.not_mem_nil, or_false] at hu; rcases hu with rfl | rfl | rfl <;> rfl) HN.out (fun v' w' hown hg => ?_)
    refine hK _ _ ⟨?_, hown.mono fun k hk => hk.elim (fun h => .inl h) (fun h => .inr (Nat.le_trans HKp.out.size (Nat.le_trans hB.size h))), (HKp.out.below hB).of_grown hg (fun k e => .inl (HO.out.2 k e)), ?_⟩
    · have hbb := HBk.out.below hB
      exact (hg.block gb (blk_lt hbb) (fun e => (own_later HO.out hB).type_ne hbb (by decide) e.symm)).trans hbb
    · have hbx := (hB.block w.heap.size (blk_lt HX.out)).trans HX.out
      exact (hg.block w.heap.size (blk_lt hbx) (fun e => HXne.out (HO.out.2 _ e.symm))).trans hbx
  case h2 =>
    intro a1 w1 hn hd hp
    obtain ⟨v25, h25, q25⟩ := hd 7 25 rfl (by kernel_rfl)
    have e25 : v25 = .pointer (some ⟨gb, 1, none⟩) := q25
    subst e25
    obtain ⟨v', hp1, ht⟩ := hp
    have e1 := eval_of h25
    have e2 := eval_of (ht 24 rfl)
    refine ⟨_, rfl, fun K hK => ?_⟩
    obtain ⟨A', c', rfl⟩ := hp1.2.1.slice
    exact store_ rfl rfl rfl e1 e2 ((blk_cell hp1.1 1).trans rfl) (blk_frozen hp1.1 1) Try.underlying24 size24 (hK undef _ hp1.store)
  case rend =>
    intro vals w1 hp _
    simp only [fill, Act.put, List.setIfInBounds_toArray, List.set_cons_zero, List.set_cons_succ]
    have HP := Aside0.mk hp
    clear hp
    go_wp2
    obtain ⟨e1, hB1, hO1, hK1, hX1⟩ := HP.out
    refine rg5_ 9 [0, 1, 2, 3, 4, 5, 6, 7, 8, 9] [(0, 33), (1, 34), (2, 35), (3, 36), (4, 37), (5, 38), (6, 39), (7, 40), (8, 41)] (bitsOf (rtab .any (opsOf Try.f144 5)).2) (put5Rel gb (1 + (s.size + 6) / 64) used 0 (nE : Int) s) (fun _ W => ∃ e1, BookAt W gb gd e1 (used + ((1 + (s.size + 6) / 64 : Nat) : Int)) falls ∧ Own W (Nw Se w) 23 3 e1 (nE + 1) (xs ++ [.int .i64 0, .int .i64 (nE : Int), .string s]) ∧ Kp (fun k => Se k ∨ k = gb) w W) (by kernel_rfl) rfl (by kernel_rfl) rfl (by kernel_rfl) (fun j v w w' h _ => by revert h; unfold put5Rel; split <;> exact id) ?steps5 ?h15 ?rend5
    case steps5 =>
      refine steps5_cons (fun a1 w2 hB hsz hdf hn hd => ⟨_, rfl, fun K hK => ?_⟩) ?_
      · have e0 := eval_of ((hn 0 rfl).trans rfl)
        refine value_ (v := .pointer (some ⟨gb, 0, none⟩)) (w1 := w2) rfl rfl ?_ (hK _ _ (Below.refl _ _) rfl)
        clear hd hn hK
        simp only [execOp, Option.map_some, Option.map_none, List.map_toArray, List.map_cons, List.map_nil, List.getElem_toArray, List.getElem_cons_zero, List.getElem_cons_succ, e0]
        clear e0
        go_simp
      refine steps5_cons (fun a1 w2 hB hsz hdf hn hd => ⟨_, rfl, fun K hK => ?_⟩) ?_
      · obtain ⟨v33, h33, rfl⟩ := hd 0 33 rfl (by kernel_rfl)
        have e33 := eval_of h33
        clear h33
        refine value_ (v := .pointer (some ⟨gb, 0, none⟩)) (w1 := w2) rfl rfl ?_ (hK _ _ (Below.refl _ _) rfl)
        clear hd hn hK
        simp only [execOp, Option.map_some, Option.map_none, List.map_toArray, List.map_cons, List.map_nil, List.getElem_toArray, List.getElem_cons_zero, List.getElem_cons_succ, e33]
        clear e33
        go_simp
      refine steps5_cons (fun a1 w2 hB hsz hdf hn hd => ⟨_, rfl, fun K hK => ?_⟩) ?_
      · obtain ⟨v34, h34, rfl⟩ := hd 1 34 rfl (by kernel_rfl)
        have e34 := eval_of h34
        clear h34
        refine value_ (v := .pointer (some ⟨gb, 9, none⟩)) (w1 := w2) rfl rfl ?_ (hK _ _ (Below.refl _ _) rfl)
        clear hd hn hK
        simp only [execOp, Option.map_some, Option.map_none, List.map_toArray, List.map_cons, List.map_nil, List.getElem_toArray, List.getElem_cons_zero, List.getElem_cons_succ, e34]
        clear e34
        go_simp
      refine steps5_cons (fun a1 w2 hB hsz hdf hn hd => ⟨_, rfl, fun K hK => ?_⟩) ?_
      · obtain ⟨v35, h35, rfl⟩ := hd 2 35 rfl (by kernel_rfl)
        have e35 := eval_of h35
        clear h35
        refine value_ (v := .int .i64 used) (w1 := w2) rfl rfl ?_ (hK _ _ (Below.refl _ _) rfl)
        clear hd hn hK
        simp only [execOp, Option.map_some, Option.map_none, List.map_toArray, List.map_cons, List.map_nil, List.getElem_toArray, List.getElem_cons_zero, List.getElem_cons_succ, e35]
        clear e35
        have hq : w2.cell? ⟨gb, 9, none⟩ = some (.int .i64 used) := (blk_cell (hB1.below hB) 9).trans rfl
        clear hB
        go_simp
      refine steps5_cons (fun a1 w2 hB hsz hdf hn hd => ⟨_, rfl, fun K hK => ?_⟩) ?_
      · have e3 := eval_of ((hn 3 rfl).trans rfl)
        refine value_ (v := .agg #[.int .i64 0, .int .i64 (nE : Int), .string s]) (w1 := w2) rfl rfl ?_ (hK _ _ (Below.refl _ _) rfl)
        clear hd hn hK
        simp only [execOp, Option.map_some, Option.map_none, List.map_toArray, List.map_cons, List.map_nil, List.getElem_toArray, List.getElem_cons_zero, List.getElem_cons_succ, e3]
        clear e3
        have hbx := (hB.block _ (blk_lt hX1)).trans hX1
        have hx0 : w2.cell? ⟨w.heap.size, 0, none⟩ = some (.int .i64 0) := (blk_cell hbx 0).trans rfl
        have hx1 : w2.cell? ⟨w.heap.size, 1, none⟩ = some (.int .i64 (nE : Int)) := (blk_cell hbx 1).trans rfl
        have hx2 : w2.cell? ⟨w.heap.size, 2, none⟩ = some (.string s) := (blk_cell hbx 2).trans rfl
        clear hB hbx
        go_simp
      refine steps5_cons (fun a1 w2 hB hsz hdf hn hd => ⟨_, rfl, fun K hK => ?_⟩) ?_
      · obtain ⟨v37, h37, rfl⟩ := hd 4 37 rfl (by kernel_rfl)
        have e37 := eval_of h37
        clear h37
        refine goes_ Try.func142 (by kernel_rfl) rfl #[.agg #[.int .i64 0, .int .i64 (nE : Int), .string s]] (by rfl) rfl rfl (by simp only [List.map_toArray, List.map_cons, List.map_nil, e37]) ?_
        refine (sectors_calls23 0 (nE : Int) s _ hs).mono ?_
        rintro e w3 ⟨rfl, hbw⟩
        exact ⟨_, rfl, hK _ _ hbw rfl⟩
      refine steps5_cons (fun a1 w2 hB hsz hdf hn hd => ⟨_, rfl, fun K hK => ?_⟩) ?_
      · obtain ⟨v36, h36, rfl⟩ := hd 3 36 rfl (by kernel_rfl)
        have e36 := eval_of h36
        clear h36
        obtain ⟨v38, h38, rfl⟩ := hd 5 38 rfl (by kernel_rfl)
        have e38 := eval_of h38
        clear h38
        refine value_ (v := .int .i64 (used + ((1 + (s.size + 6) / 64 : Nat) : Int))) (w1 := w2) rfl rfl ?_ (hK _ _ (Below.refl _ _) rfl)
        clear hd hn hK
        simp only [execOp, Option.map_some, Option.map_none, List.map_toArray, List.map_cons, List.map_nil, List.getElem_toArray, List.getElem_cons_zero, List.getElem_cons_succ, e36, e38]
        clear e36 e38
        have hq : IntKind.i64.wrap (used + ((1 + (s.size + 6) / 64 : Nat) : Int)) = used + ((1 + (s.size + 6) / 64 : Nat) : Int) := by rw [i64_w]; unfold wrap64; omega
        generalize ((1 + (s.size + 6) / 64 : Nat) : Int) = cc at hq ⊢
        clear hB
        go_simp
      refine steps5_cons (fun a1 w2 hB hsz hdf hn hd => ⟨_, rfl, fun K hK => ?_⟩) ?_
      · obtain ⟨v33, h33, rfl⟩ := hd 0 33 rfl (by kernel_rfl)
        have e33 := eval_of h33
        clear h33
        refine value_ (v := .pointer (some ⟨gb, 0, none⟩)) (w1 := w2) rfl rfl ?_ (hK _ _ (Below.refl _ _) rfl)
        clear hd hn hK
        simp only [execOp, Option.map_some, Option.map_none, List.map_toArray, List.map_cons, List.map_nil, List.getElem_toArray, List.getElem_cons_zero, List.getElem_cons_succ, e33]
        clear e33
        go_simp
      refine steps5_cons (fun a1 w2 hB hsz hdf hn hd => ⟨_, rfl, fun K hK => ?_⟩) ?_
      · obtain ⟨v40, h40, rfl⟩ := hd 7 40 rfl (by kernel_rfl)
        have e40 := eval_of h40
        clear h40
        refine value_ (v := .pointer (some ⟨gb, 9, none⟩)) (w1 := w2) rfl rfl ?_ (hK _ _ (Below.refl _ _) rfl)
        clear hd hn hK
        simp only [execOp, Option.map_some, Option.map_none, List.map_toArray, List.map_cons, List.map_nil, List.getElem_toArray, List.getElem_cons_zero, List.getElem_cons_succ, e40]
        clear e40
        go_simp
      refine steps5_m ?_
      exact steps5_nil
    case h15 =>
      intro a1 w2 hB hn hd
      obtain ⟨v39, h39, q39⟩ := hd 6 39 rfl (by kernel_rfl)
      have e39 : v39 = .int .i64 (used + ((1 + (s.size + 6) / 64 : Nat) : Int)) := q39
      subst e39
      obtain ⟨v41, h41, q41⟩ := hd 8 41 rfl (by kernel_rfl)
      have e41 : v41 = .pointer (some ⟨gb, 9, none⟩) := q41
      subst e41
      refine ⟨_, rfl, fun K hK => ?_⟩
      exact store3_ rfl rfl rfl (eval_of h41) (eval_of h39) ((blk_cell (hB1.below hB) 9).trans rfl) (blk_frozen (hB1.below hB) 9) (hK undef _ (HP.out.store hB _))
    case rend5 =>
      intro vals2 w2 hp2
      simp only [fill, Act.put, List.setIfInBounds_toArray, List.set_cons_zero, List.set_cons_succ]
      have HP2 := Aside0.mk hp2
      clear hp2
      go_wp2
      go_end0
      exact ⟨rfl, HP2.out⟩
end Go.Proofs.Ytkedodmlbepfnaa.Lg

-- from the working text Bw
set_option linter.unusedSimpArgs false
set_option linter.unusedVariables false
namespace Go.Proofs.Ytkedodmlbepfnaa.Lg
open Go.RowKit Go.Proofs.YtkedodmlbepfnaaW.PrintWords Go.Proofs.YtkedodmlbepfnaaW.PrintLast Go.Proofs.YtkedodmlbepfnaaW.PrintMore Go.Proofs.Ytkedodmlbepfnaa.Rg
/-- A block of a disk's. -/
def TY (w : World) (k : Nat) : Prop := ∃ cs t z, w.heap[k]? = some (.cells cs t z) ∧ (t = 115 ∨ t = 122 ∨ t = 124)
theorem TY.not {w : World} {k : Nat} {cs : Array Value} {t : TypeId} {z : Nat × Nat} (h : w.heap[k]? = some (.cells cs t z)) (h1 : t ≠ 115) (h2 : t ≠ 122) (h3 : t ≠ 124) : ¬ TY w k := by
  rintro ⟨cs', t', z', h', ht⟩
  rw [h] at h'
  injection h' with h'
  injection h' with _ h' _
  subst h'
  rcases ht with ht | ht | ht
  · exact h1 ht
  · exact h2 ht
  · exact h3 ht
theorem Own.typed {w : World} {S : Nat → Prop} {e : TypeId} {size n : Nat} {v : Value} {xs : List Value} (h : Own w S e size v n xs) (he : e = 115 ∨ e = 122 ∨ e = 124) : Own w (fun i => S i ∧ TY w i) e size v n xs := by
  refine ⟨h.1, fun k hk => ⟨h.2 k hk, ?_⟩⟩
  obtain ⟨c, hc⟩ := own_typed h.1 k hk
  exact ⟨_, _, _, hc, he⟩
theorem GD.typed {w : World} {S : Nat → Prop} {g n k : Nat} {f : Int} (h : GD w S g n f k) : GD w (fun i => S i ∧ TY w i) g n f k := by
  obtain ⟨d, vs, vn, vw, ⟨h1, h2, h3, h4, h5, h6, h7⟩, hr⟩ := h
  exact ⟨d, vs, vn, vw, ⟨h1, ⟨h2, _, _, _, h3, .inl rfl⟩, h3, h4.typed (.inr (.inl rfl)), h5.typed (.inr (.inl rfl)), h6.typed (.inr (.inr rfl)), h7⟩, hr⟩
/-- The one block of a row. -/
theorem Own.exact {w : World} {S : Nat → Prop} {e : TypeId} {size n : Nat} {v : Value} {xs : List Value} (h : Own w S e size v n xs) : Own w (fun k => v.ownBlock = some k) e size v n xs := ⟨h.1, fun _ hk => hk⟩
/-- A book with its disk and its first office's entries, all newer than base. -/
def BK (base : Nat) (w : World) (gb gd n : Nat) (e0 : Value) (used f : Int) (nE : Nat) (xs : List Value) (k : Nat) : Prop :=
  base ≤ gb ∧ BookAt w gb gd e0 used f ∧ GD w (fun i => base ≤ i) gd n f k ∧ Own w (fun i => base ≤ i) 23 3 e0 nE xs
theorem BK.below {base gb gd n nE k : Nat} {w w1 : World} {e0 : Value} {used f : Int} {xs : List Value} (h : BK base w gb gd n e0 used f nE xs k) (hb : Below w.heap.size w w1) : BK base w1 gb gd n e0 used f nE xs k :=
  ⟨h.1, h.2.1.below hb, h.2.2.1.below hb, own_later h.2.2.2 hb⟩
/-- What is neither a disk's nor a book's nor entries stands. -/
def Kv (w W : World) : Prop := ∀ (k : Nat) (cs : Array Value) (t : TypeId), t ≠ 115 → t ≠ 122 → t ≠ 124 → t ≠ 23 → t ≠ 95 → w.heap[k]? = some (Obj.cells cs t (0, 0)) → W.heap[k]? = some (Obj.cells cs t (0, 0))
theorem Kv.of_below {w W : World} (h : Below w.heap.size w W) : Kv w W := fun k cs t _ _ _ _ _ hk => (h.block k (blk_lt hk)).trans hk
theorem Kv.trans {w W W' : World} (h : Kv w W) (h' : Kv W W') : Kv w W' := fun k cs t a b c d e hk => h' k cs t a b c d e (h k cs t a b c d e hk)
/-- A record is written. -/
theorem BK.record {base gb gd n nE k : Nat} {w : World} {e0 : Value} {used : Nat} {f a b : Int} {xs : List Value} (h : BK base w gb gd n e0 used f nE xs k) (hbase : base ≤ w.heap.size) (s : ByteArray) (hf : f ≤ 1000000) (hn : n ≤ 4096) (hk : k ≤ 100) (hs : s.size ≤ 2400) (hat : used + 1 + (s.size + 6) / 64 ≤ n) :
    Calls Try.prog 143 #[.pointer (some ⟨gd, 0, none⟩), .int .i64 (used : Int), .agg #[.int .i64 a, .int .i64 b, .string s]] w fun e w' => e = .returned (.tuple #[]) ∧ BK base w' gb gd n e0 used f nE xs 0 ∧ Below base w w' ∧ (∀ (k : Nat) (cs : Array Value), w.heap[k]? = some (Obj.cells cs 23 (0, 0)) → w'.heap[k]? = some (Obj.cells cs 23 (0, 0))) ∧ Kv w w' := by
  obtain ⟨h1, h2, h3, h4⟩ := h
  have h2' : w.heap[gb]? = some (.cells (bookCells e0 used gd f) 95 (0, 0)) := h2
  refine (record_calls w _ gd n k used f a b s h3.typed hf hn hk hs hat).mono ?_
  rintro e w' ⟨rfl, hd, hkp⟩
  refine ⟨rfl, ⟨h1, (hkp.block gb (blk_lt h2') (fun h => TY.not h2' (by decide) (by decide) (by decide) h.2)).trans h2', hd.mono fun i hi => hi.elim (fun h => h.1) (fun h => Nat.le_trans hbase h), ?_⟩, hkp.to_below (fun i hi => hi.1) hbase, fun k cs hcs => (hkp.block k (blk_lt hcs) (fun h => TY.not hcs (by decide) (by decide) (by decide) h.2)).trans hcs, fun k cs t a b c _ _ h => (hkp.block k (blk_lt h) (fun hS => TY.not h a b c hS.2)).trans h⟩
  refine (h4.exact.kp hkp fun i hi hlt hS => ?_).mono fun i hi => h4.2 i hi
  obtain ⟨c, hc⟩ := own_typed h4.1 i hi
  exact TY.not hc (by decide) (by decide) (by decide) hS.2
/-- An entry is laid behind the others. -/
theorem BK.putA {base gb gd n nE k : Nat} {w : World} {e0 : Value} {used f : Int} {xs : List Value} (h : BK base w gb gd n e0 used f nE xs k) (hbase : base ≤ w.heap.size) (s : ByteArray) (hn : nE ≤ 60) (hs : s.size ≤ 2400) (hu : 0 ≤ used) (hu2 : used ≤ 4096) :
    Calls Try.prog 144 #[.pointer (some ⟨gb, 0, none⟩), .agg #[.int .i64 0, .int .i64 (nE : Int), .string s]] w fun e w' => e = .returned (.tuple #[]) ∧ ∃ e1, BK base w' gb gd n e1 (used + ((1 + (s.size + 6) / 64 : Nat) : Int)) f (nE + 1) (xs ++ [.int .i64 0, .int .i64 (nE : Int), .string s]) k ∧ Below base w w' ∧ Kv w w' := by
  obtain ⟨h1, h2, h3, h4⟩ := h
  have h2' : w.heap[gb]? = some (.cells (bookCells e0 used gd f) 95 (0, 0)) := h2
  refine (putA_calls w _ gb gd nE e0 used f xs s h2 h4.exact hn hs hu hu2 (fun i hi => by obtain ⟨c, hc⟩ := own_typed h4.1 i hi; exact blk_lt hc)).mono ?_
  rintro e w' ⟨rfl, e1, hb, ho, hkp⟩
  have hle : ∀ i, (e0.ownBlock = some i ∨ i = gb) → base ≤ i := fun i hi => hi.elim (fun h => h4.2 i h) (fun h => h ▸ h1)
  refine ⟨rfl, e1, ⟨h1, hb, (h3.typed.kp hkp fun i hi hlt hS => ?_).mono fun i hi => hi.1, ho.mono fun i hi => hi.elim (fun h => h4.2 i h) (fun h => Nat.le_trans hbase h)⟩, hkp.to_below hle hbase, fun k cs t _ _ _ d e h => (hkp.block k (blk_lt h) (fun hS => hS.elim (fun h1 => by obtain ⟨c, hc⟩ := own_typed h4.1 k h1; rw [h] at hc; injection hc with hc; injection hc with _ hc _; exact d hc) (fun h1 => by subst h1; rw [h] at h2'; injection h2' with h2'; injection h2' with _ h2' _; exact e h2'))).trans h⟩
  rcases hS with hS | hS
  · obtain ⟨c, hc⟩ := own_typed h4.1 i hS
    exact TY.not hc (by decide) (by decide) (by decide) hi.2
  · subst hS
    exact TY.not h2' (by decide) (by decide) (by decide) hi.2
def w3Rel (gb gd : Nat) (used a no : Int) (s : ByteArray) : Nat → Value → World → Prop
  | 0, v, _ => v = .pointer (some ⟨gb, 0, none⟩)
  | 1, v, _ => v = .pointer (some ⟨gb, 0, none⟩)
  | 2, v, _ => v = .pointer (some ⟨gb, 10, none⟩)
  | 3, v, _ => v = .pointer (some ⟨gd, 0, none⟩)
  | 4, v, _ => v = .pointer (some ⟨gb, 0, none⟩)
  | 5, v, _ => v = .pointer (some ⟨gb, 0, none⟩)
  | 6, v, _ => v = .pointer (some ⟨gb, 0, none⟩)
  | 7, v, _ => v = .pointer (some ⟨gb, 9, none⟩)
  | 8, v, _ => v = .int .i64 used
  | 9, v, _ => v = .agg #[.int .i64 a, .int .i64 no, .string s]
  | _, _, _ => True
def w4Rel (gb : Nat) (a no : Int) (s : ByteArray) : Nat → Value → World → Prop
  | 0, v, _ => v = .pointer (some ⟨gb, 0, none⟩)
  | 1, v, _ => v = .pointer (some ⟨gb, 0, none⟩)
  | 2, v, _ => v = .pointer (some ⟨gb, 0, none⟩)
  | 3, v, _ => v = .agg #[.int .i64 a, .int .i64 no, .string s]
  | _, _, _ => True
set_option maxHeartbeats 8000000 in
set_option maxRecDepth 100000 in
theorem bwriteA_calls (base : Nat) (w : World) (gb gd n nE k used : Nat) (e0 : Value) (f : Int) (xs : List Value) (s : ByteArray) (h : BK base w gb gd n e0 (used : Int) f nE xs k) (hbase : base ≤ w.heap.size) (hf : f ≤ 1000000) (hn4 : n ≤ 4096) (hk : k ≤ 100) (hnE : nE ≤ 60) (hs : s.size ≤ 2400) (hat : used + 1 + (s.size + 6) / 64 ≤ n) :
    Calls Try.prog 113 #[.pointer (some ⟨gb, 0, none⟩), .agg #[.int .i64 0, .int .i64 (nE : Int), .string s]] w fun e w' => e = .returned (.tuple #[]) ∧ ∃ e1, BK base w' gb gd n e1 ((used : Int) + ((1 + (s.size + 6) / 64 : Nat) : Int)) f (nE + 1) (xs ++ [.int .i64 0, .int .i64 (nE : Int), .string s]) 0 ∧ Below base w w' ∧ Kv w w' := by
  have hB1 : Below w.heap.size w (w.alloc (.cells #[.int .i64 0, .int .i64 (nE : Int), .string s] 23)) := below_alloc (Below.refl _ _) _
  have HBK := Aside0.mk (h.below hB1)
  have HBe : Aside0 (Below base w (w.alloc (.cells #[.int .i64 0, .int .i64 (nE : Int), .string s] 23))) := Aside0.mk (hB1.mono hbase)
  have HX := Aside0.mk (blk_new w (.cells #[.int .i64 0, .int .i64 (nE : Int), .string s] 23))
  have HBs := Aside0.mk (Nat.le_trans hbase hB1.size)
  have bg : decide ((n : Int) - (used : Int) < ((1 + (s.size + 6) / 64 : Nat) : Int)) = false := by simp; omega
  have HKv := Aside0.mk (Kv.of_below hB1)
  have hur : (used : Int) ≤ (n : Int) := by omega
  clear h hB1 hbase
  generalize hgx : w.heap.size = gx at HX
  generalize hcc : ((1 + (s.size + 6) / 64 : Nat) : Int) = cc at bg
  go_enter Try.func113, Try.ntmps113
  go_wp2_with (first
    | (go_at_call 142; (with_reducible refine (sectors_calls23 _ _ _ _ hs).mono ?_); rintro e w1 ⟨rfl, hb⟩; rw [hcc]; have n1_ := Aside0.mk (HBK.out.below hb); have n2_ := Aside0.mk (HBe.out.trans (hb.mono HBs.out)); have n3_ := Aside0.mk ((hb.block _ (blk_lt HX.out)).trans HX.out); have n4_ := Aside0.mk (Nat.le_trans HBs.out hb.size); have n5_ := Aside0.mk (HKv.out.trans (Kv.of_below hb)); clear HBK HBe HX HBs HKv hb; have HBK := n1_; have HBe := n2_; have HX := n3_; have HBs := n4_; have HKv := n5_; clear n1_ n2_ n3_ n4_ n5_)
    | (go_at_call 60; have k1_ := HBK.out.2.1; have k2_ := HBK.out.2.2.1; (with_reducible refine (room_calls _ _ _ _ _ _ _ _ _ _ k1_ k2_ (Int.natCast_nonneg _) hur hn4).mono ?_); clear k1_ k2_; rintro e w1 ⟨rfl, hb⟩; have n1_ := Aside0.mk (HBK.out.below hb); have n2_ := Aside0.mk (HBe.out.trans (hb.mono HBs.out)); have n3_ := Aside0.mk ((hb.block _ (blk_lt HX.out)).trans HX.out); have n4_ := Aside0.mk (Nat.le_trans HBs.out hb.size); have n5_ := Aside0.mk (HKv.out.trans (Kv.of_below hb)); clear HBK HBe HX HBs HKv hb; have HBK := n1_; have HBe := n2_; have HX := n3_; have HBs := n4_; have HKv := n5_; clear n1_ n2_ n3_ n4_ n5_))
  refine rg5_ 10 [0, 1, 2, 3, 4, 5, 6, 7, 8, 9, 10] [(0, 10), (1, 11), (2, 12), (3, 13), (4, 14), (5, 15), (6, 16), (7, 17), (8, 18), (9, 19), (10, 20)] (bitsOf (rtab .any (opsOf Try.f113 3)).2) (w3Rel gb gd (used : Int) 0 (nE : Int) s) (fun _ W => BK base W gb gd n e0 (used : Int) f nE xs 0 ∧ Below base w W ∧ W.heap[gx]? = some (.cells #[.int .i64 0, .int .i64 (nE : Int), .string s] 23 (0, 0)) ∧ base ≤ W.heap.size ∧ Kv w W) (by kernel_rfl) rfl (by kernel_rfl) rfl (by kernel_rfl) (fun j v w w' h _ => by revert h; unfold w3Rel; split <;> exact id) ?stA ?h1A ?reA
  case stA =>
    refine steps5_cons (fun a1 w2 hB hsz hdf hn hd => ⟨_, rfl, fun K hK => ?_⟩) ?_
    · have e0 := eval_of ((hn 0 rfl).trans rfl)
      refine value_ (v := .pointer (some ⟨gb, 0, none⟩)) (w1 := w2) rfl rfl ?_ (hK _ _ (Below.refl _ _) rfl)
      clear hd hn hK
      simp only [execOp, Option.map_some, Option.map_none, List.map_toArray, List.map_cons, List.map_nil, List.getElem_toArray, List.getElem_cons_zero, List.getElem_cons_succ, e0]
      clear e0
      go_simp
    refine steps5_cons (fun a1 w2 hB hsz hdf hn hd => ⟨_, rfl, fun K hK => ?_⟩) ?_
    · obtain ⟨v10, h10, rfl⟩ := hd 0 10 rfl (by kernel_rfl)
      have e10 := eval_of h10
      clear h10
      refine value_ (v := .pointer (some ⟨gb, 0, none⟩)) (w1 := w2) rfl rfl ?_ (hK _ _ (Below.refl _ _) rfl)
      clear hd hn hK
      simp only [execOp, Option.map_some, Option.map_none, List.map_toArray, List.map_cons, List.map_nil, List.getElem_toArray, List.getElem_cons_zero, List.getElem_cons_succ, e10]
      clear e10
      go_simp
    refine steps5_cons (fun a1 w2 hB hsz hdf hn hd => ⟨_, rfl, fun K hK => ?_⟩) ?_
    · obtain ⟨v11, h11, rfl⟩ := hd 1 11 rfl (by kernel_rfl)
      have e11 := eval_of h11
      clear h11
      refine value_ (v := .pointer (some ⟨gb, 10, none⟩)) (w1 := w2) rfl rfl ?_ (hK _ _ (Below.refl _ _) rfl)
      clear hd hn hK
      simp only [execOp, Option.map_some, Option.map_none, List.map_toArray, List.map_cons, List.map_nil, List.getElem_toArray, List.getElem_cons_zero, List.getElem_cons_succ, e11]
      clear e11
      go_simp
    refine steps5_cons (fun a1 w2 hB hsz hdf hn hd => ⟨_, rfl, fun K hK => ?_⟩) ?_
    · obtain ⟨v12, h12, rfl⟩ := hd 2 12 rfl (by kernel_rfl)
      have e12 := eval_of h12
      clear h12
      refine value_ (v := .pointer (some ⟨gd, 0, none⟩)) (w1 := w2) rfl rfl ?_ (hK _ _ (Below.refl _ _) rfl)
      clear hd hn hK
      simp only [execOp, Option.map_some, Option.map_none, List.map_toArray, List.map_cons, List.map_nil, List.getElem_toArray, List.getElem_cons_zero, List.getElem_cons_succ, e12]
      clear e12
      have hq : w2.cell? ⟨gb, 10, none⟩ = some (.pointer (some ⟨gd, 0, none⟩)) := (blk_cell (HBK.out.2.1.below hB) 10).trans rfl
      clear hB
      go_simp
    refine steps5_cons (fun a1 w2 hB hsz hdf hn hd => ⟨_, rfl, fun K hK => ?_⟩) ?_
    · have e0 := eval_of ((hn 0 rfl).trans rfl)
      refine value_ (v := .pointer (some ⟨gb, 0, none⟩)) (w1 := w2) rfl rfl ?_ (hK _ _ (Below.refl _ _) rfl)
      clear hd hn hK
      simp only [execOp, Option.map_some, Option.map_none, List.map_toArray, List.map_cons, List.map_nil, List.getElem_toArray, List.getElem_cons_zero, List.getElem_cons_succ, e0]
      clear e0
      go_simp
    refine steps5_cons (fun a1 w2 hB hsz hdf hn hd => ⟨_, rfl, fun K hK => ?_⟩) ?_
    · obtain ⟨v14, h14, rfl⟩ := hd 4 14 rfl (by kernel_rfl)
      have e14 := eval_of h14
      clear h14
      refine value_ (v := .pointer (some ⟨gb, 0, none⟩)) (w1 := w2) rfl rfl ?_ (hK _ _ (Below.refl _ _) rfl)
      clear hd hn hK
      simp only [execOp, Option.map_some, Option.map_none, List.map_toArray, List.map_cons, List.map_nil, List.getElem_toArray, List.getElem_cons_zero, List.getElem_cons_succ, e14]
      clear e14
      go_simp
    refine steps5_cons (fun a1 w2 hB hsz hdf hn hd => ⟨_, rfl, fun K hK => ?_⟩) ?_
    · obtain ⟨v15, h15, rfl⟩ := hd 5 15 rfl (by kernel_rfl)
      have e15 := eval_of h15
      clear h15
      refine value_ (v := .pointer (some ⟨gb, 0, none⟩)) (w1 := w2) rfl rfl ?_ (hK _ _ (Below.refl _ _) rfl)
      clear hd hn hK
      simp only [execOp, Option.map_some, Option.map_none, List.map_toArray, List.map_cons, List.map_nil, List.getElem_toArray, List.getElem_cons_zero, List.getElem_cons_succ, e15]
      clear e15
      go_simp
    refine steps5_cons (fun a1 w2 hB hsz hdf hn hd => ⟨_, rfl, fun K hK => ?_⟩) ?_
    · obtain ⟨v16, h16, rfl⟩ := hd 6 16 rfl (by kernel_rfl)
      have e16 := eval_of h16
      clear h16
      refine value_ (v := .pointer (some ⟨gb, 9, none⟩)) (w1 := w2) rfl rfl ?_ (hK _ _ (Below.refl _ _) rfl)
      clear hd hn hK
      simp only [execOp, Option.map_some, Option.map_none, List.map_toArray, List.map_cons, List.map_nil, List.getElem_toArray, List.getElem_cons_zero, List.getElem_cons_succ, e16]
      clear e16
      go_simp
    refine steps5_cons (fun a1 w2 hB hsz hdf hn hd => ⟨_, rfl, fun K hK => ?_⟩) ?_
    · obtain ⟨v17, h17, rfl⟩ := hd 7 17 rfl (by kernel_rfl)
      have e17 := eval_of h17
      clear h17
      refine value_ (v := .int .i64 (used : Int)) (w1 := w2) rfl rfl ?_ (hK _ _ (Below.refl _ _) rfl)
      clear hd hn hK
      simp only [execOp, Option.map_some, Option.map_none, List.map_toArray, List.map_cons, List.map_nil, List.getElem_toArray, List.getElem_cons_zero, List.getElem_cons_succ, e17]
      clear e17
      have hq : w2.cell? ⟨gb, 9, none⟩ = some (.int .i64 (used : Int)) := (blk_cell (HBK.out.2.1.below hB) 9).trans rfl
      clear hB
      go_simp
    refine steps5_cons (fun a1 w2 hB hsz hdf hn hd => ⟨_, rfl, fun K hK => ?_⟩) ?_
    · have e3 := eval_of ((hn 3 rfl).trans rfl)
      refine value_ (v := .agg #[.int .i64 0, .int .i64 (nE : Int), .string s]) (w1 := w2) rfl rfl ?_ (hK _ _ (Below.refl _ _) rfl)
      clear hd hn hK
      simp only [execOp, Option.map_some, Option.map_none, List.map_toArray, List.map_cons, List.map_nil, List.getElem_toArray, List.getElem_cons_zero, List.getElem_cons_succ, e3]
      clear e3
      have hbx := (hB.block _ (blk_lt HX.out)).trans HX.out
      have hx0 : w2.cell? ⟨gx, 0, none⟩ = some (.int .i64 0) := (blk_cell hbx 0).trans rfl
      have hx1 : w2.cell? ⟨gx, 1, none⟩ = some (.int .i64 (nE : Int)) := (blk_cell hbx 1).trans rfl
      have hx2 : w2.cell? ⟨gx, 2, none⟩ = some (.string s) := (blk_cell hbx 2).trans rfl
      clear hB hbx
      go_simp
    refine steps5_m ?_
    exact steps5_nil
  case h1A =>
    intro a1 w2 hB hn hd
    obtain ⟨v13, h13, q13⟩ := hd 3 13 rfl (by kernel_rfl)
    have e13 : v13 = .pointer (some ⟨gd, 0, none⟩) := q13
    subst e13
    have e13 := eval_of h13
    obtain ⟨v18, h18, q18⟩ := hd 8 18 rfl (by kernel_rfl)
    have e18 : v18 = .int .i64 (used : Int) := q18
    subst e18
    have e18 := eval_of h18
    obtain ⟨v19, h19, q19⟩ := hd 9 19 rfl (by kernel_rfl)
    have e19 : v19 = .agg #[.int .i64 0, .int .i64 (nE : Int), .string s] := q19
    subst e19
    have e19 := eval_of h19
    refine ⟨_, rfl, fun K hK => ?_⟩
    refine goes_ Try.func143 (by kernel_rfl) rfl #[.pointer (some ⟨gd, 0, none⟩), .int .i64 (used : Int), .agg #[.int .i64 0, .int .i64 (nE : Int), .string s]] (by rfl) rfl rfl (by simp only [List.map_toArray, List.map_cons, List.map_nil, e13, e18, e19]) ?_
    refine ((HBK.out.below hB).record (Nat.le_trans HBs.out hB.size) s hf hn4 hk hs hat).mono ?_
    rintro e w5 ⟨rfl, hbk, hbe, hkeep, hkv⟩
    exact ⟨_, rfl, hK _ _ ⟨hbk, (HBe.out.trans (hB.mono HBs.out)).trans hbe, hkeep _ _ ((hB.block _ (blk_lt HX.out)).trans HX.out), Nat.le_trans (Nat.le_trans HBs.out hB.size) hbe.size, (HKv.out.trans (Kv.of_below hB)).trans hkv⟩⟩
  case reA =>
    intro vals2 w4 hp2
    simp only [fill, Act.put, List.setIfInBounds_toArray, List.set_cons_zero, List.set_cons_succ]
    clear HBK HBe HX HBs HKv
    obtain ⟨hbk4, hbe4, hx4, hbs4, hkv4⟩ := hp2
    have HKv := Aside0.mk hkv4
    have HBK := Aside0.mk hbk4
    have HBe := Aside0.mk hbe4
    have HX := Aside0.mk hx4
    have HBs := Aside0.mk hbs4
    clear hbk4 hbe4 hx4 hbs4 hkv4
    go_wp2
    refine rg5_ 4 [0, 1, 2, 3, 4] [(0, 21), (1, 22), (2, 23), (3, 24), (4, 25)] (bitsOf (rtab .any (opsOf Try.f113 4)).2) (w4Rel gb 0 (nE : Int) s) (fun _ W => ∃ e1, BK base W gb gd n e1 ((used : Int) + ((1 + (s.size + 6) / 64 : Nat) : Int)) f (nE + 1) (xs ++ [.int .i64 0, .int .i64 (nE : Int), .string s]) 0 ∧ Below base w W ∧ Kv w W) (by kernel_rfl) rfl (by kernel_rfl) rfl (by kernel_rfl) (fun j v w w' h _ => by revert h; unfold w4Rel; split <;> exact id) ?stB ?h1B ?reB
    case stB =>
      refine steps5_cons (fun a1 w2 hB hsz hdf hn hd => ⟨_, rfl, fun K hK => ?_⟩) ?_
      · have e0 := eval_of ((hn 0 rfl).trans rfl)
        refine value_ (v := .pointer (some ⟨gb, 0, none⟩)) (w1 := w2) rfl rfl ?_ (hK _ _ (Below.refl _ _) rfl)
        clear hd hn hK
        simp only [execOp, Option.map_some, Option.map_none, List.map_toArray, List.map_cons, List.map_nil, List.getElem_toArray, List.getElem_cons_zero, List.getElem_cons_succ, e0]
        clear e0
        go_simp
      refine steps5_cons (fun a1 w2 hB hsz hdf hn hd => ⟨_, rfl, fun K hK => ?_⟩) ?_
      · obtain ⟨v21, h21, rfl⟩ := hd 0 21 rfl (by kernel_rfl)
        have e21 := eval_of h21
        clear h21
        refine value_ (v := .pointer (some ⟨gb, 0, none⟩)) (w1 := w2) rfl rfl ?_ (hK _ _ (Below.refl _ _) rfl)
        clear hd hn hK
        simp only [execOp, Option.map_some, Option.map_none, List.map_toArray, List.map_cons, List.map_nil, List.getElem_toArray, List.getElem_cons_zero, List.getElem_cons_succ, e21]
        clear e21
        go_simp
      refine steps5_cons (fun a1 w2 hB hsz hdf hn hd => ⟨_, rfl, fun K hK => ?_⟩) ?_
      · obtain ⟨v22, h22, rfl⟩ := hd 1 22 rfl (by kernel_rfl)
        have e22 := eval_of h22
        clear h22
        refine value_ (v := .pointer (some ⟨gb, 0, none⟩)) (w1 := w2) rfl rfl ?_ (hK _ _ (Below.refl _ _) rfl)
        clear hd hn hK
        simp only [execOp, Option.map_some, Option.map_none, List.map_toArray, List.map_cons, List.map_nil, List.getElem_toArray, List.getElem_cons_zero, List.getElem_cons_succ, e22]
        clear e22
        go_simp
      refine steps5_cons (fun a1 w2 hB hsz hdf hn hd => ⟨_, rfl, fun K hK => ?_⟩) ?_
      · have e3 := eval_of ((hn 3 rfl).trans rfl)
        refine value_ (v := .agg #[.int .i64 0, .int .i64 (nE : Int), .string s]) (w1 := w2) rfl rfl ?_ (hK _ _ (Below.refl _ _) rfl)
        clear hd hn hK
        simp only [execOp, Option.map_some, Option.map_none, List.map_toArray, List.map_cons, List.map_nil, List.getElem_toArray, List.getElem_cons_zero, List.getElem_cons_succ, e3]
        clear e3
        have hbx := (hB.block _ (blk_lt HX.out)).trans HX.out
        have hx0 : w2.cell? ⟨gx, 0, none⟩ = some (.int .i64 0) := (blk_cell hbx 0).trans rfl
        have hx1 : w2.cell? ⟨gx, 1, none⟩ = some (.int .i64 (nE : Int)) := (blk_cell hbx 1).trans rfl
        have hx2 : w2.cell? ⟨gx, 2, none⟩ = some (.string s) := (blk_cell hbx 2).trans rfl
        clear hB hbx
        go_simp
      refine steps5_m ?_
      exact steps5_nil
    case h1B =>
      intro a1 w2 hB hn hd
      obtain ⟨v23, h23, q23⟩ := hd 2 23 rfl (by kernel_rfl)
      have e23 : v23 = .pointer (some ⟨gb, 0, none⟩) := q23
      subst e23
      have e23 := eval_of h23
      obtain ⟨v24, h24, q24⟩ := hd 3 24 rfl (by kernel_rfl)
      have e24 : v24 = .agg #[.int .i64 0, .int .i64 (nE : Int), .string s] := q24
      subst e24
      have e24 := eval_of h24
      refine ⟨_, rfl, fun K hK => ?_⟩
      refine goes_ Try.func144 (by kernel_rfl) rfl #[.pointer (some ⟨gb, 0, none⟩), .agg #[.int .i64 0, .int .i64 (nE : Int), .string s]] (by rfl) rfl rfl (by simp only [List.map_toArray, List.map_cons, List.map_nil, e23, e24]) ?_
      refine ((HBK.out.below hB).putA (Nat.le_trans HBs.out hB.size) s hnE hs (by omega) (by omega)).mono ?_
      rintro e w5 ⟨rfl, e1, hbk, hbe, hkv⟩
      exact ⟨_, rfl, hK _ _ ⟨e1, hbk, (HBe.out.trans (hB.mono HBs.out)).trans hbe, (HKv.out.trans (Kv.of_below hB)).trans hkv⟩⟩
    case reB =>
      intro vals3 w5 hp3
      simp only [fill, Act.put, List.setIfInBounds_toArray, List.set_cons_zero, List.set_cons_succ]
      have HP3 := Aside0.mk hp3
      clear hp3
      go_wp2
      go_end0
      exact ⟨rfl, hcc ▸ HP3.out⟩
end Go.Proofs.Ytkedodmlbepfnaa.Lg

-- from the working text Pb
set_option linter.unusedSimpArgs false
set_option linter.unusedVariables false
namespace Go.Proofs.Ytkedodmlbepfnaa.Lg
open Go.RowKit Go.Proofs.YtkedodmlbepfnaaW.PrintWords Go.Proofs.YtkedodmlbepfnaaW.PrintLast Go.Proofs.YtkedodmlbepfnaaW.PrintMore Go.Proofs.Ytkedodmlbepfnaa.Rg
/-- One cell of a row of one's own is written. -/
theorem Own.cell {w : World} {S : Nat → Prop} {e : TypeId} {size n g c i : Nat} {xs : List Value} (h : Own w S e size (.slice (some ⟨g, 0, none⟩) n c) n xs) (hi : i < n * size) (u : Value) : Own (w.setCell ⟨g, i, none⟩ u) S e size (.slice (some ⟨g, 0, none⟩) n c) n (xs.set i u) := by
  rcases h.1.2 with ⟨h2, _⟩ | ⟨g', cap, cur, hv, hb, hh, hnc, hcm, hcs, ht⟩
  · cases h2
  · injection hv with ha _ hc
    injection ha with ha
    injection ha with ha
    subst ha
    subst hc
    have hle : n * size ≤ cur.toList.length := by
      have := Nat.mul_le_mul_right size hnc
      rw [Array.length_toList]; omega
    have hk := h.patch (o := i) (b := [u]) hh (by simp; omega)
    rw [setCell_eq_setRow w g i cur e (0, 0) u hh]
    have e1 : (Lg.patch cur.toList i [u]).toArray = cur.setIfInBounds i u := by
      apply Array.toList_inj.1
      rw [Array.toList_setIfInBounds]
      simp only [Lg.patch, List.length_singleton, List.append_assoc, List.singleton_append]
      rw [List.set_eq_take_append_cons_drop, if_pos (by omega)]
    have e2 : Lg.patch xs i [u] = xs.set i u := by
      simp only [Lg.patch, List.length_singleton, List.append_assoc, List.singleton_append]
      rw [List.set_eq_take_append_cons_drop, if_pos (by rw [← ht, List.length_take]; omega)]
    rw [e1, e2] at hk
    exact hk
set_option maxHeartbeats 8000000 in
set_option maxRecDepth 100000 in
theorem putB_calls (w : World) (Se : Nat → Prop) (gb gd nE : Nat) (e0 : Value) (used falls : Int) (y0 y1 y2 : Value) (ys : List Value) (s : ByteArray) (hb : BookAt w gb gd e0 used falls) (ho : Own w Se 23 3 e0 nE (y0 :: y1 :: y2 :: ys)) (hn1 : 1 ≤ nE) (hn : nE ≤ 60) (hs : s.size ≤ 2400) (hu : 0 ≤ used) (hu2 : used ≤ 4096) (hSe : ∀ k, Se k → k < w.heap.size) :
    Calls Try.prog 144 #[.pointer (some ⟨gb, 0, none⟩), .agg #[.int .i64 0, .int .i64 0, .string s]] w fun e w' => e = .returned (.tuple #[]) ∧ ∃ e1, BookAt w' gb gd e1 (used + ((1 + (s.size + 6) / 64 : Nat) : Int)) falls ∧ Own w' (Nw Se w) 23 3 e1 nE (.int .i64 0 :: .int .i64 0 :: .string s :: ys) ∧ Kp (fun k => Se k ∨ k = gb) w w' := by
  obtain ⟨gE, c, cur, rfl, hSE, hcur, hnc, _, hcs, htk⟩ := ho.form hn1
  have hlt := blk_lt hb
  have hX := blk_new w (.cells #[.int .i64 0, .int .i64 0, .string s] 23)
  have hB1 : Below w.heap.size w (w.alloc (.cells #[.int .i64 0, .int .i64 0, .string s] 23)) := below_alloc (Below.refl _ _) _
  have c1 : (w.alloc (.cells #[.int .i64 0, .int .i64 0, .string s] 23)).cell? ⟨gb, 1, none⟩ = some (.slice (some ⟨gE, 0, none⟩) nE c) := (blk_cell (hb.below hB1) 1).trans rfl
  have hcell : ∀ (i : Nat) (u : Value), (y0 :: y1 :: y2 :: ys)[i]? = some u → cur[i]? = some u := by
    intro i u hi
    rw [← htk, List.getElem?_take] at hi
    split at hi
    · rw [← Array.getElem?_toList]; exact hi
    · cases hi
  have hcur1 := (hB1.block gE (blk_lt hcur)).trans hcur
  have d0 : (w.alloc (.cells #[.int .i64 0, .int .i64 0, .string s] 23)).cell? ⟨gE, 0, none⟩ = some y0 := (blk_cell hcur1 0).trans (hcell 0 y0 rfl)
  have d1 : (w.alloc (.cells #[.int .i64 0, .int .i64 0, .string s] 23)).cell? ⟨gE, 1, none⟩ = some y1 := (blk_cell hcur1 1).trans (hcell 1 y1 rfl)
  have d2 : (w.alloc (.cells #[.int .i64 0, .int .i64 0, .string s] 23)).cell? ⟨gE, 2, none⟩ = some y2 := (blk_cell hcur1 2).trans (hcell 2 y2 rfl)
  have f0 := blk_frozen hcur1 0
  have f1 := blk_frozen hcur1 1
  have f2 := blk_frozen hcur1 2
  have bE : ((0 : Int) == (nE : Int)) = false := by rw [beq_eq_false_iff_ne]; omega
  have bL : decide ((0 : Int) < (nE : Int)) = true := by simp; omega
  have hgx : gE ≠ w.heap.size := fun h => by have := blk_lt hcur; omega
  have HBk := Aside0.mk (hb.below hB1)
  have HO := Aside0.mk (own_later ho hB1)
  have HX := Aside0.mk hX
  have HKp := Aside0.mk (Kp.of_below Se hB1)
  have HS := Aside0.mk hSE
  have HN : Aside0 (1 ≤ nE) := Aside0.mk hn1
  have HCT := Aside0.mk hcur1
  clear hb ho hX hB1 hSe hcur hcell htk hcs hcur1
  go_enter Try.func144, Try.ntmps144
  go_wp2
  go_region
  all_goals go_wp2
  all_goals (try go_region)
  all_goals go_wp2
  all_goals (try go_region)
  have HP : Aside0 (PutEnd w Se gb gd w.heap.size used falls nE (.int .i64 0 :: .int .i64 0 :: .string s :: ys) 0 0 s ((((w.alloc (.cells #[.int .i64 0, .int .i64 0, .string s] 23)).setCell ⟨gE, 0, none⟩ (.int .i64 0)).setCell ⟨gE, 1, none⟩ (.int .i64 0)).setCell ⟨gE, 2, none⟩ (.string s)).drew.drew.drew) := by
    have hX0 := HX.out
    have hB0 := HBk.out
    have hne : gE ≠ gb := fun h => by
      have h1 := HCT.out
      have h2 : (w.alloc (.cells #[.int .i64 0, .int .i64 0, .string s] 23)).heap[gb]? = some (.cells (bookCells _ used gd falls) 95 (0, 0)) := hB0
      rw [h, h2] at h1
      injection h1 with h1
      injection h1 with _ h1 _
      cases h1
    have hbl : ∀ k, k ≠ gE → ((((w.alloc (.cells #[.int .i64 0, .int .i64 0, .string s] 23)).setCell ⟨gE, 0, none⟩ (.int .i64 0)).setCell ⟨gE, 1, none⟩ (.int .i64 0)).setCell ⟨gE, 2, none⟩ (.string s)).heap[k]? = (w.alloc (.cells #[.int .i64 0, .int .i64 0, .string s] 23)).heap[k]? := fun k hk =>
      (Below.heap_setCell _ ⟨gE, 2, none⟩ _ k (fun e => hk e)).trans ((Below.heap_setCell _ ⟨gE, 1, none⟩ _ k (fun e => hk e)).trans (Below.heap_setCell _ ⟨gE, 0, none⟩ _ k (fun e => hk e)))
    have hN := HN.out
    have hdr : Below ((((w.alloc (.cells #[.int .i64 0, .int .i64 0, .string s] 23)).setCell ⟨gE, 0, none⟩ (.int .i64 0)).setCell ⟨gE, 1, none⟩ (.int .i64 0)).setCell ⟨gE, 2, none⟩ (.string s)).heap.size _ ((((w.alloc (.cells #[.int .i64 0, .int .i64 0, .string s] 23)).setCell ⟨gE, 0, none⟩ (.int .i64 0)).setCell ⟨gE, 1, none⟩ (.int .i64 0)).setCell ⟨gE, 2, none⟩ (.string s)).drew.drew.drew := below_drew (below_drew (below_drew (Below.refl _ _)))
    refine Aside0.mk ⟨_, BookAt.below ((hbl gb (Ne.symm hne)).trans hB0) hdr, own_later ((((HO.out.cell (i := 0) (by omega) (.int .i64 0)).cell (i := 1) (by omega) (.int .i64 0)).cell (i := 2) (by omega) (.string s)).mono fun k hk => .inl hk) hdr, ?_, (hdr.block _ (blk_lt ((hbl _ (Ne.symm hgx)).trans hX0))).trans ((hbl _ (Ne.symm hgx)).trans hX0)⟩
    exact ((((HKp.out.setCell (p := ⟨gE, 0, none⟩) (.inl HS.out) _).setCell (p := ⟨gE, 1, none⟩) (.inl HS.out) _).setCell (p := ⟨gE, 2, none⟩) (.inl HS.out) _).mono fun k hk => .inl hk).below hdr
  revert HP
  generalize ((((w.alloc (.cells #[.int .i64 0, .int .i64 0, .string s] 23)).setCell ⟨gE, 0, none⟩ (.int .i64 0)).setCell ⟨gE, 1, none⟩ (.int .i64 0)).setCell ⟨gE, 2, none⟩ (.string s)).drew.drew.drew = W1
  intro HP
  clear HX HBk HKp HO HCT HS c1 d0 d1 d2 f0 f1 f2 bE bL
  go_wp2
  obtain ⟨e1, hB1, hO1, hK1, hX1⟩ := HP.out
  refine rg5_ 9 [0, 1, 2, 3, 4, 5, 6, 7, 8, 9] [(0, 33), (1, 34), (2, 35), (3, 36), (4, 37), (5, 38), (6, 39), (7, 40), (8, 41)] (bitsOf (rtab .any (opsOf Try.f144 5)).2) (put5Rel gb (1 + (s.size + 6) / 64) used 0 0 s) (fun _ W => ∃ e1, BookAt W gb gd e1 (used + ((1 + (s.size + 6) / 64 : Nat) : Int)) falls ∧ Own W (Nw Se w) 23 3 e1 nE (.int .i64 0 :: .int .i64 0 :: .string s :: ys) ∧ Kp (fun k => Se k ∨ k = gb) w W) (by kernel_rfl) rfl (by kernel_rfl) rfl (by kernel_rfl) (fun j v w w' h _ => by revert h; unfold put5Rel; split <;> exact id) ?steps5 ?h15 ?rend5
  case steps5 =>
    refine steps5_cons (fun a1 w2 hB hsz hdf hn hd => ⟨_, rfl, fun K hK => ?_⟩) ?_
    · have e0 := eval_of ((hn 0 rfl).trans rfl)
      refine value_ (v := .pointer (some ⟨gb, 0, none⟩)) (w1 := w2) rfl rfl ?_ (hK _ _ (Below.refl _ _) rfl)
      clear hd hn hK
      simp only [execOp, Option.map_some, Option.map_none, List.map_toArray, List.map_cons, List.map_nil, List.getElem_toArray, List.getElem_cons_zero, List.getElem_cons_succ, e0]
      clear e0
      go_simp
    refine steps5_cons (fun a1 w2 hB hsz hdf hn hd => ⟨_, rfl, fun K hK => ?_⟩) ?_
    · obtain ⟨v33, h33, rfl⟩ := hd 0 33 rfl (by kernel_rfl)
      have e33 := eval_of h33
      clear h33
      refine value_ (v := .pointer (some ⟨gb, 0, none⟩)) (w1 := w2) rfl rfl ?_ (hK _ _ (Below.refl _ _) rfl)
      clear hd hn hK
      simp only [execOp, Option.map_some, Option.map_none, List.map_toArray, List.map_cons, List.map_nil, List.getElem_toArray, List.getElem_cons_zero, List.getElem_cons_succ, e33]
      clear e33
      go_simp
    refine steps5_cons (fun a1 w2 hB hsz hdf hn hd => ⟨_, rfl, fun K hK => ?_⟩) ?_
    · obtain ⟨v34, h34, rfl⟩ := hd 1 34 rfl (by kernel_rfl)
      have e34 := eval_of h34
      clear h34
      refine value_ (v := .pointer (some ⟨gb, 9, none⟩)) (w1 := w2) rfl rfl ?_ (hK _ _ (Below.refl _ _) rfl)
      clear hd hn hK
      simp only [execOp, Option.map_some, Option.map_none, List.map_toArray, List.map_cons, List.map_nil, List.getElem_toArray, List.getElem_cons_zero, List.getElem_cons_succ, e34]
      clear e34
      go_simp
    refine steps5_cons (fun a1 w2 hB hsz hdf hn hd => ⟨_, rfl, fun K hK => ?_⟩) ?_
    · obtain ⟨v35, h35, rfl⟩ := hd 2 35 rfl (by kernel_rfl)
      have e35 := eval_of h35
      clear h35
      refine value_ (v := .int .i64 used) (w1 := w2) rfl rfl ?_ (hK _ _ (Below.refl _ _) rfl)
      clear hd hn hK
      simp only [execOp, Option.map_some, Option.map_none, List.map_toArray, List.map_cons, List.map_nil, List.getElem_toArray, List.getElem_cons_zero, List.getElem_cons_succ, e35]
      clear e35
      have hq : w2.cell? ⟨gb, 9, none⟩ = some (.int .i64 used) := (blk_cell (hB1.below hB) 9).trans rfl
      clear hB
      go_simp
    refine steps5_cons (fun a1 w2 hB hsz hdf hn hd => ⟨_, rfl, fun K hK => ?_⟩) ?_
    · have e3 := eval_of ((hn 3 rfl).trans rfl)
      refine value_ (v := .agg #[.int .i64 0, .int .i64 0, .string s]) (w1 := w2) rfl rfl ?_ (hK _ _ (Below.refl _ _) rfl)
      clear hd hn hK
      simp only [execOp, Option.map_some, Option.map_none, List.map_toArray, List.map_cons, List.map_nil, List.getElem_toArray, List.getElem_cons_zero, List.getElem_cons_succ, e3]
      clear e3
      have hbx := (hB.block _ (blk_lt hX1)).trans hX1
      have hx0 : w2.cell? ⟨w.heap.size, 0, none⟩ = some (.int .i64 0) := (blk_cell hbx 0).trans rfl
      have hx1 : w2.cell? ⟨w.heap.size, 1, none⟩ = some (.int .i64 0) := (blk_cell hbx 1).trans rfl
      have hx2 : w2.cell? ⟨w.heap.size, 2, none⟩ = some (.string s) := (blk_cell hbx 2).trans rfl
      clear hB hbx
      go_simp
    refine steps5_cons (fun a1 w2 hB hsz hdf hn hd => ⟨_, rfl, fun K hK => ?_⟩) ?_
    · obtain ⟨v37, h37, rfl⟩ := hd 4 37 rfl (by kernel_rfl)
      have e37 := eval_of h37
      clear h37
      refine goes_ Try.func142 (by kernel_rfl) rfl #[.agg #[.int .i64 0, .int .i64 0, .string s]] (by rfl) rfl rfl (by simp only [List.map_toArray, List.map_cons, List.map_nil, e37]) ?_
      refine (sectors_calls23 0 0 s _ hs).mono ?_
      rintro e w3 ⟨rfl, hbw⟩
      exact ⟨_, rfl, hK _ _ hbw rfl⟩
    refine steps5_cons (fun a1 w2 hB hsz hdf hn hd => ⟨_, rfl, fun K hK => ?_⟩) ?_
    · obtain ⟨v36, h36, rfl⟩ := hd 3 36 rfl (by kernel_rfl)
      have e36 := eval_of h36
      clear h36
      obtain ⟨v38, h38, rfl⟩ := hd 5 38 rfl (by kernel_rfl)
      have e38 := eval_of h38
      clear h38
      refine value_ (v := .int .i64 (used + ((1 + (s.size + 6) / 64 : Nat) : Int))) (w1 := w2) rfl rfl ?_ (hK _ _ (Below.refl _ _) rfl)
      clear hd hn hK
      simp only [execOp, Option.map_some, Option.map_none, List.map_toArray, List.map_cons, List.map_nil, List.getElem_toArray, List.getElem_cons_zero, List.getElem_cons_succ, e36, e38]
      clear e36 e38
      have hq : IntKind.i64.wrap (used + ((1 + (s.size + 6) / 64 : Nat) : Int)) = used + ((1 + (s.size + 6) / 64 : Nat) : Int) := by rw [i64_w]; unfold wrap64; omega
      generalize ((1 + (s.size + 6) / 64 : Nat) : Int) = cc at hq ⊢
      clear hB
      go_simp
    refine steps5_cons (fun a1 w2 hB hsz hdf hn hd => ⟨_, rfl, fun K hK => ?_⟩) ?_
    · obtain ⟨v33, h33, rfl⟩ := hd 0 33 rfl (by kernel_rfl)
      have e33 := eval_of h33
      clear h33
      refine value_ (v := .pointer (some ⟨gb, 0, none⟩)) (w1 := w2) rfl rfl ?_ (hK _ _ (Below.refl _ _) rfl)
      clear hd hn hK
      simp only [execOp, Option.map_some, Option.map_none, List.map_toArray, List.map_cons, List.map_nil, List.getElem_toArray, List.getElem_cons_zero, List.getElem_cons_succ, e33]
      clear e33
      go_simp
    refine steps5_cons (fun a1 w2 hB hsz hdf hn hd => ⟨_, rfl, fun K hK => ?_⟩) ?_
    · obtain ⟨v40, h40, rfl⟩ := hd 7 40 rfl (by kernel_rfl)
      have e40 := eval_of h40
      clear h40
      refine value_ (v := .pointer (some ⟨gb, 9, none⟩)) (w1 := w2) rfl rfl ?_ (hK _ _ (Below.refl _ _) rfl)
      clear hd hn hK
      simp only [execOp, Option.map_some, Option.map_none, List.map_toArray, List.map_cons, List.map_nil, List.getElem_toArray, List.getElem_cons_zero, List.getElem_cons_succ, e40]
      clear e40
      go_simp
    refine steps5_m ?_
    exact steps5_nil
  case h15 =>
    intro a1 w2 hB hn hd
    obtain ⟨v39, h39, q39⟩ := hd 6 39 rfl (by kernel_rfl)
    have e39 : v39 = .int .i64 (used + ((1 + (s.size + 6) / 64 : Nat) : Int)) := q39
    subst e39
    obtain ⟨v41, h41, q41⟩ := hd 8 41 rfl (by kernel_rfl)
    have e41 : v41 = .pointer (some ⟨gb, 9, none⟩) := q41
    subst e41
    refine ⟨_, rfl, fun K hK => ?_⟩
    exact store3_ rfl rfl rfl (eval_of h41) (eval_of h39) ((blk_cell (hB1.below hB) 9).trans rfl) (blk_frozen (hB1.below hB) 9) (hK undef _ (HP.out.store hB _))
  case rend5 =>
    intro vals2 w2 hp2
    simp only [fill, Act.put, List.setIfInBounds_toArray, List.set_cons_zero, List.set_cons_succ]
    have HP2 := Aside0.mk hp2
    clear hp2
    go_wp2
    go_end0
    exact ⟨rfl, HP2.out⟩
end Go.Proofs.Ytkedodmlbepfnaa.Lg

-- from the working text Bv
set_option linter.unusedSimpArgs false
set_option linter.unusedVariables false
namespace Go.Proofs.Ytkedodmlbepfnaa.Lg
open Go.RowKit Go.Proofs.YtkedodmlbepfnaaW.PrintWords Go.Proofs.YtkedodmlbepfnaaW.PrintLast Go.Proofs.YtkedodmlbepfnaaW.PrintMore Go.Proofs.Ytkedodmlbepfnaa.Rg
/-- What is neither a disk's nor a book's nor entries. -/
def Out (o : Obj) : Prop := ∀ cs t z, o = Obj.cells cs t z → t ≠ 115 ∧ t ≠ 122 ∧ t ≠ 124 ∧ t ≠ 23 ∧ t ≠ 95
theorem Out.map (es : Array MapEntry) (c : Nat) : Out (.map es c) := fun _ _ _ h => by cases h
theorem Out.cells {cs : Array Value} {t : TypeId} {z : Nat × Nat} (h1 : t ≠ 115) (h2 : t ≠ 122) (h3 : t ≠ 124) (h4 : t ≠ 23) (h5 : t ≠ 95) : Out (.cells cs t z) := fun _ _ _ h => by
  injection h with _ h _
  subst h
  exact ⟨h1, h2, h3, h4, h5⟩
/-- It stands. -/
def Ku (w W : World) : Prop := ∀ (k : Nat) (o : Obj), Out o → w.heap[k]? = some o → W.heap[k]? = some o
theorem Obj.lt {w : World} {k : Nat} {o : Obj} (h : w.heap[k]? = some o) : k < w.heap.size := by
  rcases Array.getElem?_eq_some_iff.1 h with ⟨h, _⟩
  exact h
theorem Ku.of_below {w W : World} (h : Below w.heap.size w W) : Ku w W := fun k o _ hk => (h.block k (Obj.lt hk)).trans hk
theorem Ku.trans {w W W' : World} (h : Ku w W) (h' : Ku W W') : Ku w W' := fun k o a hk => h' k o a (h k o a hk)
theorem TY.out {w : World} {k : Nat} {o : Obj} (h : w.heap[k]? = some o) (ho : Out o) : ¬ TY w k := by
  rintro ⟨cs', t', z', h', ht⟩
  rw [h] at h'
  injection h' with h'
  obtain ⟨h1, h2, h3, _, _⟩ := ho _ _ _ h'
  rcases ht with ht | ht | ht
  · exact h1 ht
  · exact h2 ht
  · exact h3 ht
/-- A record is written. -/
theorem BK.recordU {base gb gd n nE k : Nat} {w : World} {e0 : Value} {used : Nat} {f a b : Int} {xs : List Value} (h : BK base w gb gd n e0 used f nE xs k) (hbase : base ≤ w.heap.size) (s : ByteArray) (hf : f ≤ 1000000) (hn : n ≤ 4096) (hk : k ≤ 100) (hs : s.size ≤ 2400) (hat : used + 1 + (s.size + 6) / 64 ≤ n) :
    Calls Try.prog 143 #[.pointer (some ⟨gd, 0, none⟩), .int .i64 (used : Int), .agg #[.int .i64 a, .int .i64 b, .string s]] w fun e w' => e = .returned (.tuple #[]) ∧ BK base w' gb gd n e0 used f nE xs 0 ∧ Below base w w' ∧ (∀ (k : Nat) (cs : Array Value), w.heap[k]? = some (Obj.cells cs 23 (0, 0)) → w'.heap[k]? = some (Obj.cells cs 23 (0, 0))) ∧ Ku w w' := by
  obtain ⟨h1, h2, h3, h4⟩ := h
  have h2' : w.heap[gb]? = some (.cells (bookCells e0 used gd f) 95 (0, 0)) := h2
  refine (record_calls w _ gd n k used f a b s h3.typed hf hn hk hs hat).mono ?_
  rintro e w' ⟨rfl, hd, hkp⟩
  refine ⟨rfl, ⟨h1, (hkp.block gb (blk_lt h2') (fun h => TY.not h2' (by decide) (by decide) (by decide) h.2)).trans h2', hd.mono fun i hi => hi.elim (fun h => h.1) (fun h => Nat.le_trans hbase h), ?_⟩, hkp.to_below (fun i hi => hi.1) hbase, fun k cs hcs => (hkp.block k (blk_lt hcs) (fun h => TY.not hcs (by decide) (by decide) (by decide) h.2)).trans hcs, fun k o ho h => (hkp.block k (Obj.lt h) (fun hS => TY.out h ho hS.2)).trans h⟩
  refine (h4.exact.kp hkp fun i hi hlt hS => ?_).mono fun i hi => h4.2 i hi
  obtain ⟨c, hc⟩ := own_typed h4.1 i hi
  exact TY.not hc (by decide) (by decide) (by decide) hS.2
/-- The first entry is replaced. -/
theorem BK.putB {base gb gd n nE k : Nat} {w : World} {e0 : Value} {used f : Int} {y0 y1 y2 : Value} {ys : List Value} (h : BK base w gb gd n e0 used f nE (y0 :: y1 :: y2 :: ys) k) (hbase : base ≤ w.heap.size) (s : ByteArray) (hn1 : 1 ≤ nE) (hn : nE ≤ 60) (hs : s.size ≤ 2400) (hu : 0 ≤ used) (hu2 : used ≤ 4096) :
    Calls Try.prog 144 #[.pointer (some ⟨gb, 0, none⟩), .agg #[.int .i64 0, .int .i64 0, .string s]] w fun e w' => e = .returned (.tuple #[]) ∧ ∃ e1, BK base w' gb gd n e1 (used + ((1 + (s.size + 6) / 64 : Nat) : Int)) f nE (.int .i64 0 :: .int .i64 0 :: .string s :: ys) k ∧ Below base w w' ∧ Ku w w' := by
  obtain ⟨h1, h2, h3, h4⟩ := h
  have h2' : w.heap[gb]? = some (.cells (bookCells e0 used gd f) 95 (0, 0)) := h2
  refine (putB_calls w _ gb gd nE e0 used f y0 y1 y2 ys s h2 h4.exact hn1 hn hs hu hu2 (fun i hi => by obtain ⟨c, hc⟩ := own_typed h4.1 i hi; exact blk_lt hc)).mono ?_
  rintro e w' ⟨rfl, e1, hb, ho, hkp⟩
  have hle : ∀ i, (e0.ownBlock = some i ∨ i = gb) → base ≤ i := fun i hi => hi.elim (fun h => h4.2 i h) (fun h => h ▸ h1)
  refine ⟨rfl, e1, ⟨h1, hb, (h3.typed.kp hkp fun i hi hlt hS => ?_).mono fun i hi => hi.1, ho.mono fun i hi => hi.elim (fun h => h4.2 i h) (fun h => Nat.le_trans hbase h)⟩, hkp.to_below hle hbase, fun k o hO h => (hkp.block k (Obj.lt h) (fun hS => hS.elim (fun h1 => by obtain ⟨c, hc⟩ := own_typed h4.1 k h1; rw [h] at hc; injection hc with hc; exact (hO _ _ _ hc).2.2.2.1 rfl) (fun h1 => by subst h1; rw [h] at h2'; injection h2' with h2'; exact (hO _ _ _ h2').2.2.2.2 rfl))).trans h⟩
  rcases hS with hS | hS
  · obtain ⟨c, hc⟩ := own_typed h4.1 i hS
    exact TY.not hc (by decide) (by decide) (by decide) hi.2
  · subst hS
    exact TY.not h2' (by decide) (by decide) (by decide) hi.2
set_option maxHeartbeats 8000000 in
set_option maxRecDepth 100000 in
theorem bwriteB_calls (base : Nat) (w : World) (gb gd n nE k used : Nat) (e0 : Value) (f : Int) (y0 y1 y2 : Value) (ys : List Value) (s : ByteArray) (h : BK base w gb gd n e0 (used : Int) f nE (y0 :: y1 :: y2 :: ys) k) (hbase : base ≤ w.heap.size) (hf : f ≤ 1000000) (hn4 : n ≤ 4096) (hk : k ≤ 100) (hn1 : 1 ≤ nE) (hnE : nE ≤ 60) (hs : s.size ≤ 2400) (hat : used + 1 + (s.size + 6) / 64 ≤ n) :
    Calls Try.prog 113 #[.pointer (some ⟨gb, 0, none⟩), .agg #[.int .i64 0, .int .i64 0, .string s]] w fun e w' => e = .returned (.tuple #[]) ∧ ∃ e1, BK base w' gb gd n e1 ((used : Int) + ((1 + (s.size + 6) / 64 : Nat) : Int)) f nE (.int .i64 0 :: .int .i64 0 :: .string s :: ys) 0 ∧ Below base w w' ∧ Ku w w' := by
  have hB1 : Below w.heap.size w (w.alloc (.cells #[.int .i64 0, .int .i64 0, .string s] 23)) := below_alloc (Below.refl _ _) _
  have HBK := Aside0.mk (h.below hB1)
  have HBe : Aside0 (Below base w (w.alloc (.cells #[.int .i64 0, .int .i64 0, .string s] 23))) := Aside0.mk (hB1.mono hbase)
  have HX := Aside0.mk (blk_new w (.cells #[.int .i64 0, .int .i64 0, .string s] 23))
  have HBs := Aside0.mk (Nat.le_trans hbase hB1.size)
  have bg : decide ((n : Int) - (used : Int) < ((1 + (s.size + 6) / 64 : Nat) : Int)) = false := by simp; omega
  have HKu := Aside0.mk (Ku.of_below hB1)
  have hur : (used : Int) ≤ (n : Int) := by omega
  clear h hB1 hbase
  generalize hgx : w.heap.size = gx at HX
  generalize hcc : ((1 + (s.size + 6) / 64 : Nat) : Int) = cc at bg
  go_enter Try.func113, Try.ntmps113
  go_wp2_with (first
    | (go_at_call 142; (with_reducible refine (sectors_calls23 _ _ _ _ hs).mono ?_); rintro e w1 ⟨rfl, hb⟩; rw [hcc]; have n1_ := Aside0.mk (HBK.out.below hb); have n2_ := Aside0.mk (HBe.out.trans (hb.mono HBs.out)); have n3_ := Aside0.mk ((hb.block _ (blk_lt HX.out)).trans HX.out); have n4_ := Aside0.mk (Nat.le_trans HBs.out hb.size); have n5_ := Aside0.mk (HKu.out.trans (Ku.of_below hb)); clear HBK HBe HX HBs HKu hb; have HBK := n1_; have HBe := n2_; have HX := n3_; have HBs := n4_; have HKu := n5_; clear n1_ n2_ n3_ n4_ n5_)
    | (go_at_call 60; have k1_ := HBK.out.2.1; have k2_ := HBK.out.2.2.1; (with_reducible refine (room_calls _ _ _ _ _ _ _ _ _ _ k1_ k2_ (Int.natCast_nonneg _) hur hn4).mono ?_); clear k1_ k2_; rintro e w1 ⟨rfl, hb⟩; have n1_ := Aside0.mk (HBK.out.below hb); have n2_ := Aside0.mk (HBe.out.trans (hb.mono HBs.out)); have n3_ := Aside0.mk ((hb.block _ (blk_lt HX.out)).trans HX.out); have n4_ := Aside0.mk (Nat.le_trans HBs.out hb.size); have n5_ := Aside0.mk (HKu.out.trans (Ku.of_below hb)); clear HBK HBe HX HBs HKu hb; have HBK := n1_; have HBe := n2_; have HX := n3_; have HBs := n4_; have HKu := n5_; clear n1_ n2_ n3_ n4_ n5_))
  refine rg5_ 10 [0, 1, 2, 3, 4, 5, 6, 7, 8, 9, 10] [(0, 10), (1, 11), (2, 12), (3, 13), (4, 14), (5, 15), (6, 16), (7, 17), (8, 18), (9, 19), (10, 20)] (bitsOf (rtab .any (opsOf Try.f113 3)).2) (w3Rel gb gd (used : Int) 0 0 s) (fun _ W => BK base W gb gd n e0 (used : Int) f nE (y0 :: y1 :: y2 :: ys) 0 ∧ Below base w W ∧ W.heap[gx]? = some (.cells #[.int .i64 0, .int .i64 0, .string s] 23 (0, 0)) ∧ base ≤ W.heap.size ∧ Ku w W) (by kernel_rfl) rfl (by kernel_rfl) rfl (by kernel_rfl) (fun j v w w' h _ => by revert h; unfold w3Rel; split <;> exact id) ?stA ?h1A ?reA
  case stA =>
    refine steps5_cons (fun a1 w2 hB hsz hdf hn hd => ⟨_, rfl, fun K hK => ?_⟩) ?_
    · have e0 := eval_of ((hn 0 rfl).trans rfl)
      refine value_ (v := .pointer (some ⟨gb, 0, none⟩)) (w1 := w2) rfl rfl ?_ (hK _ _ (Below.refl _ _) rfl)
      clear hd hn hK
      simp only [execOp, Option.map_some, Option.map_none, List.map_toArray, List.map_cons, List.map_nil, List.getElem_toArray, List.getElem_cons_zero, List.getElem_cons_succ, e0]
      clear e0
      go_simp
    refine steps5_cons (fun a1 w2 hB hsz hdf hn hd => ⟨_, rfl, fun K hK => ?_⟩) ?_
    · obtain ⟨v10, h10, rfl⟩ := hd 0 10 rfl (by kernel_rfl)
      have e10 := eval_of h10
      clear h10
      refine value_ (v := .pointer (some ⟨gb, 0, none⟩)) (w1 := w2) rfl rfl ?_ (hK _ _ (Below.refl _ _) rfl)
      clear hd hn hK
      simp only [execOp, Option.map_some, Option.map_none, List.map_toArray, List.map_cons, List.map_nil, List.getElem_toArray, List.getElem_cons_zero, List.getElem_cons_succ, e10]
      clear e10
      go_simp
    refine steps5_cons (fun a1 w2 hB hsz hdf hn hd => ⟨_, rfl, fun K hK => ?_⟩) ?_
    · obtain ⟨v11, h11, rfl⟩ := hd 1 11 rfl (by kernel_rfl)
      have e11 := eval_of h11
      clear h11
      refine value_ (v := .pointer (some ⟨gb, 10, none⟩)) (w1 := w2) rfl rfl ?_ (hK _ _ (Below.refl _ _) rfl)
      clear hd hn hK
      simp only [execOp, Option.map_some, Option.map_none, List.map_toArray, List.map_cons, List.map_nil, List.getElem_toArray, List.getElem_cons_zero, List.getElem_cons_succ, e11]
      clear e11
      go_simp
    refine steps5_cons (fun a1 w2 hB hsz hdf hn hd => ⟨_, rfl, fun K hK => ?_⟩) ?_
    · obtain ⟨v12, h12, rfl⟩ := hd 2 12 rfl (by kernel_rfl)
      have e12 := eval_of h12
      clear h12
      refine value_ (v := .pointer (some ⟨gd, 0, none⟩)) (w1 := w2) rfl rfl ?_ (hK _ _ (Below.refl _ _) rfl)
      clear hd hn hK
      simp only [execOp, Option.map_some, Option.map_none, List.map_toArray, List.map_cons, List.map_nil, List.getElem_toArray, List.getElem_cons_zero, List.getElem_cons_succ, e12]
      clear e12
      have hq : w2.cell? ⟨gb, 10, none⟩ = some (.pointer (some ⟨gd, 0, none⟩)) := (blk_cell (HBK.out.2.1.below hB) 10).trans rfl
      clear hB
      go_simp
    refine steps5_cons (fun a1 w2 hB hsz hdf hn hd => ⟨_, rfl, fun K hK => ?_⟩) ?_
    · have e0 := eval_of ((hn 0 rfl).trans rfl)
      refine value_ (v := .pointer (some ⟨gb, 0, none⟩)) (w1 := w2) rfl rfl ?_ (hK _ _ (Below.refl _ _) rfl)
      clear hd hn hK
      simp only [execOp, Option.map_some, Option.map_none, List.map_toArray, List.map_cons, List.map_nil, List.getElem_toArray, List.getElem_cons_zero, List.getElem_cons_succ, e0]
      clear e0
      go_simp
    refine steps5_cons (fun a1 w2 hB hsz hdf hn hd => ⟨_, rfl, fun K hK => ?_⟩) ?_
    · obtain ⟨v14, h14, rfl⟩ := hd 4 14 rfl (by kernel_rfl)
      have e14 := eval_of h14
      clear h14
      refine value_ (v := .pointer (some ⟨gb, 0, none⟩)) (w1 := w2) rfl rfl ?_ (hK _ _ (Below.refl _ _) rfl)
      clear hd hn hK
      simp only [execOp, Option.map_some, Option.map_none, List.map_toArray, List.map_cons, List.map_nil, List.getElem_toArray, List.getElem_cons_zero, List.getElem_cons_succ, e14]
      clear e14
      go_simp
    refine steps5_cons (fun a1 w2 hB hsz hdf hn hd => ⟨_, rfl, fun K hK => ?_⟩) ?_
    · obtain ⟨v15, h15, rfl⟩ := hd 5 15 rfl (by kernel_rfl)
      have e15 := eval_of h15
      clear h15
      refine value_ (v := .pointer (some ⟨gb, 0, none⟩)) (w1 := w2) rfl rfl ?_ (hK _ _ (Below.refl _ _) rfl)
      clear hd hn hK
      simp only [execOp, Option.map_some, Option.map_none, List.map_toArray, List.map_cons, List.map_nil, List.getElem_toArray, List.getElem_cons_zero, List.getElem_cons_succ, e15]
      clear e15
      go_simp
    refine steps5_cons (fun a1 w2 hB hsz hdf hn hd => ⟨_, rfl, fun K hK => ?_⟩) ?_
    · obtain ⟨v16, h16, rfl⟩ := hd 6 16 rfl (by kernel_rfl)
      have e16 := eval_of h16
      clear h16
      refine value_ (v := .pointer (some ⟨gb, 9, none⟩)) (w1 := w2) rfl rfl ?_ (hK _ _ (Below.refl _ _) rfl)
      clear hd hn hK
      simp only [execOp, Option.map_some, Option.map_none, List.map_toArray, List.map_cons, List.map_nil, List.getElem_toArray, List.getElem_cons_zero, List.getElem_cons_succ, e16]
      clear e16
      go_simp
    refine steps5_cons (fun a1 w2 hB hsz hdf hn hd => ⟨_, rfl, fun K hK => ?_⟩) ?_
    · obtain ⟨v17, h17, rfl⟩ := hd 7 17 rfl (by kernel_rfl)
      have e17 := eval_of h17
      clear h17
      refine value_ (v := .int .i64 (used : Int)) (w1 := w2) rfl rfl ?_ (hK _ _ (Below.refl _ _) rfl)
      clear hd hn hK
      simp only [execOp, Option.map_some, Option.map_none, List.map_toArray, List.map_cons, List.map_nil, List.getElem_toArray, List.getElem_cons_zero, List.getElem_cons_succ, e17]
      clear e17
      have hq : w2.cell? ⟨gb, 9, none⟩ = some (.int .i64 (used : Int)) := (blk_cell (HBK.out.2.1.below hB) 9).trans rfl
      clear hB
      go_simp
    refine steps5_cons (fun a1 w2 hB hsz hdf hn hd => ⟨_, rfl, fun K hK => ?_⟩) ?_
    · have e3 := eval_of ((hn 3 rfl).trans rfl)
      refine value_ (v := .agg #[.int .i64 0, .int .i64 0, .string s]) (w1 := w2) rfl rfl ?_ (hK _ _ (Below.refl _ _) rfl)
      clear hd hn hK
      simp only [execOp, Option.map_some, Option.map_none, List.map_toArray, List.map_cons, List.map_nil, List.getElem_toArray, List.getElem_cons_zero, List.getElem_cons_succ, e3]
      clear e3
      have hbx := (hB.block _ (blk_lt HX.out)).trans HX.out
      have hx0 : w2.cell? ⟨gx, 0, none⟩ = some (.int .i64 0) := (blk_cell hbx 0).trans rfl
      have hx1 : w2.cell? ⟨gx, 1, none⟩ = some (.int .i64 0) := (blk_cell hbx 1).trans rfl
      have hx2 : w2.cell? ⟨gx, 2, none⟩ = some (.string s) := (blk_cell hbx 2).trans rfl
      clear hB hbx
      go_simp
    refine steps5_m ?_
    exact steps5_nil
  case h1A =>
    intro a1 w2 hB hn hd
    obtain ⟨v13, h13, q13⟩ := hd 3 13 rfl (by kernel_rfl)
    have e13 : v13 = .pointer (some ⟨gd, 0, none⟩) := q13
    subst e13
    have e13 := eval_of h13
    obtain ⟨v18, h18, q18⟩ := hd 8 18 rfl (by kernel_rfl)
    have e18 : v18 = .int .i64 (used : Int) := q18
    subst e18
    have e18 := eval_of h18
    obtain ⟨v19, h19, q19⟩ := hd 9 19 rfl (by kernel_rfl)
    have e19 : v19 = .agg #[.int .i64 0, .int .i64 0, .string s] := q19
    subst e19
    have e19 := eval_of h19
    refine ⟨_, rfl, fun K hK => ?_⟩
    refine goes_ Try.func143 (by kernel_rfl) rfl #[.pointer (some ⟨gd, 0, none⟩), .int .i64 (used : Int), .agg #[.int .i64 0, .int .i64 0, .string s]] (by rfl) rfl rfl (by simp only [List.map_toArray, List.map_cons, List.map_nil, e13, e18, e19]) ?_
    refine ((HBK.out.below hB).recordU (Nat.le_trans HBs.out hB.size) s hf hn4 hk hs hat).mono ?_
    rintro e w5 ⟨rfl, hbk, hbe, hkeep, hkv⟩
    exact ⟨_, rfl, hK _ _ ⟨hbk, (HBe.out.trans (hB.mono HBs.out)).trans hbe, hkeep _ _ ((hB.block _ (blk_lt HX.out)).trans HX.out), Nat.le_trans (Nat.le_trans HBs.out hB.size) hbe.size, (HKu.out.trans (Ku.of_below hB)).trans hkv⟩⟩
  case reA =>
    intro vals2 w4 hp2
    simp only [fill, Act.put, List.setIfInBounds_toArray, List.set_cons_zero, List.set_cons_succ]
    clear HBK HBe HX HBs HKu
    obtain ⟨hbk4, hbe4, hx4, hbs4, hkv4⟩ := hp2
    have HKu := Aside0.mk hkv4
    have HBK := Aside0.mk hbk4
    have HBe := Aside0.mk hbe4
    have HX := Aside0.mk hx4
    have HBs := Aside0.mk hbs4
    clear hbk4 hbe4 hx4 hbs4 hkv4
    go_wp2
    refine rg5_ 4 [0, 1, 2, 3, 4] [(0, 21), (1, 22), (2, 23), (3, 24), (4, 25)] (bitsOf (rtab .any (opsOf Try.f113 4)).2) (w4Rel gb 0 0 s) (fun _ W => ∃ e1, BK base W gb gd n e1 ((used : Int) + ((1 + (s.size + 6) / 64 : Nat) : Int)) f nE (.int .i64 0 :: .int .i64 0 :: .string s :: ys) 0 ∧ Below base w W ∧ Ku w W) (by kernel_rfl) rfl (by kernel_rfl) rfl (by kernel_rfl) (fun j v w w' h _ => by revert h; unfold w4Rel; split <;> exact id) ?stB ?h1B ?reB
    case stB =>
      refine steps5_cons (fun a1 w2 hB hsz hdf hn hd => ⟨_, rfl, fun K hK => ?_⟩) ?_
      · have e0 := eval_of ((hn 0 rfl).trans rfl)
        refine value_ (v := .pointer (some ⟨gb, 0, none⟩)) (w1 := w2) rfl rfl ?_ (hK _ _ (Below.refl _ _) rfl)
        clear hd hn hK
        simp only [execOp, Option.map_some, Option.map_none, List.map_toArray, List.map_cons, List.map_nil, List.getElem_toArray, List.getElem_cons_zero, List.getElem_cons_succ, e0]
        clear e0
        go_simp
      refine steps5_cons (fun a1 w2 hB hsz hdf hn hd => ⟨_, rfl, fun K hK => ?_⟩) ?_
      · obtain ⟨v21, h21, rfl⟩ := hd 0 21 rfl (by kernel_rfl)
        have e21 := eval_of h21
        clear h21
        refine value_ (v := .pointer (some ⟨gb, 0, none⟩)) (w1 := w2) rfl rfl ?_ (hK _ _ (Below.refl _ _) rfl)
        clear hd hn hK
        simp only [execOp, Option.map_some, Option.map_none, List.map_toArray, List.map_cons, List.map_nil, List.getElem_toArray, List.getElem_cons_zero, List.getElem_cons_succ, e21]
        clear e21
        go_simp
      refine steps5_cons (fun a1 w2 hB hsz hdf hn hd => ⟨_, rfl, fun K hK => ?_⟩) ?_
      · obtain ⟨v22, h22, rfl⟩ := hd 1 22 rfl (by kernel_rfl)
        have e22 := eval_of h22
        clear h22
        refine value_ (v := .pointer (some ⟨gb, 0, none⟩)) (w1 := w2) rfl rfl ?_ (hK _ _ (Below.refl _ _) rfl)
        clear hd hn hK
        simp only [execOp, Option.map_some, Option.map_none, List.map_toArray, List.map_cons, List.map_nil, List.getElem_toArray, List.getElem_cons_zero, List.getElem_cons_succ, e22]
        clear e22
        go_simp
      refine steps5_cons (fun a1 w2 hB hsz hdf hn hd => ⟨_, rfl, fun K hK => ?_⟩) ?_
      · have e3 := eval_of ((hn 3 rfl).trans rfl)
        refine value_ (v := .agg #[.int .i64 0, .int .i64 0, .string s]) (w1 := w2) rfl rfl ?_ (hK _ _ (Below.refl _ _) rfl)
        clear hd hn hK
        simp only [execOp, Option.map_some, Option.map_none, List.map_toArray, List.map_cons, List.map_nil, List.getElem_toArray, List.getElem_cons_zero, List.getElem_cons_succ, e3]
        clear e3
        have hbx := (hB.block _ (blk_lt HX.out)).trans HX.out
        have hx0 : w2.cell? ⟨gx, 0, none⟩ = some (.int .i64 0) := (blk_cell hbx 0).trans rfl
        have hx1 : w2.cell? ⟨gx, 1, none⟩ = some (.int .i64 0) := (blk_cell hbx 1).trans rfl
        have hx2 : w2.cell? ⟨gx, 2, none⟩ = some (.string s) := (blk_cell hbx 2).trans rfl
        clear hB hbx
        go_simp
      refine steps5_m ?_
      exact steps5_nil
    case h1B =>
      intro a1 w2 hB hn hd
      obtain ⟨v23, h23, q23⟩ := hd 2 23 rfl (by kernel_rfl)
      have e23 : v23 = .pointer (some ⟨gb, 0, none⟩) := q23
      subst e23
      have e23 := eval_of h23
      obtain ⟨v24, h24, q24⟩ := hd 3 24 rfl (by kernel_rfl)
      have e24 : v24 = .agg #[.int .i64 0, .int .i64 0, .string s] := q24
      subst e24
      have e24 := eval_of h24
      refine ⟨_, rfl, fun K hK => ?_⟩
      refine goes_ Try.func144 (by kernel_rfl) rfl #[.pointer (some ⟨gb, 0, none⟩), .agg #[.int .i64 0, .int .i64 0, .string s]] (by rfl) rfl rfl (by simp only [List.map_toArray, List.map_cons, List.map_nil, e23, e24]) ?_
      refine ((HBK.out.below hB).putB (Nat.le_trans HBs.out hB.size) s hn1 hnE hs (by omega) (by omega)).mono ?_
      rintro e w5 ⟨rfl, e1, hbk, hbe, hkv⟩
      exact ⟨_, rfl, hK _ _ ⟨e1, hbk, (HBe.out.trans (hB.mono HBs.out)).trans hbe, (HKu.out.trans (Ku.of_below hB)).trans hkv⟩⟩
    case reB =>
      intro vals3 w5 hp3
      simp only [fill, Act.put, List.setIfInBounds_toArray, List.set_cons_zero, List.set_cons_succ]
      have HP3 := Aside0.mk hp3
      clear hp3
      go_wp2
      go_end0
      exact ⟨rfl, hcc ▸ HP3.out⟩
end Go.Proofs.Ytkedodmlbepfnaa.Lg

-- from the working text Ad
set_option linter.unusedSimpArgs false
set_option linter.unusedVariables false
namespace Go.Proofs.Ytkedodmlbepfnaa.Lg
open Go.RowKit Go.Proofs.YtkedodmlbepfnaaW.PrintWords Go.Proofs.YtkedodmlbepfnaaW.PrintLast Go.Proofs.YtkedodmlbepfnaaW.PrintMore Go.Proofs.Ytkedodmlbepfnaa.Rg
/-- A guarded operation whose guard is on. -/
theorem wanted_of {ops : Array Oper} {oi : Oper} {tmps : Array Value} {j : Nat} {b : Bool} {t : Tmp} (hg : oi.guard = some (j, b)) (hd : (ops[j]?).bind (·.dst) = some t) (ht : tmps[t]? = some (.bool b)) : Region.wanted oi (yielded ops tmps) = true := by
  have hy : yielded ops tmps j = some b := by
    unfold yielded
    rw [hd]
    simp [ht]
  simp [Region.wanted, hg, hy]
/-- A variable of another kind is written. -/
theorem BK.setVar {base gb gd n nE k b : Nat} {w : World} {e0 : Value} {used f : Int} {xs : List Value} {cs : Array Value} (h : BK base w gb gd n e0 used f nE xs k) (hb : w.heap[b]? = some (.cells cs 28 (0, 0))) (u : Value) : BK base (w.setCell ⟨b, 0, none⟩ u) gb gd n e0 used f nE xs k := by
  obtain ⟨h1, h2, h3, h4⟩ := h
  have h2' : w.heap[gb]? = some (.cells (bookCells e0 used gd f) 95 (0, 0)) := h2
  have hk : Kp (fun i => i = b) w (w.setCell ⟨b, 0, none⟩ u) := (Kp.refl (fun i => i = b) w).setCell (p := ⟨b, 0, none⟩) (.inl rfl) u
  refine ⟨h1, (hk.block gb (blk_lt h2') (fun e => ?_)).trans h2', (h3.typed.kp hk fun i hi _ e => ?_).mono fun i hi => hi.1, h4.setCell (h4.type_ne hb (by decide)) u⟩
  · subst e
    rw [hb] at h2'
    injection h2' with h2'
    injection h2' with _ h2' _
    cases h2'
  · subst e
    exact TY.not hb (by decide) (by decide) (by decide) hi.2
theorem check0_calls (no : Int) (s : ByteArray) (w : World) (h0 : 0 ≤ no) (h1 : no < 64) (hs : s.size ≤ 2400) :
    Calls Try.prog 16 #[.agg #[.int .i64 0, .int .i64 no, .string s]] w fun e w' => e = .returned (.int .i64 0) ∧ Below w.heap.size w w' := by
  refine ledger_CheckEntry.calls 0 no s 0 w ?_
  unfold ledger_CheckEntry.f
  rw [if_neg (by omega), if_neg (by omega), if_neg (by omega), if_neg (by omega), if_neg (by omega)]
def addRel (gb gx : Nat) (a no : Int) (s : ByteArray) : Nat → Value → World → Prop
  | 0, v, _ => v = .agg #[.int .i64 a, .int .i64 no, .string s]
  | 1, v, _ => v = .int .i64 0
  | 2, v, _ => v = .bool false
  | 3, v, _ => v = .bool false
  | 4, v, _ => v = .pointer (some ⟨gb, 0, none⟩)
  | 5, v, _ => v = .pointer (some ⟨gb, 0, none⟩)
  | 6, v, _ => v = .pointer (some ⟨gb, 0, none⟩)
  | 7, v, _ => v = .pointer (some ⟨gx, 0, none⟩)
  | 8, v, _ => v = .int .i64 a
  | 9, v, _ => v = .bool true
  | 10, v, _ => v = .bool false
  | 11, v, _ => v = .bool false
  | _, _, _ => True
set_option maxHeartbeats 8000000 in
set_option maxRecDepth 100000 in
theorem addA_calls (base : Nat) (w : World) (gb gd n nE k used : Nat) (e0 : Value) (f : Int) (xs : List Value) (s : ByteArray) (h : BK base w gb gd n e0 (used : Int) f nE xs k) (hbase : base ≤ w.heap.size) (hf : f ≤ 1000000) (hn4 : n ≤ 4096) (hk : k ≤ 100) (hnE : nE ≤ 60) (hs : s.size ≤ 2400) (hat : used + 1 + (s.size + 6) / 64 ≤ n) :
    Calls Try.prog 61 #[.pointer (some ⟨gb, 0, none⟩), .agg #[.int .i64 0, .int .i64 (nE : Int), .string s]] w fun e w' => e = .returned (.int .i64 0) ∧ ∃ e1, BK base w' gb gd n e1 ((used : Int) + ((1 + (s.size + 6) / 64 : Nat) : Int)) f (nE + 1) (xs ++ [.int .i64 0, .int .i64 (nE : Int), .string s]) 0 ∧ Below base w w' := by
  have hB1 : Below w.heap.size w ((w.alloc (.cells #[.int .i64 0, .int .i64 (nE : Int), .string s] 23)).alloc (.cells #[.int .i64 0] 28)) := below_alloc (below_alloc (Below.refl _ _) _) _
  have HBK := Aside0.mk (h.below hB1)
  have k1_ := HBK.out.2.1
  have k2_ := HBK.out.2.2.1
  have HX := Aside0.mk (blk_new1 w (.cells #[.int .i64 0, .int .i64 (nE : Int), .string s] 23) (.cells #[.int .i64 0] 28))
  have HE := Aside0.mk (blk_new2 w (.cells #[.int .i64 0, .int .i64 (nE : Int), .string s] 23) (.cells #[.int .i64 0] 28))
  have HBe := Aside0.mk (hB1.mono hbase)
  have HBs := Aside0.mk (Nat.le_trans hbase hB1.size)
  clear h hB1
  go_enter_defers Try.func61, Try.ntmps61
  go_wp2_with (go_at_call 111; (with_reducible refine (bup_calls _ _ _ _ _ _ _ _ _ k1_ k2_).mono ?_); rintro e w1 ⟨rfl, hb⟩)
  have HX' := Aside0.mk ((hb.block _ (blk_lt HX.out)).trans HX.out)
  have HBK' := Aside0.mk (HBK.out.below hb)
  have HE' := Aside0.mk ((hb.block _ (blk_lt HE.out)).trans HE.out)
  have HBe' := Aside0.mk (HBe.out.trans (hb.mono HBs.out))
  have HBs' := Aside0.mk (Nat.le_trans HBs.out hb.size)
  clear HX HBK HE HBe HBs k1_ k2_ hb
  have HX := HX'
  have HBK := HBK'
  have HE := HE'
  have HBe := HBe'
  have HBs := HBs'
  clear HX' HBK' HE' HBe' HBs'
  refine rg_ [0, 1, 2, 3, 4, 5, 6, 7, 8, 9, 10, 11] [(0, 8), (1, 9), (2, 10), (3, 11), (4, 12), (5, 13), (6, 14), (7, 15), (8, 16), (9, 17), (10, 18), (11, 19)] (bitsOf (rtab .any (opsOf Try.f61 3)).2) (addRel gb w.heap.size 0 (nE : Int) s) (by kernel_rfl) rfl (by kernel_rfl) rfl (by kernel_rfl) (fun j v w w' h _ => by revert h; unfold addRel; split <;> exact id) ?steps ?rend
  case steps =>
    refine steps_cons (fun a1 w2 hB hsz hdf hn hd => ⟨_, rfl, fun K hK => ?_⟩) ?_
    · have e3 := eval_of ((hn 3 rfl).trans rfl)
      refine value_ (v := .agg #[.int .i64 0, .int .i64 (nE : Int), .string s]) (w1 := w2) rfl rfl ?_ (hK _ _ (Below.refl _ _) rfl)
      clear hd hn hK
      simp only [execOp, Option.map_some, Option.map_none, List.map_toArray, List.map_cons, List.map_nil, List.getElem_toArray, List.getElem_cons_zero, List.getElem_cons_succ, e3]
      clear e3
      have hbx := (hB.block _ (blk_lt HX.out)).trans HX.out
      have hx0 : w2.cell? ⟨w.heap.size, 0, none⟩ = some (.int .i64 0) := (blk_cell hbx 0).trans rfl
      have hx1 : w2.cell? ⟨w.heap.size, 1, none⟩ = some (.int .i64 (nE : Int)) := (blk_cell hbx 1).trans rfl
      have hx2 : w2.cell? ⟨w.heap.size, 2, none⟩ = some (.string s) := (blk_cell hbx 2).trans rfl
      clear hB hbx
      go_simp
    refine steps_cons (fun a1 w2 hB hsz hdf hn hd => ⟨_, rfl, fun K hK => ?_⟩) ?_
    · obtain ⟨v8, h8, rfl⟩ := hd 0 8 rfl (by kernel_rfl)
      have e8 := eval_of h8
      clear h8
      refine goes_ Try.func16 (by kernel_rfl) rfl #[.agg #[.int .i64 0, .int .i64 (nE : Int), .string s]] (by rfl) rfl rfl (by simp only [List.map_toArray, List.map_cons, List.map_nil, e8]) ?_
      refine (check0_calls (nE : Int) s _ (by omega) (by omega) hs).mono ?_
      rintro e w3 ⟨rfl, hbw⟩
      exact ⟨_, rfl, hK _ _ hbw rfl⟩
    refine steps_cons (fun a1 w2 hB hsz hdf hn hd => ⟨_, rfl, fun K hK => ?_⟩) ?_
    · obtain ⟨v9, h9, rfl⟩ := hd 1 9 rfl (by kernel_rfl)
      have e9 := eval_of h9
      clear h9
      refine value_ (v := .bool false) (w1 := w2) rfl rfl ?_ (hK _ _ (Below.refl _ _) rfl)
      clear hd hn hK
      simp only [execOp, Option.map_some, Option.map_none, List.map_toArray, List.map_cons, List.map_nil, List.getElem_toArray, List.getElem_cons_zero, List.getElem_cons_succ, e9]
      clear e9
      go_simp
    refine steps_cons (fun a1 w2 hB hsz hdf hn hd => ⟨_, rfl, fun K hK => ?_⟩) ?_
    · obtain ⟨v10, h10, rfl⟩ := hd 2 10 rfl (by kernel_rfl)
      have e10 := eval_of h10
      clear h10
      refine value_ (v := .bool false) (w1 := w2) rfl rfl ?_ (hK _ _ (Below.refl _ _) rfl)
      clear hd hn hK
      simp only [execOp, Option.map_some, Option.map_none, List.map_toArray, List.map_cons, List.map_nil, List.getElem_toArray, List.getElem_cons_zero, List.getElem_cons_succ, e10]
      clear e10
      go_simp
    refine steps_cons (fun a1 w2 hB hsz hdf hn hd => ⟨_, rfl, fun K hK => ?_⟩) ?_
    · have e0 := eval_of ((hn 0 rfl).trans rfl)
      obtain ⟨v11g, h11g, q11g⟩ := hd 3 11 rfl (by kernel_rfl)
      have e11g : v11g = .bool false := q11g
      subst e11g
      refine value_ (v := .pointer (some ⟨gb, 0, none⟩)) (w1 := w2) (wanted_of (j := 3) (b := false) (t := 11) rfl rfl h11g) rfl ?_ (hK _ _ (Below.refl _ _) rfl)
      clear hd hn hK
      simp only [execOp, Option.map_some, Option.map_none, List.map_toArray, List.map_cons, List.map_nil, List.getElem_toArray, List.getElem_cons_zero, List.getElem_cons_succ, e0]
      clear e0
      go_simp
    refine steps_cons (fun a1 w2 hB hsz hdf hn hd => ⟨_, rfl, fun K hK => ?_⟩) ?_
    · obtain ⟨v12, h12, rfl⟩ := hd 4 12 rfl (by kernel_rfl)
      have e12 := eval_of h12
      clear h12
      obtain ⟨v11g, h11g, q11g⟩ := hd 3 11 rfl (by kernel_rfl)
      have e11g : v11g = .bool false := q11g
      subst e11g
      refine value_ (v := .pointer (some ⟨gb, 0, none⟩)) (w1 := w2) (wanted_of (j := 3) (b := false) (t := 11) rfl rfl h11g) rfl ?_ (hK _ _ (Below.refl _ _) rfl)
      clear hd hn hK
      simp only [execOp, Option.map_some, Option.map_none, List.map_toArray, List.map_cons, List.map_nil, List.getElem_toArray, List.getElem_cons_zero, List.getElem_cons_succ, e12]
      clear e12
      go_simp
    refine steps_cons (fun a1 w2 hB hsz hdf hn hd => ⟨_, rfl, fun K hK => ?_⟩) ?_
    · obtain ⟨v13, h13, rfl⟩ := hd 5 13 rfl (by kernel_rfl)
      have e13 := eval_of h13
      clear h13
      obtain ⟨v11g, h11g, q11g⟩ := hd 3 11 rfl (by kernel_rfl)
      have e11g : v11g = .bool false := q11g
      subst e11g
      refine value_ (v := .pointer (some ⟨gb, 0, none⟩)) (w1 := w2) (wanted_of (j := 3) (b := false) (t := 11) rfl rfl h11g) rfl ?_ (hK _ _ (Below.refl _ _) rfl)
      clear hd hn hK
      simp only [execOp, Option.map_some, Option.map_none, List.map_toArray, List.map_cons, List.map_nil, List.getElem_toArray, List.getElem_cons_zero, List.getElem_cons_succ, e13]
      clear e13
      go_simp
    refine steps_cons (fun a1 w2 hB hsz hdf hn hd => ⟨_, rfl, fun K hK => ?_⟩) ?_
    · have e3 := eval_of ((hn 3 rfl).trans rfl)
      obtain ⟨v11g, h11g, q11g⟩ := hd 3 11 rfl (by kernel_rfl)
      have e11g : v11g = .bool false := q11g
      subst e11g
      refine value_ (v := .pointer (some ⟨w.heap.size, 0, none⟩)) (w1 := w2) (wanted_of (j := 3) (b := false) (t := 11) rfl rfl h11g) rfl ?_ (hK _ _ (Below.refl _ _) rfl)
      clear hd hn hK
      simp only [execOp, Option.map_some, Option.map_none, List.map_toArray, List.map_cons, List.map_nil, List.getElem_toArray, List.getElem_cons_zero, List.getElem_cons_succ, e3]
      clear e3
      go_simp
    refine steps_cons (fun a1 w2 hB hsz hdf hn hd => ⟨_, rfl, fun K hK => ?_⟩) ?_
    · obtain ⟨v15, h15, rfl⟩ := hd 7 15 rfl (by kernel_rfl)
      have e15 := eval_of h15
      clear h15
      obtain ⟨v11g, h11g, q11g⟩ := hd 3 11 rfl (by kernel_rfl)
      have e11g : v11g = .bool false := q11g
      subst e11g
      refine value_ (v := .int .i64 0) (w1 := w2) (wanted_of (j := 3) (b := false) (t := 11) rfl rfl h11g) rfl ?_ (hK _ _ (Below.refl _ _) rfl)
      clear hd hn hK
      simp only [execOp, Option.map_some, Option.map_none, List.map_toArray, List.map_cons, List.map_nil, List.getElem_toArray, List.getElem_cons_zero, List.getElem_cons_succ, e15]
      clear e15
      have hbx := (hB.block _ (blk_lt HX.out)).trans HX.out
      have hx0 : w2.cell? ⟨w.heap.size, 0, none⟩ = some (.int .i64 0) := (blk_cell hbx 0).trans rfl
      clear hB hbx
      go_simp
    refine steps_cons (fun a1 w2 hB hsz hdf hn hd => ⟨_, rfl, fun K hK => ?_⟩) ?_
    · obtain ⟨v14, h14, rfl⟩ := hd 6 14 rfl (by kernel_rfl)
      have e14 := eval_of h14
      clear h14
      obtain ⟨v16, h16, rfl⟩ := hd 8 16 rfl (by kernel_rfl)
      have e16 := eval_of h16
      clear h16
      obtain ⟨v11g, h11g, q11g⟩ := hd 3 11 rfl (by kernel_rfl)
      have e11g : v11g = .bool false := q11g
      subst e11g
      refine goes_ Try.func112 (by kernel_rfl) rfl #[.pointer (some ⟨gb, 0, none⟩), .int .i64 0] (wanted_of (j := 3) (b := false) (t := 11) rfl rfl h11g) rfl rfl (by simp only [List.map_toArray, List.map_cons, List.map_nil, e14, e16]) ?_
      refine (has_calls _ _ _ _ _ _ 0 (HBK.out.2.1.below hB) (by decide) (by decide)).mono ?_
      rintro e w3 ⟨rfl, hbw⟩
      exact ⟨_, rfl, hK _ _ hbw rfl⟩
    refine steps_cons (fun a1 w2 hB hsz hdf hn hd => ⟨_, rfl, fun K hK => ?_⟩) ?_
    · obtain ⟨v17, h17, rfl⟩ := hd 9 17 rfl (by kernel_rfl)
      have e17 := eval_of h17
      clear h17
      obtain ⟨v11g, h11g, q11g⟩ := hd 3 11 rfl (by kernel_rfl)
      have e11g : v11g = .bool false := q11g
      subst e11g
      refine value_ (v := .bool false) (w1 := w2) (wanted_of (j := 3) (b := false) (t := 11) rfl rfl h11g) rfl ?_ (hK _ _ (Below.refl _ _) rfl)
      clear hd hn hK
      simp only [execOp, Option.map_some, Option.map_none, List.map_toArray, List.map_cons, List.map_nil, List.getElem_toArray, List.getElem_cons_zero, List.getElem_cons_succ, e17]
      clear e17
      go_simp
    refine steps_cons (fun a1 w2 hB hsz hdf hn hd => ⟨_, rfl, fun K hK => ?_⟩) ?_
    · obtain ⟨v11, h11, rfl⟩ := hd 3 11 rfl (by kernel_rfl)
      have e11 := eval_of h11
      clear h11
      obtain ⟨v18, h18, rfl⟩ := hd 10 18 rfl (by kernel_rfl)
      have e18 := eval_of h18
      clear h18
      refine value_ (v := .bool false) (w1 := w2) rfl rfl ?_ (hK _ _ (Below.refl _ _) rfl)
      clear hd hn hK
      simp only [execOp, Option.map_some, Option.map_none, List.map_toArray, List.map_cons, List.map_nil, List.getElem_toArray, List.getElem_cons_zero, List.getElem_cons_succ, e11, e18]
      clear e11 e18
      go_simp
    exact steps_nil
  case rend =>
    intro vals w2 hB hrr
    have hl : vals 11 = .bool false := hrr (11, 19) (by simp)
    have HX' := Aside0.mk ((hB.block _ (blk_lt HX.out)).trans HX.out)
    have HBK' := Aside0.mk (HBK.out.below hB)
    have HE' := Aside0.mk ((hB.block _ (blk_lt HE.out)).trans HE.out)
    have HBe' := Aside0.mk (HBe.out.trans (hB.mono HBs.out))
    have HBs' := Aside0.mk (Nat.le_trans HBs.out hB.size)
    clear HX HBK HE HBe HBs hB hrr
    have HX := HX'
    have HBK := HBK'
    have HE := HE'
    have HBe := HBe'
    have HBs := HBs'
    clear HX' HBK' HE' HBe' HBs'
    obtain ⟨A, c, hA⟩ := HBK.out.2.2.2.slice
    have x0 : w2.cell? ⟨w.heap.size, 0, none⟩ = some (.int .i64 0) := (blk_cell HX.out 0).trans rfl
    have x1 : w2.cell? ⟨w.heap.size, 1, none⟩ = some (.int .i64 (nE : Int)) := (blk_cell HX.out 1).trans rfl
    have x2 : w2.cell? ⟨w.heap.size, 2, none⟩ = some (.string s) := (blk_cell HX.out 2).trans rfl
    have y1 : w2.cell? ⟨gb, 1, none⟩ = some (.slice A nE c) := (blk_cell HBK.out.2.1 1).trans (by rw [hA]; rfl)
    have t1 : decide ((nE : Int) < (nE : Int)) = false := by simp
    simp only [fill, Act.put, List.setIfInBounds_toArray, List.set_cons_zero, List.set_cons_succ, hl]
    clear hl
    go_wp2
    go_region
    all_goals go_wp2
    go_quiet (fail)
    go_wp2_with (go_at_call 113; refine (bwriteA_calls base _ gb gd n nE k used e0 f xs s (HBK.out.below ?hbx) ?bs hf hn4 hk hnE hs hat).mono ?_; (case hbx => repeat (first | exact Below.refl _ _ | apply below_drew | apply pw_below_drewN | apply below_drew1)); (case bs => exact HBs.out); rintro e w5 ⟨rfl, e1, hbk5, hbe5, hkv5⟩; have hE5 := hkv5 _ _ _ (by decide) (by decide) (by decide) (by decide) (by decide) (((by repeat (first | exact Below.refl _ _ | apply below_drew | apply pw_below_drewN | apply below_drew1)) : Below w2.heap.size w2 _).block _ (blk_lt HE.out) |>.trans HE.out); have z1 : w5.cell? ⟨w.heap.size + 1, 0, none⟩ = some (.int .i64 0) := (blk_cell hE5 0).trans rfl; have z2 := blk_frozen hE5 0; have HE5 := Aside0.mk hE5; have HBK5 := Aside0.mk hbk5; have HBe5 := Aside0.mk hbe5; clear hE5 hbk5 hbe5 hkv5)
    have hcE := (blk_cell (blk_set HE5.out 0 (.int .i64 0)) 0).trans rfl
    refine leaves_cons (f := 108) (args := #[.pointer (some ⟨w.heap.size + 1, 0, none⟩)]) (by simp) (by simp [go_sem]) ?_
    refine (caught_idle _ _).mono ?_
    rintro e u' w'' ⟨rfl, rfl, rfl⟩
    have HF := Aside0.mk (HBK5.out.setVar HE5.out (.int .i64 0))
    have HG : Aside0 (Below base w (w5.setCell ⟨w.heap.size + 1, 0, none⟩ (.int .i64 0))) := Aside0.mk ((HBe.out.trans ((by repeat (first | exact Below.refl _ _ | apply below_drew | apply pw_below_drewN | apply below_drew1) : Below base w2 _).trans HBe5.out)).setCell (Nat.le_trans hbase (Nat.le_succ _)) _)
    refine ⟨_, ?_, rfl, e1, HF.out, HG.out⟩
    simp [results, Try.results61, go_sem, hcE]
end Go.Proofs.Ytkedodmlbepfnaa.Lg

-- from the working text Ch
set_option linter.unusedSimpArgs false
set_option linter.unusedVariables false
namespace Go.Proofs.Ytkedodmlbepfnaa.Lg
open Go.RowKit Go.Proofs.YtkedodmlbepfnaaW.PrintWords Go.Proofs.YtkedodmlbepfnaaW.PrintLast Go.Proofs.YtkedodmlbepfnaaW.PrintMore Go.Proofs.Ytkedodmlbepfnaa.Rg
set_option maxHeartbeats 8000000 in
set_option maxRecDepth 100000 in
theorem changedB_calls (w : World) (S : Nat → Prop) (gb gd nE : Nat) (e0 : Value) (used f : Int) (y0 y1 : Value) (t : ByteArray) (ys : List Value) (s : ByteArray) (hb : BookAt w gb gd e0 used f) (ho : Own w S 23 3 e0 nE (y0 :: y1 :: .string t :: ys)) (hn1 : 1 ≤ nE) (hn : nE ≤ 60) (hs : s.size ≤ 2400) (hlt : Op.bytesLess s.toList t.toList = true) :
    Calls Try.prog 115 #[.pointer (some ⟨gb, 0, none⟩), .agg #[.int .i64 0, .int .i64 0, .string s]] w fun e w' => e = .returned (.bool true) ∧ Below w.heap.size w w' := by
  have hB1 : Below w.heap.size w (w.alloc (.cells #[.int .i64 0, .int .i64 0, .string s] 23)) := below_alloc (Below.refl _ _) _
  have HBK := Aside0.mk (hb.below hB1)
  have HO := Aside0.mk (own_later ho hB1)
  have HX := Aside0.mk (blk_new w (.cells #[.int .i64 0, .int .i64 0, .string s] 23))
  have HBe := Aside0.mk hB1
  have bE : ((0 : Int) == (nE : Int)) = false := by rw [beq_eq_false_iff_ne]; omega
  have bL : decide ((0 : Int) < (nE : Int)) = true := by simp; omega
  have bN : decide (0 < nE) = true := by simp; omega
  clear hb ho hB1
  go_enter Try.func115, Try.ntmps115
  go_wp2_with (first
    | (go_at_call 16; (with_reducible refine (check0_calls 0 s _ (by decide) (by decide) hs).mono ?_); rintro e w1 ⟨rfl, hb⟩; have n1_ := Aside0.mk (HBK.out.below hb); have n2_ := Aside0.mk (own_later HO.out hb); have n3_ := Aside0.mk ((hb.block _ (blk_lt HX.out)).trans HX.out); have n4_ := Aside0.mk (HBe.out.trans (hb.mono HBe.out.size)); clear HBK HO HX HBe hb; have HBK := n1_; have HO := n2_; have HX := n3_; have HBe := n4_; clear n1_ n2_ n3_ n4_; have x0 := (blk_cell HX.out 0).trans rfl)
    | (go_at_call 112; have k1_ := HBK.out; (with_reducible refine (has_calls _ _ _ _ _ _ 0 k1_ (by decide) (by decide)).mono ?_); clear k1_; rintro e w1 ⟨rfl, hb⟩; have n1_ := Aside0.mk (HBK.out.below hb); have n2_ := Aside0.mk (own_later HO.out hb); have n3_ := Aside0.mk ((hb.block _ (blk_lt HX.out)).trans HX.out); have n4_ := Aside0.mk (HBe.out.trans (hb.mono HBe.out.size)); clear HBK HO HX HBe hb; have HBK := n1_; have HO := n2_; have HX := n3_; have HBe := n4_; clear n1_ n2_ n3_ n4_))
  obtain ⟨gE, c, cur, rfl, hSE, hcur, hnc, _, hcs, htk⟩ := HO.out.form hn1
  have hcell : ∀ (i : Nat) (u : Value), (y0 :: y1 :: Value.string t :: ys)[i]? = some u → cur[i]? = some u := by
    intro i u hi
    rw [← htk, List.getElem?_take] at hi
    split at hi
    · rw [← Array.getElem?_toList]; exact hi
    · cases hi
  have c1 : w1.cell? ⟨gb, 1, none⟩ = some (.slice (some ⟨gE, 0, none⟩) nE c) := (blk_cell HBK.out 1).trans rfl
  have d2 : w1.cell? ⟨gE, 2, none⟩ = some (.string t) := (blk_cell hcur 2).trans (hcell 2 _ rfl)
  have x0' : w1.cell? ⟨w.heap.size, 0, none⟩ = some (.int .i64 0) := (blk_cell HX.out 0).trans rfl
  have x1 : w1.cell? ⟨w.heap.size, 1, none⟩ = some (.int .i64 0) := (blk_cell HX.out 1).trans rfl
  have x2 : w1.cell? ⟨w.heap.size, 2, none⟩ = some (.string s) := (blk_cell HX.out 2).trans rfl
  clear x0 hcur hcell hcs htk
  go_region
  all_goals go_wp2
  go_quiet (fail)
  go_wp2
  go_ret
  exact ⟨rfl, HBe.out.trans (by repeat (first | exact Below.refl _ _ | apply below_drew | apply pw_below_drewN | apply below_drew1))⟩
end Go.Proofs.Ytkedodmlbepfnaa.Lg

-- from the working text Mp
set_option linter.unusedSimpArgs false
set_option linter.unusedVariables false
namespace Go.Proofs.Ytkedodmlbepfnaa.Lg
open Go.RowKit Go.Proofs.YtkedodmlbepfnaaW.PrintWords Go.Proofs.YtkedodmlbepfnaaW.PrintLast Go.Proofs.YtkedodmlbepfnaaW.PrintMore Go.Proofs.Ytkedodmlbepfnaa.Rg
theorem run_part3 (cs : Array Value) (i : Nat) (v : Value) (w : World) (h : cs[i]? = some v) : (part 3 cs i).run Try.prog w = .ok v w := by
  simp [part, isAgg, run_underlying Try.underlying3, h]
theorem sizeOf3 (w : World) : (sizeOf 3).run Try.prog w = .ok 1 w := by
  cases hq : Try.prog.info? 3 with
  | none => have := size3; simp [hq] at this
  | some it =>
    have := size3
    simp [hq] at this
    simp [sizeOf, typeInfo, hq, this]
theorem key_check1 (e : Bool) (n : Nat) (a : Int) (w : World) : (Instr.checkKey e (n + 1) 3 (.int .i64 a)).run Try.prog w = .ok () w := by
  simp [Instr.checkKey, run_underlying Try.underlying3]
theorem key_check (e : Bool) (a b : Int) (w : World) : (Instr.checkKey e 10000 155 (.agg #[.int .i64 a, .int .i64 b])).run Try.prog w = .ok () w := by
  show (Instr.checkKey e (9998 + 1 + 1) 155 (.agg #[.int .i64 a, .int .i64 b])).run Try.prog w = .ok () w
  have h0 := fun w => run_part3 #[.int .i64 a, .int .i64 b] 0 _ w rfl
  have h1 := fun w => run_part3 #[.int .i64 a, .int .i64 b] 1 _ w rfl
  rw [Instr.checkKey]
  simp [run_underlying Try.underlying155, Std.Legacy.Range.forIn_eq_forIn_range', sizeOf3, h0, h1, key_check1, List.range']
theorem key_eq (a b c d : Int) (w : World) : (Op.equal 155 (.agg #[.int .i64 a, .int .i64 b]) (.agg #[.int .i64 c, .int .i64 d])).run Try.prog w = .ok (a == c && b == d) w := by
  show (Op.equalIn (9998 + 1 + 1) 155 _ _).run Try.prog w = _
  have h0 := fun w => run_part3 #[.int .i64 a, .int .i64 b] 0 _ w rfl
  have h1 := fun w => run_part3 #[.int .i64 a, .int .i64 b] 1 _ w rfl
  have h2 := fun w => run_part3 #[.int .i64 c, .int .i64 d] 0 _ w rfl
  have h3 := fun w => run_part3 #[.int .i64 c, .int .i64 d] 1 _ w rfl
  have hi := fun w x y => run_equalIn_int (P := Try.prog) w 9998 3 .i64 .i64 x y Try.underlying3
  rw [Op.equalIn]
  simp [run_underlying Try.underlying155, Std.Legacy.Range.forIn_eq_forIn_range', sizeOf3, h0, h1, h2, h3, hi, List.range']
  by_cases h : a = c <;> by_cases h' : b = d <;> simp [h, h']
theorem find_nil (k : Value) (w : World) : (Instr.findKey 155 k []).run Try.prog w = .ok none w := by
  simp [Instr.findKey, run_underlying Try.underlying155, Instr.findNow]
theorem find_one (a b c d : Int) (v : Value) (n : Nat) (w : World) : (Instr.findKey 155 (.agg #[.int .i64 a, .int .i64 b]) [{ key := .agg #[.int .i64 c, .int .i64 d], val := v, born := n }]).run Try.prog w = .ok (if (a == c && b == d) = true then some (0, v) else none) w := by
  simp only [Instr.findKey, Sem.run_bind, run_underlying Try.underlying155, Result.andThen_ok, Instr.findNow, Instr.sameNow, Instr.findAsking, key_eq]
  split <;> simp_all
/-- The zero entry. -/
abbrev noEntry : Value := .agg #[.int .i64 0, .int .i64 0, .string ⟨#[]⟩]
theorem zero23 (w : World) : (zeroValue 23).run Try.prog w = .ok noEntry w := by
  have h : (Try.prog.info? 23).map (·.zero) = some (some noEntry) := by kernel_rfl
  cases hq : Try.prog.info? 23 with
  | none => simp [hq] at h
  | some it =>
    simp [hq] at h
    simp [zeroValue, typeInfo, hq, h]
theorem run_make154 (w : World) : (Instr.makeMap 154 none).run Try.prog w = .ok (.map (some w.heap.size)) (w.alloc (.map #[] 0)) := run_makeMap_plain (P := Try.prog) w 154
theorem run_look0 (r c : Nat) (a b : Int) (w : World) (h : w.heap[r]? = some (.map #[] c)) : (Instr.lookup 154 (.map (some r)) (.agg #[.int .i64 a, .int .i64 b]) true).run Try.prog w = .ok (.tuple #[noEntry, .bool false]) w := by
  simp [Instr.lookup, run_underlying Try.underlying154, MapKept.run_getObj_map h, key_check, find_nil, zero23]
theorem run_look1 (r c m : Nat) (a b i j : Int) (v : Value) (w : World) (h : w.heap[r]? = some (.map #[{ key := .agg #[.int .i64 i, .int .i64 j], val := v, born := m }] c)) : (Instr.lookup 154 (.map (some r)) (.agg #[.int .i64 a, .int .i64 b]) true).run Try.prog w = .ok (.tuple (if (a == i && b == j) = true then #[v, .bool true] else #[noEntry, .bool false])) w := by
  simp only [Instr.lookup, Sem.run_bind, run_underlying Try.underlying154, Result.andThen_ok, MapKept.run_getObj_map h, key_check, find_one, Sem.run_pure]
  by_cases h1 : (a == i && b == j) = true
  · rw [if_pos h1, if_pos h1]
    simp
  · rw [if_neg h1, if_neg h1]
    simp [zero23]
/-- A block is replaced. -/
def putB (w : World) (r : Nat) (o : Obj) : World := { w with heap := w.heap.setIfInBounds r o }
theorem run_upd0 (r c : Nat) (a b : Int) (v : Value) (w : World) (h : w.heap[r]? = some (.map #[] c)) : (Instr.mapUpdate 154 (.map (some r)) (.agg #[.int .i64 a, .int .i64 b]) v).run Try.prog w = .ok () (putB w r (.map #[{ key := .agg #[.int .i64 a, .int .i64 b], val := v, born := c }] (c + 1))) := by
  simp [Instr.mapUpdate, run_underlying Try.underlying154, MapKept.run_getObj_map h, key_check, find_nil, MapKept.run_setObj_map _ h, putB]
theorem putB_self (w : World) (r : Nat) (o : Obj) (h : r < w.heap.size) : (putB w r o).heap[r]? = some o := by
  simp [putB, h]
theorem putB_other (w : World) (r k : Nat) (o : Obj) (h : k ≠ r) : (putB w r o).heap[k]? = w.heap[k]? := by
  simp [putB, Array.getElem?_setIfInBounds, Ne.symm h]
end Go.Proofs.Ytkedodmlbepfnaa.Lg

-- from the working text Tk
set_option linter.unusedSimpArgs false
set_option linter.unusedVariables false
namespace Go.Proofs.Ytkedodmlbepfnaa.Lg
open Go.RowKit Go.Proofs.YtkedodmlbepfnaaW.PrintWords Go.Proofs.YtkedodmlbepfnaaW.PrintLast Go.Proofs.YtkedodmlbepfnaaW.PrintMore Go.Proofs.Ytkedodmlbepfnaa.Rg
set_option maxRecDepth 100000 in
theorem take1_idle (p q : Addr) (w : World) (h : w.cell? p = some (.int .i64 0)) :
    CallsD Try.prog 114 #[.pointer (some p), .pointer (some q)] .returning w fun e u' w' => u' = .returning ∧ (e = .returned (.tuple #[]) ∧ w' = w) := by
  go_enter_d Try.func114, Try.ntmps114
  go_wp2
  go_end0
  exact ⟨rfl, rfl⟩
/-- What stands while Take goes on: the book, the two results, the map. -/
def TI (base : Nat) (w W : World) (gb gd n : Nat) (e0 : Value) (used f : Int) (xs : List Value) (k b r c : Nat) (es : Array MapEntry) (cnt : Int) : Prop :=
  BK base W gb gd n e0 used f 2 xs k ∧ W.heap[b]? = some (.cells #[.int .i64 cnt] 3 (0, 0)) ∧ W.heap[b + 1]? = some (.cells #[.int .i64 0] 28 (0, 0)) ∧ Below base w W ∧ base ≤ W.heap.size ∧ W.heap[r]? = some (.map es c) ∧ base ≤ b
theorem TI.below {base : Nat} {w W W' : World} {gb gd n : Nat} {e0 : Value} {used f : Int} {xs : List Value} {k b r c : Nat} {es : Array MapEntry} {cnt : Int} (h : TI base w W gb gd n e0 used f xs k b r c es cnt) (hb : Below W.heap.size W W') : TI base w W' gb gd n e0 used f xs k b r c es cnt := by
  obtain ⟨h1, h2, h3, h4, h5, h6, h7⟩ := h
  exact ⟨h1.below hb, (hb.block _ (blk_lt h2)).trans h2, (hb.block _ (blk_lt h3)).trans h3, h4.trans (hb.mono h5), Nat.le_trans h5 hb.size, (hb.block _ (Obj.lt h6)).trans h6, h7⟩
/-- Blocks of other kinds are written. -/
theorem BK.kp {base gb gd n nE k : Nat} {w w1 : World} {e0 : Value} {used f : Int} {xs : List Value} {S : Nat → Prop} (h : BK base w gb gd n e0 used f nE xs k) (hk : Kp S w w1) (hS : ∀ i, S i → ∃ o, w.heap[i]? = some o ∧ Out o) : BK base w1 gb gd n e0 used f nE xs k := by
  obtain ⟨h1, h2, h3, h4⟩ := h
  have h2' : w.heap[gb]? = some (.cells (bookCells e0 used gd f) 95 (0, 0)) := h2
  refine ⟨h1, (hk.block gb (blk_lt h2') (fun e => ?_)).trans h2', (h3.typed.kp hk fun i hi _ e => ?_).mono fun i hi => hi.1, (h4.exact.kp hk fun i hi hlt e => ?_).mono fun i hi => h4.2 i hi⟩
  · obtain ⟨o, ho, hO⟩ := hS gb e
    rw [h2'] at ho
    injection ho with ho
    exact (hO _ _ _ ho.symm).2.2.2.2 rfl
  · obtain ⟨o, ho, hO⟩ := hS i e
    exact TY.out ho hO hi.2
  · obtain ⟨o, ho, hO⟩ := hS i e
    obtain ⟨c, hc⟩ := own_typed h4.1 i hi
    rw [hc] at ho
    injection ho with ho
    exact (hO _ _ _ ho.symm).2.2.2.1 rfl
theorem Kp.putB {S : Nat → Prop} (w : World) {r : Nat} (hr : S r) (o : Obj) : Kp S w (putB w r o) :=
  ⟨rfl, rfl, rfl, by simp [Lg.putB], fun k _ hk => putB_other w r k o (fun e => hk (e ▸ hr))⟩
theorem TI.upd {base : Nat} {w W : World} {gb gd n : Nat} {e0 : Value} {used f : Int} {xs : List Value} {k b r c : Nat} {es : Array MapEntry} {cnt : Int} (h : TI base w W gb gd n e0 used f xs k b r c es cnt) (hr : base ≤ r) (es' : Array MapEntry) (c' : Nat) : TI base w (putB W r (.map es' c')) gb gd n e0 used f xs k b r c' es' cnt := by
  obtain ⟨h1, h2, h3, h4, h5, h6, h7⟩ := h
  have hk : Kp (fun i => i = r) W (putB W r (.map es' c')) := Kp.putB (S := fun i => i = r) W rfl _
  have e1 : b ≠ r := fun e => by rw [e, h6] at h2; cases h2
  have e2 : b + 1 ≠ r := fun e => by rw [e, h6] at h3; cases h3
  exact ⟨h1.kp hk (fun i hi => ⟨_, hi ▸ h6, Out.map _ _⟩), (putB_other W r b _ e1).trans h2, (putB_other W r (b + 1) _ e2).trans h3, h4.trans (hk.to_below (fun i hi => hi ▸ hr) h5), Nat.le_trans h5 hk.size, putB_self W r _ (Obj.lt h6), h7⟩
def tkRel (gb : Nat) (s : ByteArray) : Nat → Value → World → Prop
  | 0, v, _ => v = .bool true
  | 1, v, _ => v = .bool true
  | 2, v, _ => v = .pointer (some ⟨gb, 0, none⟩)
  | 3, v, _ => v = .pointer (some ⟨gb, 0, none⟩)
  | 4, v, _ => v = .pointer (some ⟨gb, 0, none⟩)
  | 5, v, _ => v = .agg #[.int .i64 0, .int .i64 0, .string s]
  | 6, v, _ => v = .bool true
  | 7, v, _ => v = .bool true
  | _, _, _ => True
set_option maxHeartbeats 8000000 in
set_option maxRecDepth 100000 in
theorem takeB_calls (base : Nat) (w : World) (gb gd n k used gl : Nat) (e0 : Value) (f : Int) (y0 y1 : Value) (t : ByteArray) (ys : List Value) (s : ByteArray) (h : BK base w gb gd n e0 (used : Int) f 2 (y0 :: y1 :: .string t :: ys) k) (hbase : base ≤ w.heap.size) (hf : f ≤ 1000000) (hn4 : n ≤ 4096) (hk : k ≤ 100) (hs : s.size ≤ 2400) (hat : used + 1 + (s.size + 6) / 64 ≤ n) (hlt : Op.bytesLess s.toList t.toList = true) (hl : w.heap[gl]? = some (.cells #[.int .i64 0, .int .i64 0, .string s] 23 (0, 0))) :
    Calls Try.prog 62 #[.pointer (some ⟨gb, 0, none⟩), .slice (some ⟨gl, 0, none⟩) 1 1] w fun e w' => e = .returned (.tuple #[.int .i64 1, .int .i64 0]) ∧ ∃ e1, BK base w' gb gd n e1 ((used : Int) + ((1 + (s.size + 6) / 64 : Nat) : Int)) f 2 (.int .i64 0 :: .int .i64 0 :: .string s :: ys) 0 ∧ Below base w w' := by
  have hB1 : Below w.heap.size w ((w.alloc (.cells #[.int .i64 0] 3)).alloc (.cells #[.int .i64 0] 28)) := below_alloc (below_alloc (Below.refl _ _) _) _
  have HBK := Aside0.mk (h.below hB1)
  have k1_ := HBK.out.2.1
  have k2_ := HBK.out.2.2.1
  have HX := Aside0.mk (blk_new1 w (.cells #[.int .i64 0] 3) (.cells #[.int .i64 0] 28))
  have HE := Aside0.mk (blk_new2 w (.cells #[.int .i64 0] 3) (.cells #[.int .i64 0] 28))
  have HBe := Aside0.mk (hB1.mono hbase)
  have HBs := Aside0.mk (Nat.le_trans hbase hB1.size)
  have HL := Aside0.mk ((hB1.block _ (blk_lt hl)).trans hl)
  have hmf : ∀ (fn : Fn) (first cap : Array Value) (w : World), (Instr.makeFunc fn first cap).run Try.prog w = .ok (.func fn first cap) w := fun _ _ _ _ => rfl
  have hmm := run_make154
  clear h hB1 hl
  go_enter_defers Try.func62, Try.ntmps62
  go_wp2_with (go_at_call 111; (with_reducible refine (bup_calls _ _ _ _ _ _ _ _ _ k1_ k2_).mono ?_); rintro e w1 ⟨rfl, hb⟩)
  have HT : Aside0 (TI base w (w1.alloc (.map #[] 0)) gb gd n e0 used f (y0 :: y1 :: .string t :: ys) k w.heap.size w1.heap.size 0 #[] 0) := by
    have ha : Below w1.heap.size w1 (w1.alloc (.map #[] 0)) := below_alloc (Below.refl _ _) _
    have hb2 := hb.trans (ha.mono hb.size)
    exact Aside0.mk ⟨HBK.out.below hb2, (hb2.block _ (blk_lt HX.out)).trans HX.out, (hb2.block _ (blk_lt HE.out)).trans HE.out, HBe.out.trans (hb2.mono HBs.out), Nat.le_trans HBs.out hb2.size, blk_new _ _, hbase⟩
  have HL' : Aside0 ((w1.alloc (.map #[] 0)).heap[gl]? = some (.cells #[.int .i64 0, .int .i64 0, .string s] 23 (0, 0))) := by
    have ha : Below w1.heap.size w1 (w1.alloc (.map #[] 0)) := below_alloc (Below.refl _ _) _
    have hb2 := hb.trans (ha.mono hb.size)
    exact Aside0.mk ((hb2.block _ (blk_lt HL.out)).trans HL.out)
  have hrb : base ≤ w1.heap.size := Nat.le_trans HBs.out hb.size
  clear HL HBK HX HE HBe HBs k1_ k2_ hb hmm hmf
  revert HT HL' hrb
  generalize w1.alloc (.map #[] 0) = W2
  generalize w1.heap.size = r
  intro HT HL hrb
  have l0 : W2.cell? ⟨gl, 0, none⟩ = some (.int .i64 0) := (blk_cell HL.out 0).trans rfl
  have l1 : W2.cell? ⟨gl, 1, none⟩ = some (.int .i64 0) := (blk_cell HL.out 1).trans rfl
  have l2 : W2.cell? ⟨gl, 2, none⟩ = some (.string s) := (blk_cell HL.out 2).trans rfl
  have hr2 := HT.out.2.2.2.2.2.1
  have hk0 : ∀ o1 o2 o3, (Instr.lookup 154 (.map (some r)) (.agg #[.int .i64 0, .int .i64 0]) true).run Try.prog (((W2.alloc o1).alloc o2).alloc o3) = .ok (.tuple #[noEntry, .bool false]) (((W2.alloc o1).alloc o2).alloc o3) := fun o1 o2 o3 =>
    run_look0 r 0 0 0 _ (((below_alloc (below_alloc (below_alloc (Below.refl W2.heap.size W2) o1) o2) o3).block _ (Obj.lt hr2)).trans hr2)
  have hk1 : ∀ o1 o2 o3 o4 v, (Instr.mapUpdate 154 (.map (some r)) (.agg #[.int .i64 0, .int .i64 0]) v).run Try.prog ((((W2.alloc o1).alloc o2).alloc o3).alloc o4) = .ok () (putB ((((W2.alloc o1).alloc o2).alloc o3).alloc o4) r (.map #[{ key := .agg #[.int .i64 0, .int .i64 0], val := v, born := 0 }] 1)) := fun o1 o2 o3 o4 v =>
    run_upd0 r 0 0 0 v _ (((below_alloc (below_alloc (below_alloc (below_alloc (Below.refl W2.heap.size W2) o1) o2) o3) o4).block _ (Obj.lt hr2)).trans hr2)
  have hq : ∀ o1 o2 o3 o4 es c, (putB ((((W2.alloc o1).alloc o2).alloc o3).alloc o4) r (.map es c)).cell? ⟨gb, 0, none⟩ = some (.int .i64 2) := fun o1 o2 o3 o4 es c => by
    have hT := (HT.out.below (below_alloc (below_alloc (below_alloc (below_alloc (Below.refl W2.heap.size W2) o1) o2) o3) o4)).upd hrb es c
    exact (blk_cell hT.1.2.1 0).trans rfl
  have hT3 : ∀ o1 o2 o3 o4 es c, TI base w (putB ((((W2.alloc o1).alloc o2).alloc o3).alloc o4) r (.map es c)) gb gd n e0 used f (y0 :: y1 :: .string t :: ys) k w.heap.size r c es 0 := fun o1 o2 o3 o4 es c =>
    (HT.out.below (below_alloc (below_alloc (below_alloc (below_alloc (Below.refl W2.heap.size W2) o1) o2) o3) o4)).upd hrb es c
  have HT3 := Aside0.mk hT3
  clear hr2 hT3 hrb
  refine wp_loop_rounds 2 ?_
  rw [rounds_succ]
  go_wp2
  rw [rounds_succ]
  go_wp2
  clear hk0 hk1 hq l0 l1 l2 HL HT
  have HT4 := Aside0.mk (HT3.out (.cells #[.int .i64 0, .int .i64 0, .string s] 23) (.cells #[.int .i64 0, .int .i64 0, .string s] 23) (.cells #[.int .i64 0, .int .i64 0] 155) (.cells #[.int .i64 0, .int .i64 0, .string ⟨#[]⟩] 23) #[{ key := .agg #[.int .i64 0, .int .i64 0], val := .agg #[.int .i64 0, .int .i64 0, .string s], born := 0 }] 1)
  revert HT4
  generalize putB ((((W2.alloc (.cells #[.int .i64 0, .int .i64 0, .string s] 23)).alloc (.cells #[.int .i64 0, .int .i64 0, .string s] 23)).alloc (.cells #[.int .i64 0, .int .i64 0] 155)).alloc (.cells #[.int .i64 0, .int .i64 0, .string ⟨#[]⟩] 23)) r (.map #[{ key := .agg #[.int .i64 0, .int .i64 0], val := .agg #[.int .i64 0, .int .i64 0, .string s], born := 0 }] 1) = W4
  intro HT
  clear HT3
  obtain ⟨A, c, hA⟩ := HT.out.1.2.2.2.slice
  have q1 : W4.cell? ⟨gb, 1, none⟩ = some (.slice A 2 c) := (blk_cell HT.out.1.2.1 1).trans (by rw [hA]; rfl)
  have hk0 := run_look1 r 1 0 0 0 0 0 (.agg #[.int .i64 0, .int .i64 0, .string s]) W4 HT.out.2.2.2.2.2.1
  rw [if_pos (by decide)] at hk0
  have hx := blk_new W4 (.cells #[.int .i64 0, .int .i64 0, .string s] 23)
  have hB5 : Below W4.heap.size W4 (W4.alloc (.cells #[.int .i64 0, .int .i64 0, .string s] 23)) := below_alloc (Below.refl _ _) _
  have HT5 := Aside0.mk (HT.out.below hB5)
  have HX5 := Aside0.mk hx
  clear hx hB5
  have hb5 := HT5.out.1.2.1
  have ho5 := HT5.out.1.2.2.2
  refine wp_loop_rounds 3 ?_
  rw [rounds_succ]
  go_wp2
  refine wp_loop_rounds 4 ?_
  rw [rounds_succ]
  go_wp2
  refine rg_ [0, 1, 2, 3, 4, 5, 6, 7] [(0, 81), (1, 82), (2, 83), (3, 84), (4, 85), (5, 86), (6, 87), (7, 88)] (bitsOf (rtab .any (opsOf Try.f62 21)).2) (tkRel gb s) (by kernel_rfl) rfl (by kernel_rfl) rfl (by kernel_rfl) (fun j v w w' h _ => by revert h; unfold tkRel; split <;> exact id) ?steps ?rend
  case steps =>
    refine steps_cons (fun a1 w2 hB hsz hdf hn hd => ⟨_, rfl, fun K hK => ?_⟩) ?_
    · have e15 := eval_of ((hn 15 rfl).trans rfl)
      refine value_ (v := .bool true) (w1 := w2) rfl rfl ?_ (hK _ _ (Below.refl _ _) rfl)
      clear hd hn hK
      simp only [execOp, Option.map_some, Option.map_none, List.map_toArray, List.map_cons, List.map_nil, List.getElem_toArray, List.getElem_cons_zero, List.getElem_cons_succ, e15]
      clear e15
      go_simp
    refine steps_cons (fun a1 w2 hB hsz hdf hn hd => ⟨_, rfl, fun K hK => ?_⟩) ?_
    · obtain ⟨v81, h81, rfl⟩ := hd 0 81 rfl (by kernel_rfl)
      have e81 := eval_of h81
      clear h81
      refine value_ (v := .bool true) (w1 := w2) rfl rfl ?_ (hK _ _ (Below.refl _ _) rfl)
      clear hd hn hK
      simp only [execOp, Option.map_some, Option.map_none, List.map_toArray, List.map_cons, List.map_nil, List.getElem_toArray, List.getElem_cons_zero, List.getElem_cons_succ, e81]
      clear e81
      go_simp
    refine steps_cons (fun a1 w2 hB hsz hdf hn hd => ⟨_, rfl, fun K hK => ?_⟩) ?_
    · have e0 := eval_of ((hn 0 rfl).trans rfl)
      obtain ⟨v82g, h82g, q82g⟩ := hd 1 82 rfl (by kernel_rfl)
      have e82g : v82g = .bool true := q82g
      subst e82g
      refine value_ (v := .pointer (some ⟨gb, 0, none⟩)) (w1 := w2) (wanted_of (j := 1) (b := true) (t := 82) rfl rfl h82g) rfl ?_ (hK _ _ (Below.refl _ _) rfl)
      clear hd hn hK
      simp only [execOp, Option.map_some, Option.map_none, List.map_toArray, List.map_cons, List.map_nil, List.getElem_toArray, List.getElem_cons_zero, List.getElem_cons_succ, e0]
      clear e0
      go_simp
    refine steps_cons (fun a1 w2 hB hsz hdf hn hd => ⟨_, rfl, fun K hK => ?_⟩) ?_
    · obtain ⟨v83, h83, rfl⟩ := hd 2 83 rfl (by kernel_rfl)
      have e83 := eval_of h83
      clear h83
      obtain ⟨v82g, h82g, q82g⟩ := hd 1 82 rfl (by kernel_rfl)
      have e82g : v82g = .bool true := q82g
      subst e82g
      refine value_ (v := .pointer (some ⟨gb, 0, none⟩)) (w1 := w2) (wanted_of (j := 1) (b := true) (t := 82) rfl rfl h82g) rfl ?_ (hK _ _ (Below.refl _ _) rfl)
      clear hd hn hK
      simp only [execOp, Option.map_some, Option.map_none, List.map_toArray, List.map_cons, List.map_nil, List.getElem_toArray, List.getElem_cons_zero, List.getElem_cons_succ, e83]
      clear e83
      go_simp
    refine steps_cons (fun a1 w2 hB hsz hdf hn hd => ⟨_, rfl, fun K hK => ?_⟩) ?_
    · obtain ⟨v84, h84, rfl⟩ := hd 3 84 rfl (by kernel_rfl)
      have e84 := eval_of h84
      clear h84
      obtain ⟨v82g, h82g, q82g⟩ := hd 1 82 rfl (by kernel_rfl)
      have e82g : v82g = .bool true := q82g
      subst e82g
      refine value_ (v := .pointer (some ⟨gb, 0, none⟩)) (w1 := w2) (wanted_of (j := 1) (b := true) (t := 82) rfl rfl h82g) rfl ?_ (hK _ _ (Below.refl _ _) rfl)
      clear hd hn hK
      simp only [execOp, Option.map_some, Option.map_none, List.map_toArray, List.map_cons, List.map_nil, List.getElem_toArray, List.getElem_cons_zero, List.getElem_cons_succ, e84]
      clear e84
      go_simp
    refine steps_cons (fun a1 w2 hB hsz hdf hn hd => ⟨_, rfl, fun K hK => ?_⟩) ?_
    · have e14 := eval_of ((hn 14 rfl).trans rfl)
      obtain ⟨v82g, h82g, q82g⟩ := hd 1 82 rfl (by kernel_rfl)
      have e82g : v82g = .bool true := q82g
      subst e82g
      refine value_ (v := .agg #[.int .i64 0, .int .i64 0, .string s]) (w1 := w2) (wanted_of (j := 1) (b := true) (t := 82) rfl rfl h82g) rfl ?_ (hK _ _ (Below.refl _ _) rfl)
      clear hd hn hK
      simp only [execOp, Option.map_some, Option.map_none, List.map_toArray, List.map_cons, List.map_nil, List.getElem_toArray, List.getElem_cons_zero, List.getElem_cons_succ, e14]
      clear e14
      have hbx := (hB.block _ (blk_lt HX5.out)).trans HX5.out
      have hx0 : w2.cell? ⟨W4.heap.size, 0, none⟩ = some (.int .i64 0) := (blk_cell hbx 0).trans rfl
      have hx1 : w2.cell? ⟨W4.heap.size, 1, none⟩ = some (.int .i64 0) := (blk_cell hbx 1).trans rfl
      have hx2 : w2.cell? ⟨W4.heap.size, 2, none⟩ = some (.string s) := (blk_cell hbx 2).trans rfl
      clear hB hbx
      go_simp
    refine steps_cons (fun a1 w2 hB hsz hdf hn hd => ⟨_, rfl, fun K hK => ?_⟩) ?_
    · obtain ⟨v85, h85, rfl⟩ := hd 4 85 rfl (by kernel_rfl)
      have e85 := eval_of h85
      clear h85
      obtain ⟨v86, h86, rfl⟩ := hd 5 86 rfl (by kernel_rfl)
      have e86 := eval_of h86
      clear h86
      obtain ⟨v82g, h82g, q82g⟩ := hd 1 82 rfl (by kernel_rfl)
      have e82g : v82g = .bool true := q82g
      subst e82g
      refine goes_ Try.func115 (by kernel_rfl) rfl #[.pointer (some ⟨gb, 0, none⟩), .agg #[.int .i64 0, .int .i64 0, .string s]] (wanted_of (j := 1) (b := true) (t := 82) rfl rfl h82g) rfl rfl (by simp only [List.map_toArray, List.map_cons, List.map_nil, e85, e86]) ?_
      have kb_ := HT5.out.1.2.1.below hB
      have ko_ := own_later HT5.out.1.2.2.2 hB
      refine (changedB_calls _ _ gb gd 2 _ _ _ y0 y1 t ys s kb_ ko_ (by decide) (by decide) hs hlt).mono ?_
      rintro e w3 ⟨rfl, hbw⟩
      exact ⟨_, rfl, hK _ _ hbw rfl⟩
    refine steps_cons (fun a1 w2 hB hsz hdf hn hd => ⟨_, rfl, fun K hK => ?_⟩) ?_
    · obtain ⟨v82, h82, rfl⟩ := hd 1 82 rfl (by kernel_rfl)
      have e82 := eval_of h82
      clear h82
      obtain ⟨v87, h87, rfl⟩ := hd 6 87 rfl (by kernel_rfl)
      have e87 := eval_of h87
      clear h87
      refine value_ (v := .bool true) (w1 := w2) rfl rfl ?_ (hK _ _ (Below.refl _ _) rfl)
      clear hd hn hK
      simp only [execOp, Option.map_some, Option.map_none, List.map_toArray, List.map_cons, List.map_nil, List.getElem_toArray, List.getElem_cons_zero, List.getElem_cons_succ, e82, e87]
      clear e82 e87
      go_simp
    exact steps_nil
  case rend =>
    intro vals w2 hB hrr
    have hl : vals 7 = .bool true := hrr (7, 88) (by simp)
    have HT6 := Aside0.mk (HT5.out.below hB)
    have HX6 := Aside0.mk ((hB.block _ (blk_lt HX5.out)).trans HX5.out)
    clear HX5 HT5 hB hrr HT q1 hk0 hb5 ho5
    have x0 : w2.cell? ⟨W4.heap.size, 0, none⟩ = some (.int .i64 0) := (blk_cell HX6.out 0).trans rfl
    have x1 : w2.cell? ⟨W4.heap.size, 1, none⟩ = some (.int .i64 0) := (blk_cell HX6.out 1).trans rfl
    have x2 : w2.cell? ⟨W4.heap.size, 2, none⟩ = some (.string s) := (blk_cell HX6.out 2).trans rfl
    simp only [fill, Act.put, List.setIfInBounds_toArray, List.set_cons_zero, List.set_cons_succ, hl]
    clear hl
    have kb_ := HT6.out.1
    have kc_ := HT6.out.2.2.2.2.1
    go_wp2_with (go_at_call 113; (with_reducible refine (bwriteB_calls base _ gb gd n 2 k used e0 f y0 y1 (.string t) ys s kb_ kc_ hf hn4 hk (by decide) (by decide) hs hat).mono ?_); rintro e w7 ⟨rfl, e1, hbk7, hbe7, hku7⟩; have hz_ := hku7 _ _ (Out.cells (by decide) (by decide) (by decide) (by decide) (by decide)) HT6.out.2.1; have z0 : w7.cell? ⟨w.heap.size, 0, none⟩ = some (.int .i64 0) := (blk_cell hz_ 0).trans rfl; have z1 := blk_frozen hz_ 0; clear hz_)
    have hz3 := hku7 _ _ (Out.cells (by decide) (by decide) (by decide) (by decide) (by decide)) HT6.out.2.1
    have hz4 := hku7 _ _ (Out.cells (by decide) (by decide) (by decide) (by decide) (by decide)) HT6.out.2.2.1
    have hz5 := hku7 _ _ (Out.map _ _) HT6.out.2.2.2.2.2.1
    have hkp : Kp (fun i => i = w.heap.size) w7 (w7.setCell ⟨w.heap.size, 0, none⟩ (.int .i64 1)) := (Kp.refl (fun i => i = w.heap.size) w7).setCell (p := ⟨w.heap.size, 0, none⟩) (.inl rfl) _
    have hb7 : base ≤ w7.heap.size := Nat.le_trans kc_ hbe7.size
    have hrne : r ≠ w.heap.size := fun e => by rw [e, hz3] at hz5; cases hz5
    have HT8 : Aside0 (TI base w (w7.setCell ⟨w.heap.size, 0, none⟩ (.int .i64 1)) gb gd n e1 ((used : Int) + ((1 + (s.size + 6) / 64 : Nat) : Int)) f (.int .i64 0 :: .int .i64 0 :: .string s :: ys) 0 w.heap.size r 1 #[{ key := .agg #[.int .i64 0, .int .i64 0], val := .agg #[.int .i64 0, .int .i64 0, .string s], born := 0 }] 1) :=
      Aside0.mk ⟨hbk7.kp hkp (fun i hi => ⟨_, hi ▸ hz3, Out.cells (by decide) (by decide) (by decide) (by decide) (by decide)⟩), by rw [blk_set hz3]; rfl, (hkp.block _ (blk_lt hz4) (by omega)).trans hz4, (HT6.out.2.2.2.1.trans hbe7).trans (hkp.to_below (fun i hi => hi ▸ hbase) hb7), Nat.le_trans hb7 hkp.size, (hkp.block _ (Obj.lt hz5) (fun e => hrne e)).trans hz5, hbase⟩
    clear hz3 hz4 hz5 hkp hb7 hrne hbk7 hbe7 hku7 z0 z1 HT6 HX6 x0 x1 x2 kb_ kc_
    revert HT8
    generalize w7.setCell ⟨w.heap.size, 0, none⟩ (.int .i64 1) = W8
    intro HT8
    obtain ⟨A8, c8, hA8⟩ := HT8.out.1.2.2.2.slice
    have q1 : W8.cell? ⟨gb, 1, none⟩ = some (.slice A8 2 c8) := (blk_cell HT8.out.1.2.1 1).trans (by rw [hA8]; rfl)
    have hk0 := run_look1 r 1 0 0 1 0 0 (.agg #[.int .i64 0, .int .i64 0, .string s]) W8 HT8.out.2.2.2.2.2.1
    rw [if_neg (by decide)] at hk0
    rw [rounds_succ]
    go_wp2
    go_quiet (fail)
    go_wp2
    have HT9 := Aside0.mk (HT8.out.below (pw_below_drewN (below_alloc (Below.refl W8.heap.size W8) (.cells #[.int .i64 0, .int .i64 0, .string ⟨#[]⟩] 23)) nq))
    clear q1 hk0 HT8
    revert HT9
    generalize (W8.alloc (.cells #[.int .i64 0, .int .i64 0, .string ⟨#[]⟩] 23)).drewN nq = W9
    intro HT9
    have q1 : W9.cell? ⟨gb, 1, none⟩ = some (.slice A8 2 c8) := (blk_cell HT9.out.1.2.1 1).trans (by rw [hA8]; rfl)
    have hk0 := run_look1 r 1 0 0 2 0 0 (.agg #[.int .i64 0, .int .i64 0, .string s]) W9 HT9.out.2.2.2.2.2.1
    rw [if_neg (by decide)] at hk0
    rw [rounds_succ]
    go_wp2
    go_quiet (fail)
    go_wp2
    have HT10 := Aside0.mk (HT9.out.below (pw_below_drewN (below_alloc (Below.refl W9.heap.size W9) (.cells #[.int .i64 0, .int .i64 0, .string ⟨#[]⟩] 23)) nq))
    clear q1 hk0 HT9
    revert HT10
    generalize (W9.alloc (.cells #[.int .i64 0, .int .i64 0, .string ⟨#[]⟩] 23)).drewN nq = W10
    intro HT10
    have q1 : W10.cell? ⟨gb, 1, none⟩ = some (.slice A8 2 c8) := (blk_cell HT10.out.1.2.1 1).trans (by rw [hA8]; rfl)
    rw [rounds_succ]
    go_wp2
    clear q1
    rw [rounds_succ]
    go_wp2
    refine wp_loop_rounds 2 ?_
    have q1 : W10.cell? ⟨gb, 2, none⟩ = some (.slice none 0 0) := (blk_cell HT10.out.1.2.1 2).trans rfl
    have hk0 := run_look1 r 1 0 1 0 0 0 (.agg #[.int .i64 0, .int .i64 0, .string s]) W10 HT10.out.2.2.2.2.2.1
    rw [if_neg (by decide)] at hk0
    rw [rounds_succ]
    go_wp2
    go_quiet (fail)
    go_wp2
    have HT11 := Aside0.mk (HT10.out.below (pw_below_drewN (below_alloc (Below.refl W10.heap.size W10) (.cells #[.int .i64 0, .int .i64 0, .string ⟨#[]⟩] 23)) nq))
    clear q1 hk0 HT10
    revert HT11
    generalize (W10.alloc (.cells #[.int .i64 0, .int .i64 0, .string ⟨#[]⟩] 23)).drewN nq = W11
    intro HT11
    have q1 : W11.cell? ⟨gb, 2, none⟩ = some (.slice none 0 0) := (blk_cell HT11.out.1.2.1 2).trans rfl
    rw [rounds_succ]
    go_wp2
    clear q1
    have p0 : W11.cell? ⟨w.heap.size, 0, none⟩ = some (.int .i64 1) := (blk_cell HT11.out.2.1 0).trans rfl
    have p1 := blk_frozen HT11.out.2.1 0
    have p2 : W11.cell? ⟨w.heap.size + 1, 0, none⟩ = some (.int .i64 0) := (blk_cell HT11.out.2.2.1 0).trans rfl
    have p3 := blk_frozen HT11.out.2.2.1 0
    rw [rounds_succ]
    go_wp2
    have g1 := HT11.out.2.1
    have g2 := HT11.out.2.2.1
    have hkp : Kp (fun i => i = w.heap.size ∨ i = w.heap.size + 1) W11 ((W11.setCell ⟨w.heap.size, 0, none⟩ (.int .i64 1)).setCell ⟨w.heap.size + 1, 0, none⟩ (.int .i64 0)) := ((Kp.refl _ W11).setCell (p := ⟨w.heap.size, 0, none⟩) (.inl (.inl rfl)) _).setCell (p := ⟨w.heap.size + 1, 0, none⟩) (.inl (.inr rfl)) _
    have HF := Aside0.mk (HT11.out.1.kp hkp (fun i hi => hi.elim (fun e => ⟨_, e ▸ g1, Out.cells (by decide) (by decide) (by decide) (by decide) (by decide)⟩) (fun e => ⟨_, e ▸ g2, Out.cells (by decide) (by decide) (by decide) (by decide) (by decide)⟩)))
    have HG := Aside0.mk (HT11.out.2.2.2.1.trans (hkp.to_below (fun i hi => hi.elim (fun e => e ▸ hbase) (fun e => e ▸ Nat.le_trans hbase (Nat.le_succ _))) HT11.out.2.2.2.2.1))
    have v1 : (W11.setCell ⟨w.heap.size, 0, none⟩ (.int .i64 1)).heap[w.heap.size]? = some (.cells #[.int .i64 1] 3 (0, 0)) := by rw [blk_set g1]; rfl
    have v2 : (W11.setCell ⟨w.heap.size, 0, none⟩ (.int .i64 1)).heap[w.heap.size + 1]? = some (.cells #[.int .i64 0] 28 (0, 0)) := (Below.heap_setCell _ _ _ _ (by simp)).trans g2
    have hc1 : ((W11.setCell ⟨w.heap.size, 0, none⟩ (.int .i64 1)).setCell ⟨w.heap.size + 1, 0, none⟩ (.int .i64 0)).cell? ⟨w.heap.size, 0, none⟩ = some (.int .i64 1) := (blk_cell ((Below.heap_setCell _ _ _ _ (by simp)).trans v1) 0).trans rfl
    have hc2 : ((W11.setCell ⟨w.heap.size, 0, none⟩ (.int .i64 1)).setCell ⟨w.heap.size + 1, 0, none⟩ (.int .i64 0)).cell? ⟨w.heap.size + 1, 0, none⟩ = some (.int .i64 0) := (blk_cell (blk_set v2 0 _) 0).trans rfl
    clear g1 g2 hkp v1 v2 p0 p1 p2 p3 HT11
    revert HF HG hc1 hc2
    generalize (W11.setCell ⟨w.heap.size, 0, none⟩ (.int .i64 1)).setCell ⟨w.heap.size + 1, 0, none⟩ (.int .i64 0) = WF
    intro HF HG hc1 hc2
    refine leaves_cons (f := 108) (args := #[.pointer (some ⟨w.heap.size + 1, 0, none⟩)]) (by simp) (by simp [go_sem]) ?_
    refine (caught_idle _ _).mono ?_
    rintro e u' w'' ⟨rfl, rfl, rfl⟩
    refine leaves_cons (f := 114) (args := #[.pointer (some ⟨w.heap.size + 1, 0, none⟩), .pointer (some ⟨w.heap.size, 0, none⟩)]) (by simp [settle]) (by simp [go_sem]) ?_
    refine (take1_idle _ _ _ hc2).mono ?_
    rintro e u' w'' ⟨rfl, rfl, rfl⟩
    refine ⟨_, ?_, rfl, e1, HF.out, HG.out⟩
    simp [results, Try.results62, go_sem, hc1, hc2]
end Go.Proofs.Ytkedodmlbepfnaa.Lg

-- from the working text Al
set_option linter.unusedSimpArgs false
set_option linter.unusedVariables false
namespace Go.Proofs.Ytkedodmlbepfnaa.Lg
open Go.RowKit Go.Proofs.YtkedodmlbepfnaaW.PrintWords Go.Proofs.YtkedodmlbepfnaaW.PrintLast Go.Proofs.YtkedodmlbepfnaaW.PrintMore Go.Proofs.Ytkedodmlbepfnaa.Rg
set_option maxHeartbeats 8000000 in
set_option maxRecDepth 100000 in
theorem all_calls (w : World) (S : Nat → Prop) (gb gd : Nat) (e0 : Value) (used f : Int) (nE : Nat) (xs : List Value) (hb : BookAt w gb gd e0 used f) (ho : Own w S 23 3 e0 nE xs) (hn1 : 1 ≤ nE) (hn : nE ≤ 60) (h1 : ∀ u ∈ xs, u.oneCell' = true) :
    Calls Try.prog 63 #[.pointer (some ⟨gb, 0, none⟩)] w fun e w' => ∃ v, e = .returned v ∧ w'.ownsRow w.heap.size 23 3 v nE xs ∧ Below w.heap.size w w' := by
  have HB := Aside0.mk hb
  obtain ⟨gE, c, cur, rfl, hSE, hcur, hnc, hc63, hcs, htk⟩ := ho.form hn1
  have c0 : w.cell? ⟨gb, 0, none⟩ = some (.int .i64 2) := (blk_cell hb 0).trans rfl
  have c1 : w.cell? ⟨gb, 1, none⟩ = some (.slice (some ⟨gE, 0, none⟩) nE c) := (blk_cell hb 1).trans rfl
  have hlen := ho.1.1
  have hnews : ∀ j u, xs[j]? = some u → w.cell? ((⟨gE, 0, none⟩ : Addr).add j) = some u := by
    intro j u hu
    rw [Addr.add_mid, Nat.zero_add, blk_cell hcur j]
    rw [← htk, List.getElem?_take] at hu
    split at hu
    · rw [← Array.getElem?_toList]; exact hu
    · cases hu
  obtain ⟨i0, hi, hz0, hz1, hz2⟩ := info_parts info23
  clear hb ho hcur htk
  go_enter Try.func63, Try.ntmps63
  go_wp2
  refine wp_loop_rounds 3 ?_
  rw [rounds_succ]
  go_wp2_with (at_builtin; refine wpList_append_own _ rfl _ _ 24 rfl w.heap.size 23 i0 _ 3 32 Try.underlying24 hi hz0 hz1 hz2 rfl (by decide) _ _ _ rfl (own_nil w w.heap.size 23 3) ⟨gE, 0, none⟩ nE c xs rfl hlen hnews h1 ?q1 ?q2 (Nat.le_refl _) ?_; (case q1 => simp only [maxLen]; omega); (case q2 => omega); intro v1 w1 hown hg _)
  have hbw : Below w.heap.size w w1 := ⟨hg.os, hg.tape, hg.output, hg.size, fun k hk => hg.block k hk (by simp [Act.eval, Value.ownBlock])⟩
  have c2 : w1.cell? ⟨gb, 2, none⟩ = some (.slice none 0 0) := (blk_cell (HB.out.below hbw) 2).trans rfl
  rw [Nat.zero_add, List.nil_append] at hown
  have HOwn := Aside0.mk hown
  have HBw := Aside0.mk hbw
  clear hg hown hbw c0 c1 hnews hlen
  rw [rounds_succ]
  go_wp2_with (at_builtin; refine wpList_append_own_none rfl _ _ 24 rfl w.heap.size 23 i0 3 Try.underlying24 hi _ _ _ rfl HOwn.out rfl ?_)
  rw [rounds_succ]
  go_wp2
  go_ret
  exact ⟨_, rfl, HOwn.out, HBw.out⟩
end Go.Proofs.Ytkedodmlbepfnaa.Lg

-- from the working text Ex
set_option linter.unusedSimpArgs false
set_option linter.unusedVariables false
namespace Go.Proofs.Ytkedodmlbepfnaa.Lg
open Go.RowKit Go.Proofs.YtkedodmlbepfnaaW.PrintWords Go.Proofs.YtkedodmlbepfnaaW.PrintLast Go.Proofs.YtkedodmlbepfnaaW.PrintMore Go.Proofs.Ytkedodmlbepfnaa.Rg
/-- The error of an entry. -/
def errE (e : S23) : Int := if Valid e then 0 else 90
theorem errE_f (e : S23) : ledger_CheckEntry.f e.f0 e.f1 e.f2 = some (errE e) := by
  unfold ledger_CheckEntry.f errE
  by_cases hv : Valid e
  · have hv2 := hv
    unfold Valid at hv2
    rw [if_pos hv, if_neg (by omega), if_neg (by omega), if_neg (by omega), if_neg (by omega), if_neg (by omega)]
  · have hv2 := hv
    unfold Valid at hv2
    rw [if_neg hv]
    repeat' split
    all_goals first | rfl | (exfalso; omega)
theorem errE_rf (e : S23) : acreageref09_CheckEntry.f e.f0 e.f1 e.f2 = some (errE e) := errE_f e
theorem checkE_calls (e : S23) (w : World) : Calls Try.prog 16 #[.agg #[.int .i64 e.f0, .int .i64 e.f1, .string e.f2]] w fun x w' => x = .returned (.int .i64 (errE e)) ∧ Below w.heap.size w w' := ledger_CheckEntry.calls _ _ _ _ w (errE_f e)
/-- The error of a list. -/
def errL (l : List S23) : Int := if 512 < l.length then 2 else if ∀ e ∈ l, Valid e then 0 else 90
theorem errL_len {l : List S23} (h : errL l = 0) : l.length ≤ 512 := by
  unfold errL at h
  split at h
  · cases h
  · omega
theorem errL_valid {l : List S23} (h : errL l = 0) : ∀ e ∈ l, Valid e := by
  unfold errL at h
  split at h
  · cases h
  · split at h
    · assumption
    · cases h
theorem rd_T23_get {l : List S23} {j : Nat} (h : j < l.length) : rd_T23 l (j : Int) = l[j] := by simp [rd_T23, List.getD_eq_getElem?_getD, h]
theorem checkL_l0 (l : List S23) (hn : l.length ≤ 9223372036854775806) : ∀ (d j k : Nat), l.length - j = d → j ≤ l.length → d < k → ledger_checkList.l0 k l (l.length : Int) (j : Int) = some (if ∀ e ∈ l.drop j, Valid e then 0 else 90)
  | 0, j, k, hd, hj, hk => by
    obtain ⟨k, rfl⟩ : ∃ m, k = m + 1 := ⟨k - 1, by omega⟩
    have : j = l.length := by omega
    subst this
    simp [ledger_checkList.l0]
  | d + 1, j, k, hd, hj, hk => by
    obtain ⟨k, rfl⟩ : ∃ m, k = m + 1 := ⟨k - 1, by omega⟩
    have hlt : j < l.length := by omega
    rw [ledger_checkList.l0, if_pos (by omega), if_pos (by omega), if_pos (by omega), rd_T23_get hlt, errE_f, Option.bind_some, w64_succ (n := l.length) (by omega) (by omega) (by omega), List.drop_eq_getElem_cons hlt]
    by_cases hv : Valid l[j]
    · rw [show errE l[j] = 0 from if_pos hv, if_pos rfl]
      have ih := checkL_l0 l hn d (j + 1) k (by omega) (by omega) (by omega)
      rw [show ((j : Int) + 1) = ((j + 1 : Nat) : Int) by omega, ih]
      congr 1
      by_cases ha : ∀ e ∈ l.drop (j + 1), Valid e
      · rw [if_pos ha, if_pos (fun e he => (List.mem_cons.1 he).elim (fun h => h ▸ hv) (ha e))]
      · rw [if_neg ha, if_neg (fun h => ha fun e he => h e (List.mem_cons_of_mem _ he))]
    · rw [show errE l[j] = 90 from if_neg hv, if_neg (by decide), if_neg (fun h => hv (h _ List.mem_cons_self))]
theorem rcheckL_l0 (l : List S23) (hn : l.length ≤ 9223372036854775806) : ∀ (d j k : Nat), l.length - j = d → j ≤ l.length → d < k → acreageref09_check.l0 k l (j : Int) = some (if ∀ e ∈ l.drop j, Valid e then 0 else 90)
  | 0, j, k, hd, hj, hk => by
    obtain ⟨k, rfl⟩ : ∃ m, k = m + 1 := ⟨k - 1, by omega⟩
    have : j = l.length := by omega
    subst this
    simp [acreageref09_check.l0]
  | d + 1, j, k, hd, hj, hk => by
    obtain ⟨k, rfl⟩ : ∃ m, k = m + 1 := ⟨k - 1, by omega⟩
    have hlt : j < l.length := by omega
    rw [acreageref09_check.l0, if_pos (by omega), if_pos (by omega), rd_T23_get hlt, errE_rf, Option.bind_some, w64_succ (n := l.length) (by omega) (by omega) (by omega), List.drop_eq_getElem_cons hlt]
    by_cases hv : Valid l[j]
    · rw [show errE l[j] = 0 from if_pos hv, if_pos rfl]
      have ih := rcheckL_l0 l hn d (j + 1) k (by omega) (by omega) (by omega)
      rw [show ((j : Int) + 1) = ((j + 1 : Nat) : Int) by omega, ih]
      congr 1
      by_cases ha : ∀ e ∈ l.drop (j + 1), Valid e
      · rw [if_pos ha, if_pos (fun e he => (List.mem_cons.1 he).elim (fun h => h ▸ hv) (ha e))]
      · rw [if_neg ha, if_neg (fun h => ha fun e he => h e (List.mem_cons_of_mem _ he))]
    · rw [show errE l[j] = 90 from if_neg hv, if_neg (by decide), if_neg (fun h => hv (h _ List.mem_cons_self))]
theorem checkL_f (l : List S23) : ledger_checkList.f 514 l = some (errL l) := by
  unfold ledger_checkList.f errL
  by_cases h : 512 < l.length
  · rw [if_pos (by omega), if_pos h]
  · rw [if_neg (by omega), if_neg h]
    exact checkL_l0 l (by omega) l.length 0 514 (by omega) (by omega) (by omega)
theorem rcheckL_f (l : List S23) : acreageref09_check.f 514 l = some (errL l) := by
  unfold acreageref09_check.f errL
  by_cases h : 512 < l.length
  · rw [if_pos (by omega), if_pos h]
  · rw [if_neg (by omega), if_neg h]
    exact rcheckL_l0 l (by omega) l.length 0 514 (by omega) (by omega) (by omega)
theorem checkL_calls (l : List S23) (A : Option Addr) (c : Nat) (w : World) (hr0 : Kd.C k23 w A l.length l) (hc0 : l.length ≤ c) : Calls Try.prog 68 #[.slice A l.length c] w fun x w' => x = .returned (.int .i64 (errL l)) ∧ Below w.heap.size w w' := ledger_checkList.calls _ A c l _ w hr0 hc0 (checkL_f l)
theorem rcheckL_calls (l : List S23) (A : Option Addr) (c : Nat) (w : World) (hr0 : Kd.C k23 w A l.length l) (hc0 : l.length ≤ c) : Calls Try.prog 70 #[.slice A l.length c] w fun x w' => x = .returned (.int .i64 (errL l)) ∧ Below w.heap.size w w' := acreageref09_check.calls _ A c l _ w hr0 hc0 (rcheckL_f l)
set_option maxHeartbeats 4000000 in
set_option maxRecDepth 100000 in
theorem leafX_calls (e : S23) (w : World) : Calls Try.prog 12 #[.agg #[.int .i64 e.f0, .int .i64 e.f1, .string e.f2]] w fun x w' => x = .returned (.tuple #[.int .u64 (if Valid e then leafS e else 0), .int .i64 (errE e)]) ∧ Below w.heap.size w w' := by
  have hB1 : Below w.heap.size w (w.alloc (.cells #[.int .i64 e.f0, .int .i64 e.f1, .string e.f2] 23)) := below_alloc (Below.refl _ _) _
  have HX := Aside0.mk (blk_new w (.cells #[.int .i64 e.f0, .int .i64 e.f1, .string e.f2] 23))
  have HBe := Aside0.mk hB1
  clear hB1
  by_cases h : Valid e
  · have he : errE e = 0 := if_pos h
    have HV := Aside0.mk h
    have hv5 : e.f2.size ≤ 2400 := h.2.2.2.2
    rw [if_pos h]
    clear h
    go_enter Try.func12, Try.ntmps12
    go_wp2_with (first
      | (go_at_call 16; (with_reducible refine (checkE_calls e _).mono ?_); rintro x w1 ⟨rfl, hb⟩; rw [he]; have n3_ := Aside0.mk ((hb.block _ (blk_lt HX.out)).trans HX.out); have n4_ := Aside0.mk (HBe.out.trans (hb.mono HBe.out.size)); clear HX HBe hb; have HX := n3_; have HBe := n4_; clear n3_ n4_; have x0 := (blk_cell HX.out 0).trans rfl; have x1 := (blk_cell HX.out 1).trans rfl; have x2 := (blk_cell HX.out 2).trans rfl)
      | (go_at_call 66; (with_reducible refine (leaf_spec e hv5 _).mono ?_); rintro x w1 ⟨rfl, hb⟩; have n4_ := Aside0.mk (HBe.out.trans (hb.mono HBe.out.size)); clear HX HBe hb; have HBe := n4_; clear n4_))
    go_ret2
    exact ⟨by rw [he]; rfl, HBe.out⟩
  · have he : errE e = 90 := if_neg h
    rw [if_neg h]
    clear h
    go_enter Try.func12, Try.ntmps12
    go_wp2_with (go_at_call 16; (with_reducible refine (checkE_calls e _).mono ?_); rintro x w1 ⟨rfl, hb⟩; rw [he]; have n4_ := Aside0.mk (HBe.out.trans (hb.mono HBe.out.size)); clear HX HBe hb; have HBe := n4_; clear n4_)
    go_ret2
    exact ⟨by rw [he]; rfl, HBe.out⟩
set_option maxHeartbeats 4000000 in
set_option maxRecDepth 100000 in
theorem rootX_calls (l : List S23) (A : Option Addr) (c : Nat) (w : World) (hr0 : Kd.C k23 w A l.length l) (hc0 : l.length ≤ c) : Calls Try.prog 14 #[.slice A l.length c] w fun x w' => x = .returned (.tuple #[.int .u64 (if errL l = 0 then rootS l else 0), .int .i64 (errL l)]) ∧ Below w.heap.size w w' := by
  have HR := Aside0.mk hr0
  have HBe := Aside0.mk (Below.refl w.heap.size w)
  clear hr0
  by_cases h : errL l = 0
  · have HL := Aside0.mk (errL_len h)
    have HV := Aside0.mk (errL_valid h)
    rw [if_pos h]
    go_enter Try.func14, Try.ntmps14
    go_wp2_with (first
      | (go_at_call 68; (with_reducible refine (checkL_calls l A c _ HR.out hc0).mono ?_); rintro x w1 ⟨rfl, hb⟩; rw [h]; have n3_ := Aside0.mk (Kd.C_below HR.out hb); have n4_ := Aside0.mk (HBe.out.trans hb); clear HR HBe hb; have HR := n3_; have HBe := n4_; clear n3_ n4_)
      | (go_at_call 69; (with_reducible refine (root_calls l.length l l.length A c _ rfl (Nat.le_refl _) HR.out hc0 HL.out HV.out).mono ?_); rintro x w1 ⟨rfl, hb⟩; have n4_ := Aside0.mk (HBe.out.trans (hb.mono HBe.out.size)); clear HBe hb; have HBe := n4_; clear n4_))
    go_ret2
    exact ⟨by rw [h]; rfl, HBe.out⟩
  · rw [if_neg h]
    have hb0 : ((errL l) == 0) = false := by rw [beq_eq_false_iff_ne]; exact h
    go_enter Try.func14, Try.ntmps14
    go_wp2_with (go_at_call 68; (with_reducible refine (checkL_calls l A c _ HR.out hc0).mono ?_); rintro x w1 ⟨rfl, hb⟩; have n4_ := Aside0.mk (HBe.out.trans hb); clear HR HBe hb; have HBe := n4_; clear n4_)
    go_ret2
    exact ⟨rfl, HBe.out⟩
end Go.Proofs.Ytkedodmlbepfnaa.Lg

-- from the working text Rgrown
set_option linter.unusedSimpArgs false
set_option linter.unusedVariables false
namespace Go.Proofs.Ytkedodmlbepfnaa.Lg
open Go.RowKit Go.Proofs.YtkedodmlbepfnaaW.PrintWords Go.Proofs.YtkedodmlbepfnaaW.PrintLast Go.Proofs.YtkedodmlbepfnaaW.PrintMore Go.Proofs.Ytkedodmlbepfnaa.Rg
def rgrownARel (f : Nat) (l : List S23) (A : Option Addr) (c : Nat) (i : Nat) (b : Bool) (B : Nat) : Nat → Value → World → Prop
  | 0, v, _ => v = .slice A l.length c
  | 1, v, _ => v = .int .i64 (splitS l.length : Int)
  | 2, v, _ => v = .int .i64 (splitS l.length : Int)
  | 3, v, _ => v = .slice A (splitS l.length) (splitS l.length)
  | 4, v, _ => v = .int .i64 (i : Int)
  | 5, v, _ => v = .bool b
  | 6, v, w => Nums w B v (grownF f (l.take (splitS l.length)) i b)
  | 7, v, _ => v = .slice A l.length c
  | 8, v, _ => v = .int .i64 (splitS l.length : Int)
  | 9, v, _ => v = .slice (if c = splitS l.length then A else A.map (·.add (splitS l.length * 3))) (l.length - splitS l.length) (c - splitS l.length)
  | 10, v, _ => v = .int .u64 (rootS (l.drop (splitS l.length)))
  | 11, v, w => ∃ g, v = .slice (some ⟨g, 0, none⟩) 1 1 ∧ w.cell? ⟨g, 0, none⟩ = some (.int .u64 (rootS (l.drop (splitS l.length))))
  | 12, v, w => Nums w B v (grownF f (l.take (splitS l.length)) i b ++ [rootS (l.drop (splitS l.length))])
  | 13, v, w => Nums w B v (grownF f (l.take (splitS l.length)) i b ++ [rootS (l.drop (splitS l.length))])
  | _, _, _ => True
theorem rgrownARel_stable (f : Nat) (l : List S23) (A : Option Addr) (c : Nat) (i : Nat) (b : Bool) (B : Nat) (j : Nat) (v : Value) (w w' : World) (h : rgrownARel f l A c i b B j v w) (hb : Below w.heap.size w w') : rgrownARel f l A c i b B j v w' := by
  revert h
  unfold rgrownARel
  split <;> intro h <;> first | exact h | exact Nums.below h hb | (obtain ⟨g, h1, h2⟩ := h; exact ⟨g, h1, pw_cell_below hb h2⟩)
def rgrownBRel (f : Nat) (l : List S23) (A : Option Addr) (c : Nat) (i : Nat) (b : Bool) (B : Nat) : Nat → Value → World → Prop
  | 0, v, _ => v = .slice A l.length c
  | 1, v, _ => v = .int .i64 (splitS l.length : Int)
  | 2, v, _ => v = .slice (if c = splitS l.length then A else A.map (·.add (splitS l.length * 3))) (l.length - splitS l.length) (c - splitS l.length)
  | 3, v, _ => v = .int .i64 (i : Int)
  | 4, v, _ => v = .int .i64 (splitS l.length : Int)
  | 5, v, _ => v = .int .i64 ((i : Int) - (splitS l.length : Int))
  | 6, v, w => Nums w B v (grownF f (l.drop (splitS l.length)) (i - splitS l.length) false)
  | 7, v, _ => v = .slice A l.length c
  | 8, v, _ => v = .int .i64 (splitS l.length : Int)
  | 9, v, _ => v = .int .i64 (splitS l.length : Int)
  | 10, v, _ => v = .slice A (splitS l.length) (splitS l.length)
  | 11, v, _ => v = .int .u64 (rootS (l.take (splitS l.length)))
  | 12, v, w => ∃ g, v = .slice (some ⟨g, 0, none⟩) 1 1 ∧ w.cell? ⟨g, 0, none⟩ = some (.int .u64 (rootS (l.take (splitS l.length))))
  | 13, v, w => Nums w B v (grownF f (l.drop (splitS l.length)) (i - splitS l.length) false ++ [rootS (l.take (splitS l.length))])
  | 14, v, w => Nums w B v (grownF f (l.drop (splitS l.length)) (i - splitS l.length) false ++ [rootS (l.take (splitS l.length))])
  | _, _, _ => True
theorem rgrownBRel_stable (f : Nat) (l : List S23) (A : Option Addr) (c : Nat) (i : Nat) (b : Bool) (B : Nat) (j : Nat) (v : Value) (w w' : World) (h : rgrownBRel f l A c i b B j v w) (hb : Below w.heap.size w w') : rgrownBRel f l A c i b B j v w' := by
  revert h
  unfold rgrownBRel
  split <;> intro h <;> first | exact h | exact Nums.below h hb | (obtain ⟨g, h1, h2⟩ := h; exact ⟨g, h1, pw_cell_below hb h2⟩)
set_option maxHeartbeats 8000000 in
set_option maxRecDepth 100000 in
theorem rgrown_calls : ∀ (f : Nat) (l : List S23) (n : Nat) (A : Option Addr) (c : Nat) (i : Nat) (b : Bool) (w : World), n = l.length → n ≤ f → f ≤ 512 → 1 ≤ n → Kd.C k23 w A n l → n ≤ c → n ≤ 512 → (∀ e ∈ l, Valid e) → 1 ≤ i → i ≤ n →
    Calls Try.prog 81 #[.slice A n c, .int .i64 (i : Int), .bool b] w fun e w' => ∃ v, e = .returned v ∧ Nums w' w.heap.size v (grownF f l i b) ∧ Below w.heap.size w w' := by
  intro f
  induction f with
  | zero => intro l n A c i b w hn hf hf5 h1; omega
  | succ f ih0 =>
    intro l n A c i b w hn hf hf5 h1 hr0 hc0 h5 hv0 hi1 hin
    subst hn
    have hr := Aside0.mk hr0
    have hc := Aside0.mk hc0
    have hv := Aside0.mk hv0
    have ih := ih0
    clear hr0 hc0 hv0 ih0
    have hf1 : l.length ≤ f + 1 := hf
    clear hf
    by_cases c1 : i = l.length
    · cases b with
      | true =>
        have hE := Aside0.mk (show grownF (f + 1) l i true = [] by rw [grownF, if_pos c1, if_pos rfl])
        have c1b : ((i : Int) == (l.length : Int)) = true := by rw [beq_iff_eq]; omega
        clear c1 hf1 h5 ih hr hv hin h1
        go_enter Try.func81, Try.ntmps81
        go_wp2
        go_ret
        exact ⟨_, rfl, by rw [hE.out]; exact Nums.nil _ _, (by repeat (first | exact Below.refl _ _ | apply below_drew | apply pw_below_drewN))⟩
      | false =>
        have hE := Aside0.mk (show grownF (f + 1) l i false = [rootS l] by rw [grownF, if_pos c1, if_neg (by simp)])
        have c1b : ((i : Int) == (l.length : Int)) = true := by rw [beq_iff_eq]; omega
        clear c1 hin h1
        go_enter Try.func81, Try.ntmps81
        go_wp2_with (go_at_call 71; (with_reducible refine (rroot_calls l.length l l.length A c _ rfl (Nat.le_refl _) hr.out hc.out h5 hv.out).mono ?_); rintro e w' ⟨rfl, hb⟩; have HB := Aside0.mk hb; clear hb)
        go_ret
        exact ⟨_, rfl, by rw [hE.out]; exact Nums.lit1 _ _ HB.out.size _, below_alloc HB.out _⟩
    · have c1b : ((i : Int) == (l.length : Int)) = false := by rw [beq_eq_false_iff_ne]; omega
      have h2 : 2 ≤ l.length := by omega
      have s1 := split_lt h2
      have s2 := split_pos l.length
      have s3 := split_le h2
      by_cases hk : i ≤ splitS l.length
      · have hE := Aside0.mk (show grownF (f + 1) l i b = _ by rw [grownF, if_neg c1, if_pos hk])
        have hkb : decide ((i : Int) ≤ (splitS l.length : Int)) = true := by simp; omega
        have hkn : decide (i ≤ splitS l.length) = true := by simp; omega
        clear c1
        go_enter Try.func81, Try.ntmps81
        go_wp2_with (go_at_call 105; (with_reducible refine (rsplit_any l.length h2 h5 _).mono ?_); rintro e w' ⟨rfl, ⟨nd, rfl⟩⟩)
        obtain ⟨i0, hi0, hi1x, hi2, _⟩ := info_parts info23
        generalize hW : w.drewN nd = W
        have hbW : Below w.heap.size w W := by rw [← hW]; exact pw_below_drewN (Below.refl _ _) nd
        have hr' := Aside0.mk (Kd.C_below hr.out hbW)
        clear hr
        have hr := hr'
        clear hr' hW
        · refine rg2_ 12 [0, 1, 2, 3, 4, 5, 6, 7, 8, 9, 10, 11, 12, 13] [(0, 22), (1, 23), (2, 24), (3, 25), (4, 26), (5, 27), (6, 28), (7, 29), (8, 30), (9, 31), (10, 32), (11, 33), (12, 34), (13, 6)] (bitsOf (rtab .any (opsOf Try.f81 7)).2) (rgrownARel f l A c i b W.heap.size) (by kernel_rfl) rfl (by kernel_rfl) rfl (by kernel_rfl) ?stab ?steps ?rend
          case steps =>
            refine steps2_cons (by decide) (fun a1 w1 hB hsz hdf hn hd => ⟨_, rfl, fun K hK => ?_⟩) ?_
            · have e0 := eval_of ((hn 0 rfl).trans rfl)
              refine value_ (v := .slice A l.length c) (w1 := w1) rfl rfl ?_ (hK _ _ (Below.refl _ _) rfl)
              clear hd hn hK
              simp only [execOp, Option.map_some, Option.map_none, List.map_toArray, List.map_cons, List.map_nil, List.getElem_toArray, List.getElem_cons_zero, List.getElem_cons_succ, e0]
              clear e0
              go_simp
            refine steps2_cons (by decide) (fun a1 w1 hB hsz hdf hn hd => ⟨_, rfl, fun K hK => ?_⟩) ?_
            · have e7 := eval_of ((hn 7 rfl).trans rfl)
              refine value_ (v := .int .i64 (splitS l.length : Int)) (w1 := w1) rfl rfl ?_ (hK _ _ (Below.refl _ _) rfl)
              clear hd hn hK
              simp only [execOp, Option.map_some, Option.map_none, List.map_toArray, List.map_cons, List.map_nil, List.getElem_toArray, List.getElem_cons_zero, List.getElem_cons_succ, e7]
              clear e7
              go_simp
            refine steps2_cons (by decide) (fun a1 w1 hB hsz hdf hn hd => ⟨_, rfl, fun K hK => ?_⟩) ?_
            · have e7 := eval_of ((hn 7 rfl).trans rfl)
              refine value_ (v := .int .i64 (splitS l.length : Int)) (w1 := w1) rfl rfl ?_ (hK _ _ (Below.refl _ _) rfl)
              clear hd hn hK
              simp only [execOp, Option.map_some, Option.map_none, List.map_toArray, List.map_cons, List.map_nil, List.getElem_toArray, List.getElem_cons_zero, List.getElem_cons_succ, e7]
              clear e7
              go_simp
            refine steps2_cons (by decide) (fun a1 w1 hB hsz hdf hn hd => ⟨_, rfl, fun K hK => ?_⟩) ?_
            · obtain ⟨v22, h22, rfl⟩ := hd 0 22 rfl (by kernel_rfl)
              have e22 := eval_of h22
              clear h22
              obtain ⟨v23, h23, rfl⟩ := hd 1 23 rfl (by kernel_rfl)
              have e23 := eval_of h23
              clear h23
              obtain ⟨v24, h24, rfl⟩ := hd 2 24 rfl (by kernel_rfl)
              have e24 := eval_of h24
              clear h24
              refine value_ (v := .slice A (splitS l.length) (splitS l.length)) (w1 := w1) rfl rfl ?_ (hK _ _ (Below.refl _ _) rfl)
              clear hd hn hK
              simp only [execOp, Option.map_some, Option.map_none, List.map_toArray, List.map_cons, List.map_nil, List.getElem_toArray, List.getElem_cons_zero, List.getElem_cons_succ, e22, e23, e24]
              clear e22 e23 e24
              have hq := cut_to3 24 23 .i64 .i64 Try.underlying24 hi0 A l.length c (splitS l.length) (by have := hc.out; omega) w1
              try simp only [Int.toNat_natCast] at hq
              clear hr hc hv ih hE hB
              go_simp
            refine steps2_cons (by decide) (fun a1 w1 hB hsz hdf hn hd => ⟨_, rfl, fun K hK => ?_⟩) ?_
            · have e1 := eval_of ((hn 1 rfl).trans rfl)
              refine value_ (v := .int .i64 (i : Int)) (w1 := w1) rfl rfl ?_ (hK _ _ (Below.refl _ _) rfl)
              clear hd hn hK
              simp only [execOp, Option.map_some, Option.map_none, List.map_toArray, List.map_cons, List.map_nil, List.getElem_toArray, List.getElem_cons_zero, List.getElem_cons_succ, e1]
              clear e1
              go_simp
            refine steps2_cons (by decide) (fun a1 w1 hB hsz hdf hn hd => ⟨_, rfl, fun K hK => ?_⟩) ?_
            · have e2 := eval_of ((hn 2 rfl).trans rfl)
              refine value_ (v := .bool b) (w1 := w1) rfl rfl ?_ (hK _ _ (Below.refl _ _) rfl)
              clear hd hn hK
              simp only [execOp, Option.map_some, Option.map_none, List.map_toArray, List.map_cons, List.map_nil, List.getElem_toArray, List.getElem_cons_zero, List.getElem_cons_succ, e2]
              clear e2
              go_simp
            refine steps2_cons (by decide) (fun a1 w1 hB hsz hdf hn hd => ⟨_, rfl, fun K hK => ?_⟩) ?_
            · obtain ⟨v25, h25, rfl⟩ := hd 3 25 rfl (by kernel_rfl)
              have e25 := eval_of h25
              clear h25
              obtain ⟨v26, h26, rfl⟩ := hd 4 26 rfl (by kernel_rfl)
              have e26 := eval_of h26
              clear h26
              obtain ⟨v27, h27, rfl⟩ := hd 5 27 rfl (by kernel_rfl)
              have e27 := eval_of h27
              clear h27
              refine goes_ Try.func81 (by kernel_rfl) rfl #[.slice A (splitS l.length) (splitS l.length), .int .i64 (i : Int), .bool b] (by rfl) rfl rfl (by simp only [List.map_toArray, List.map_cons, List.map_nil, e25, e26, e27]) ?_
              have hl1 : (l.take (splitS l.length)).length = splitS l.length := by rw [List.length_take]; omega
              have hC := Kd.C_below (Kd.C_take hr.out (m := splitS l.length) (by omega)) hB
              rw [hl1] at hC
              refine (ih (l.take (splitS l.length)) _ _ _ i b w1 hl1.symm (by omega) (by omega) (by omega) hC (by have := hc.out; omega) (by omega) (fun e he => hv.out e (List.mem_of_mem_take he)) (by omega) (by omega)).mono ?_
              rintro e w2 ⟨v, rfl, hN, hbw⟩
              exact ⟨_, rfl, hK _ _ hbw (Nums.mono hN hB.size)⟩
            refine steps2_cons (by decide) (fun a1 w1 hB hsz hdf hn hd => ⟨_, rfl, fun K hK => ?_⟩) ?_
            · have e0 := eval_of ((hn 0 rfl).trans rfl)
              refine value_ (v := .slice A l.length c) (w1 := w1) rfl rfl ?_ (hK _ _ (Below.refl _ _) rfl)
              clear hd hn hK
              simp only [execOp, Option.map_some, Option.map_none, List.map_toArray, List.map_cons, List.map_nil, List.getElem_toArray, List.getElem_cons_zero, List.getElem_cons_succ, e0]
              clear e0
              go_simp
            refine steps2_cons (by decide) (fun a1 w1 hB hsz hdf hn hd => ⟨_, rfl, fun K hK => ?_⟩) ?_
            · have e7 := eval_of ((hn 7 rfl).trans rfl)
              refine value_ (v := .int .i64 (splitS l.length : Int)) (w1 := w1) rfl rfl ?_ (hK _ _ (Below.refl _ _) rfl)
              clear hd hn hK
              simp only [execOp, Option.map_some, Option.map_none, List.map_toArray, List.map_cons, List.map_nil, List.getElem_toArray, List.getElem_cons_zero, List.getElem_cons_succ, e7]
              clear e7
              go_simp
            refine steps2_cons (by decide) (fun a1 w1 hB hsz hdf hn hd => ⟨_, rfl, fun K hK => ?_⟩) ?_
            · obtain ⟨v29, h29, rfl⟩ := hd 7 29 rfl (by kernel_rfl)
              have e29 := eval_of h29
              clear h29
              obtain ⟨v30, h30, rfl⟩ := hd 8 30 rfl (by kernel_rfl)
              have e30 := eval_of h30
              clear h30
              refine value_ (v := .slice (if c = splitS l.length then A else A.map (·.add (splitS l.length * 3))) (l.length - splitS l.length) (c - splitS l.length)) (w1 := w1) rfl rfl ?_ (hK _ _ (Below.refl _ _) rfl)
              clear hd hn hK
              simp only [execOp, Option.map_some, Option.map_none, List.map_toArray, List.map_cons, List.map_nil, List.getElem_toArray, List.getElem_cons_zero, List.getElem_cons_succ, e29, e30]
              clear e29 e30
              have hq := cut_from 24 23 .i64 Try.underlying24 hi0 3 hi2 A l.length c (splitS l.length : Int) (by omega) (by omega) w1
              try simp only [Int.toNat_natCast] at hq
              clear hr hc hv ih hE hB
              go_simp
            refine steps2_cons (by decide) (fun a1 w1 hB hsz hdf hn hd => ⟨_, rfl, fun K hK => ?_⟩) ?_
            · obtain ⟨v31, h31, rfl⟩ := hd 9 31 rfl (by kernel_rfl)
              have e31 := eval_of h31
              clear h31
              refine goes_ Try.func71 (by kernel_rfl) rfl #[.slice (if c = splitS l.length then A else A.map (·.add (splitS l.length * 3))) (l.length - splitS l.length) (c - splitS l.length)] (by rfl) rfl rfl (by simp only [List.map_toArray, List.map_cons, List.map_nil, e31]) ?_
              have hl1 : (l.drop (splitS l.length)).length = l.length - splitS l.length := by rw [List.length_drop]
              have hC := Kd.C_below (Kd.C_drop hr.out (m := splitS l.length) (by omega) hc.out) hB
              rw [hl1] at hC
              refine (rroot_calls (l.drop (splitS l.length)).length (l.drop (splitS l.length)) _ _ _ w1 hl1.symm (by omega) hC (by have := hc.out; omega) (by omega) (fun e he => hv.out e (List.mem_of_mem_drop he))).mono ?_
              rintro e w2 ⟨rfl, hbw⟩
              exact ⟨_, rfl, hK _ _ hbw rfl⟩
            refine steps2_cons (by decide) (fun a1 w1 hB hsz hdf hn hd => ⟨_, rfl, fun K hK => ?_⟩) ?_
            · obtain ⟨v32, h32, rfl⟩ := hd 10 32 rfl (by kernel_rfl)
              have e32 := eval_of h32
              clear h32
              refine value_ (v := .slice (some ⟨w1.heap.size, 0, none⟩) 1 1) (w1 := w1.alloc (.cells #[.int .u64 (rootS (l.drop (splitS l.length)))] 25)) rfl rfl ?_ (hK _ _ (below_alloc (Below.refl _ _) _) ⟨_, rfl, by simp⟩)
              clear hd hn hK
              simp only [execOp, Option.map_some, Option.map_none, List.map_toArray, List.map_cons, List.map_nil, List.getElem_toArray, List.getElem_cons_zero, List.getElem_cons_succ, e32]
              clear e32
              go_simp
            refine steps2_late (by decide) (fun a1 w1 hB hsz hdf hn hd => ⟨_, rfl, fun K hK => ?_⟩) ?_
            · obtain ⟨v28, h28, q28⟩ := hd 6 28 rfl (by kernel_rfl)
              have hN : Nums w1 W.heap.size v28 (grownF f (l.take (splitS l.length)) i b) := q28 (.inl rfl)
              obtain ⟨v33, h33, q33⟩ := hd 11 33 rfl (by kernel_rfl)
              obtain ⟨g, rfl, hcg⟩ := q33 (.inl rfl)
              refine append_ (y := rootS (l.drop (splitS l.length))) rfl rfl rfl (eval_of h28) (eval_of h33) hN hcg (by have := grownF_len f (l.take (splitS l.length)) i b; omega) hB.size (fun vv w2 hN2 hg => hK _ _ ?_ (.inl rfl) hN2)
              exact grown_below hB hN (Nat.le_refl _) hB.size hg
            refine steps2_late (by decide) (fun a1 w1 hB hsz hdf hn hd => ⟨_, rfl, fun K hK => ?_⟩) ?_
            · obtain ⟨v34, h34, q34⟩ := hd 12 34 rfl (by kernel_rfl)
              have e34 := eval_of h34
              refine value_ (v := v34) (w1 := w1) rfl rfl ?_ (hK _ _ hB (.inr (Below.refl _ _)) (q34 (.inr (by decide))))
              clear hd hn hK
              simp only [execOp, List.getElem_toArray, List.getElem_cons_zero, List.getElem_cons_succ, e34]
              go_simp
            exact steps2_nil
          case stab => exact fun j v w w' => rgrownARel_stable _ _ _ _ _ _ _ j v w w'
          case rend =>
            intro vals w1 hB hrr
            have hlast := hrr (13, 6) (by simp) (by decide)
            simp only [fill, Act.put, List.setIfInBounds_toArray, List.set_cons_zero, List.set_cons_succ]
            have hlast' : Nums w1 W.heap.size (vals 13) (grownF f (l.take (splitS l.length)) i b ++ [rootS (l.drop (splitS l.length))]) := hlast
            clear hlast hrr
            generalize vals 13 = vv at hlast' ⊢
            have HL := Aside0.mk hlast'
            clear hlast'
            go_wp2
            go_ret
            exact ⟨_, rfl, by rw [hE.out]; exact Nums.mono HL.out hbW.size, hbW.trans (hB.mono hbW.size)⟩
      · have hE := Aside0.mk (show grownF (f + 1) l i b = _ by rw [grownF, if_neg c1, if_neg hk])
        have hkb : decide ((i : Int) ≤ (splitS l.length : Int)) = false := by simp; omega
        have hkn : decide (i ≤ splitS l.length) = false := by simp; omega
        clear c1
        go_enter Try.func81, Try.ntmps81
        go_wp2_with (go_at_call 105; (with_reducible refine (rsplit_any l.length h2 h5 _).mono ?_); rintro e w' ⟨rfl, ⟨nd, rfl⟩⟩)
        obtain ⟨i0, hi0, hi1x, hi2, _⟩ := info_parts info23
        generalize hW : w.drewN nd = W
        have hbW : Below w.heap.size w W := by rw [← hW]; exact pw_below_drewN (Below.refl _ _) nd
        have hr' := Aside0.mk (Kd.C_below hr.out hbW)
        clear hr
        have hr := hr'
        clear hr' hW
        · refine rg2_ 13 [0, 1, 2, 3, 4, 5, 6, 7, 8, 9, 10, 11, 12, 13, 14] [(0, 35), (1, 36), (2, 37), (3, 38), (4, 39), (5, 40), (6, 41), (7, 42), (8, 43), (9, 44), (10, 45), (11, 46), (12, 47), (13, 48), (14, 6)] (bitsOf (rtab .any (opsOf Try.f81 8)).2) (rgrownBRel f l A c i b W.heap.size) (by kernel_rfl) rfl (by kernel_rfl) rfl (by kernel_rfl) ?stab ?steps ?rend
          case steps =>
            refine steps2_cons (by decide) (fun a1 w1 hB hsz hdf hn hd => ⟨_, rfl, fun K hK => ?_⟩) ?_
            · have e0 := eval_of ((hn 0 rfl).trans rfl)
              refine value_ (v := .slice A l.length c) (w1 := w1) rfl rfl ?_ (hK _ _ (Below.refl _ _) rfl)
              clear hd hn hK
              simp only [execOp, Option.map_some, Option.map_none, List.map_toArray, List.map_cons, List.map_nil, List.getElem_toArray, List.getElem_cons_zero, List.getElem_cons_succ, e0]
              clear e0
              go_simp
            refine steps2_cons (by decide) (fun a1 w1 hB hsz hdf hn hd => ⟨_, rfl, fun K hK => ?_⟩) ?_
            · have e7 := eval_of ((hn 7 rfl).trans rfl)
              refine value_ (v := .int .i64 (splitS l.length : Int)) (w1 := w1) rfl rfl ?_ (hK _ _ (Below.refl _ _) rfl)
              clear hd hn hK
              simp only [execOp, Option.map_some, Option.map_none, List.map_toArray, List.map_cons, List.map_nil, List.getElem_toArray, List.getElem_cons_zero, List.getElem_cons_succ, e7]
              clear e7
              go_simp
            refine steps2_cons (by decide) (fun a1 w1 hB hsz hdf hn hd => ⟨_, rfl, fun K hK => ?_⟩) ?_
            · obtain ⟨v35, h35, rfl⟩ := hd 0 35 rfl (by kernel_rfl)
              have e35 := eval_of h35
              clear h35
              obtain ⟨v36, h36, rfl⟩ := hd 1 36 rfl (by kernel_rfl)
              have e36 := eval_of h36
              clear h36
              refine value_ (v := .slice (if c = splitS l.length then A else A.map (·.add (splitS l.length * 3))) (l.length - splitS l.length) (c - splitS l.length)) (w1 := w1) rfl rfl ?_ (hK _ _ (Below.refl _ _) rfl)
              clear hd hn hK
              simp only [execOp, Option.map_some, Option.map_none, List.map_toArray, List.map_cons, List.map_nil, List.getElem_toArray, List.getElem_cons_zero, List.getElem_cons_succ, e35, e36]
              clear e35 e36
              have hq := cut_from 24 23 .i64 Try.underlying24 hi0 3 hi2 A l.length c (splitS l.length : Int) (by omega) (by omega) w1
              try simp only [Int.toNat_natCast] at hq
              clear hr hc hv ih hE hB
              go_simp
            refine steps2_cons (by decide) (fun a1 w1 hB hsz hdf hn hd => ⟨_, rfl, fun K hK => ?_⟩) ?_
            · have e1 := eval_of ((hn 1 rfl).trans rfl)
              refine value_ (v := .int .i64 (i : Int)) (w1 := w1) rfl rfl ?_ (hK _ _ (Below.refl _ _) rfl)
              clear hd hn hK
              simp only [execOp, Option.map_some, Option.map_none, List.map_toArray, List.map_cons, List.map_nil, List.getElem_toArray, List.getElem_cons_zero, List.getElem_cons_succ, e1]
              clear e1
              go_simp
            refine steps2_cons (by decide) (fun a1 w1 hB hsz hdf hn hd => ⟨_, rfl, fun K hK => ?_⟩) ?_
            · have e7 := eval_of ((hn 7 rfl).trans rfl)
              refine value_ (v := .int .i64 (splitS l.length : Int)) (w1 := w1) rfl rfl ?_ (hK _ _ (Below.refl _ _) rfl)
              clear hd hn hK
              simp only [execOp, Option.map_some, Option.map_none, List.map_toArray, List.map_cons, List.map_nil, List.getElem_toArray, List.getElem_cons_zero, List.getElem_cons_succ, e7]
              clear e7
              go_simp
            refine steps2_cons (by decide) (fun a1 w1 hB hsz hdf hn hd => ⟨_, rfl, fun K hK => ?_⟩) ?_
            · obtain ⟨v38, h38, rfl⟩ := hd 3 38 rfl (by kernel_rfl)
              have e38 := eval_of h38
              clear h38
              obtain ⟨v39, h39, rfl⟩ := hd 4 39 rfl (by kernel_rfl)
              have e39 := eval_of h39
              clear h39
              refine value_ (v := .int .i64 ((i : Int) - (splitS l.length : Int))) (w1 := w1) rfl rfl ?_ (hK _ _ (Below.refl _ _) rfl)
              clear hd hn hK
              simp only [execOp, Option.map_some, Option.map_none, List.map_toArray, List.map_cons, List.map_nil, List.getElem_toArray, List.getElem_cons_zero, List.getElem_cons_succ, e38, e39]
              clear e38 e39
              have hq : IntKind.i64.wrap ((i : Int) - (splitS l.length : Int)) = (i : Int) - (splitS l.length : Int) := by rw [i64_w]; unfold wrap64; omega
              clear hr hc hv ih hE hB
              go_simp
            refine steps2_cons (by decide) (fun a1 w1 hB hsz hdf hn hd => ⟨_, rfl, fun K hK => ?_⟩) ?_
            · obtain ⟨v37, h37, rfl⟩ := hd 2 37 rfl (by kernel_rfl)
              have e37 := eval_of h37
              clear h37
              obtain ⟨v40, h40, rfl⟩ := hd 5 40 rfl (by kernel_rfl)
              have e40 := eval_of h40
              clear h40
              refine goes_ Try.func81 (by kernel_rfl) rfl #[.slice (if c = splitS l.length then A else A.map (·.add (splitS l.length * 3))) (l.length - splitS l.length) (c - splitS l.length), .int .i64 ((i - splitS l.length : Nat) : Int), .bool false] (by rfl) rfl rfl (by simp only [List.map_toArray, List.map_cons, List.map_nil, e37, e40]; rw [show ((i : Int) - (splitS l.length : Int)) = ((i - splitS l.length : Nat) : Int) from by omega]; rfl) ?_
              have hl1 : (l.drop (splitS l.length)).length = l.length - splitS l.length := by rw [List.length_drop]
              have hC := Kd.C_below (Kd.C_drop hr.out (m := splitS l.length) (by omega) hc.out) hB
              rw [hl1] at hC
              refine (ih (l.drop (splitS l.length)) _ _ _ (i - splitS l.length) false w1 hl1.symm (by omega) (by omega) (by omega) hC (by have := hc.out; omega) (by omega) (fun e he => hv.out e (List.mem_of_mem_drop he)) (by omega) (by omega)).mono ?_
              rintro e w2 ⟨v, rfl, hN, hbw⟩
              exact ⟨_, rfl, hK _ _ hbw (Nums.mono hN hB.size)⟩
            refine steps2_cons (by decide) (fun a1 w1 hB hsz hdf hn hd => ⟨_, rfl, fun K hK => ?_⟩) ?_
            · have e0 := eval_of ((hn 0 rfl).trans rfl)
              refine value_ (v := .slice A l.length c) (w1 := w1) rfl rfl ?_ (hK _ _ (Below.refl _ _) rfl)
              clear hd hn hK
              simp only [execOp, Option.map_some, Option.map_none, List.map_toArray, List.map_cons, List.map_nil, List.getElem_toArray, List.getElem_cons_zero, List.getElem_cons_succ, e0]
              clear e0
              go_simp
            refine steps2_cons (by decide) (fun a1 w1 hB hsz hdf hn hd => ⟨_, rfl, fun K hK => ?_⟩) ?_
            · have e7 := eval_of ((hn 7 rfl).trans rfl)
              refine value_ (v := .int .i64 (splitS l.length : Int)) (w1 := w1) rfl rfl ?_ (hK _ _ (Below.refl _ _) rfl)
              clear hd hn hK
              simp only [execOp, Option.map_some, Option.map_none, List.map_toArray, List.map_cons, List.map_nil, List.getElem_toArray, List.getElem_cons_zero, List.getElem_cons_succ, e7]
              clear e7
              go_simp
            refine steps2_cons (by decide) (fun a1 w1 hB hsz hdf hn hd => ⟨_, rfl, fun K hK => ?_⟩) ?_
            · have e7 := eval_of ((hn 7 rfl).trans rfl)
              refine value_ (v := .int .i64 (splitS l.length : Int)) (w1 := w1) rfl rfl ?_ (hK _ _ (Below.refl _ _) rfl)
              clear hd hn hK
              simp only [execOp, Option.map_some, Option.map_none, List.map_toArray, List.map_cons, List.map_nil, List.getElem_toArray, List.getElem_cons_zero, List.getElem_cons_succ, e7]
              clear e7
              go_simp
            refine steps2_cons (by decide) (fun a1 w1 hB hsz hdf hn hd => ⟨_, rfl, fun K hK => ?_⟩) ?_
            · obtain ⟨v42, h42, rfl⟩ := hd 7 42 rfl (by kernel_rfl)
              have e42 := eval_of h42
              clear h42
              obtain ⟨v43, h43, rfl⟩ := hd 8 43 rfl (by kernel_rfl)
              have e43 := eval_of h43
              clear h43
              obtain ⟨v44, h44, rfl⟩ := hd 9 44 rfl (by kernel_rfl)
              have e44 := eval_of h44
              clear h44
              refine value_ (v := .slice A (splitS l.length) (splitS l.length)) (w1 := w1) rfl rfl ?_ (hK _ _ (Below.refl _ _) rfl)
              clear hd hn hK
              simp only [execOp, Option.map_some, Option.map_none, List.map_toArray, List.map_cons, List.map_nil, List.getElem_toArray, List.getElem_cons_zero, List.getElem_cons_succ, e42, e43, e44]
              clear e42 e43 e44
              have hq := cut_to3 24 23 .i64 .i64 Try.underlying24 hi0 A l.length c (splitS l.length) (by have := hc.out; omega) w1
              try simp only [Int.toNat_natCast] at hq
              clear hr hc hv ih hE hB
              go_simp
            refine steps2_cons (by decide) (fun a1 w1 hB hsz hdf hn hd => ⟨_, rfl, fun K hK => ?_⟩) ?_
            · obtain ⟨v45, h45, rfl⟩ := hd 10 45 rfl (by kernel_rfl)
              have e45 := eval_of h45
              clear h45
              refine goes_ Try.func71 (by kernel_rfl) rfl #[.slice A (splitS l.length) (splitS l.length)] (by rfl) rfl rfl (by simp only [List.map_toArray, List.map_cons, List.map_nil, e45]) ?_
              have hl1 : (l.take (splitS l.length)).length = splitS l.length := by rw [List.length_take]; omega
              have hC := Kd.C_below (Kd.C_take hr.out (m := splitS l.length) (by omega)) hB
              rw [hl1] at hC
              refine (rroot_calls (l.take (splitS l.length)).length (l.take (splitS l.length)) _ _ _ w1 hl1.symm (by omega) hC (by have := hc.out; omega) (by omega) (fun e he => hv.out e (List.mem_of_mem_take he))).mono ?_
              rintro e w2 ⟨rfl, hbw⟩
              exact ⟨_, rfl, hK _ _ hbw rfl⟩
            refine steps2_cons (by decide) (fun a1 w1 hB hsz hdf hn hd => ⟨_, rfl, fun K hK => ?_⟩) ?_
            · obtain ⟨v46, h46, rfl⟩ := hd 11 46 rfl (by kernel_rfl)
              have e46 := eval_of h46
              clear h46
              refine value_ (v := .slice (some ⟨w1.heap.size, 0, none⟩) 1 1) (w1 := w1.alloc (.cells #[.int .u64 (rootS (l.take (splitS l.length)))] 25)) rfl rfl ?_ (hK _ _ (below_alloc (Below.refl _ _) _) ⟨_, rfl, by simp⟩)
              clear hd hn hK
              simp only [execOp, Option.map_some, Option.map_none, List.map_toArray, List.map_cons, List.map_nil, List.getElem_toArray, List.getElem_cons_zero, List.getElem_cons_succ, e46]
              clear e46
              go_simp
            refine steps2_late (by decide) (fun a1 w1 hB hsz hdf hn hd => ⟨_, rfl, fun K hK => ?_⟩) ?_
            · obtain ⟨v41, h41, q41⟩ := hd 6 41 rfl (by kernel_rfl)
              have hN : Nums w1 W.heap.size v41 (grownF f (l.drop (splitS l.length)) (i - splitS l.length) false) := q41 (.inl rfl)
              obtain ⟨v47, h47, q47⟩ := hd 12 47 rfl (by kernel_rfl)
              obtain ⟨g, rfl, hcg⟩ := q47 (.inl rfl)
              refine append_ (y := rootS (l.take (splitS l.length))) rfl rfl rfl (eval_of h41) (eval_of h47) hN hcg (by have := grownF_len f (l.drop (splitS l.length)) (i - splitS l.length) false; omega) hB.size (fun vv w2 hN2 hg => hK _ _ ?_ (.inl rfl) hN2)
              exact grown_below hB hN (Nat.le_refl _) hB.size hg
            refine steps2_late (by decide) (fun a1 w1 hB hsz hdf hn hd => ⟨_, rfl, fun K hK => ?_⟩) ?_
            · obtain ⟨v48, h48, q48⟩ := hd 13 48 rfl (by kernel_rfl)
              have e48 := eval_of h48
              refine value_ (v := v48) (w1 := w1) rfl rfl ?_ (hK _ _ hB (.inr (Below.refl _ _)) (q48 (.inr (by decide))))
              clear hd hn hK
              simp only [execOp, List.getElem_toArray, List.getElem_cons_zero, List.getElem_cons_succ, e48]
              go_simp
            exact steps2_nil
          case stab => exact fun j v w w' => rgrownBRel_stable _ _ _ _ _ _ _ j v w w'
          case rend =>
            intro vals w1 hB hrr
            have hlast := hrr (14, 6) (by simp) (by decide)
            simp only [fill, Act.put, List.setIfInBounds_toArray, List.set_cons_zero, List.set_cons_succ]
            have hlast' : Nums w1 W.heap.size (vals 14) (grownF f (l.drop (splitS l.length)) (i - splitS l.length) false ++ [rootS (l.take (splitS l.length))]) := hlast
            clear hlast hrr
            generalize vals 14 = vv at hlast' ⊢
            have HL := Aside0.mk hlast'
            clear hlast'
            go_wp2
            go_ret
            exact ⟨_, rfl, by rw [hE.out]; exact Nums.mono HL.out hbW.size, hbW.trans (hB.mono hbW.size)⟩
end Go.Proofs.Ytkedodmlbepfnaa.Lg

-- from the working text Grown
set_option linter.unusedSimpArgs false
set_option linter.unusedVariables false
namespace Go.Proofs.Ytkedodmlbepfnaa.Lg
open Go.RowKit Go.Proofs.YtkedodmlbepfnaaW.PrintWords Go.Proofs.YtkedodmlbepfnaaW.PrintLast Go.Proofs.YtkedodmlbepfnaaW.PrintMore Go.Proofs.Ytkedodmlbepfnaa.Rg
def grownARel (f : Nat) (l : List S23) (A : Option Addr) (c : Nat) (i : Nat) (b : Bool) (B : Nat) : Nat → Value → World → Prop
  | 0, v, _ => v = .slice A l.length c
  | 1, v, _ => v = .int .i64 (splitS l.length : Int)
  | 2, v, _ => v = .slice A (splitS l.length) c
  | 3, v, _ => v = .int .i64 (i : Int)
  | 4, v, _ => v = .bool b
  | 5, v, w => Nums w B v (grownF f (l.take (splitS l.length)) i b)
  | 6, v, _ => v = .slice A l.length c
  | 7, v, _ => v = .int .i64 (splitS l.length : Int)
  | 8, v, _ => v = .slice (if c = splitS l.length then A else A.map (·.add (splitS l.length * 3))) (l.length - splitS l.length) (c - splitS l.length)
  | 9, v, _ => v = .int .u64 (rootS (l.drop (splitS l.length)))
  | 10, v, w => ∃ g, v = .slice (some ⟨g, 0, none⟩) 1 1 ∧ w.cell? ⟨g, 0, none⟩ = some (.int .u64 (rootS (l.drop (splitS l.length))))
  | 11, v, w => Nums w B v (grownF f (l.take (splitS l.length)) i b ++ [rootS (l.drop (splitS l.length))])
  | 12, v, w => Nums w B v (grownF f (l.take (splitS l.length)) i b ++ [rootS (l.drop (splitS l.length))])
  | _, _, _ => True
theorem grownARel_stable (f : Nat) (l : List S23) (A : Option Addr) (c : Nat) (i : Nat) (b : Bool) (B : Nat) (j : Nat) (v : Value) (w w' : World) (h : grownARel f l A c i b B j v w) (hb : Below w.heap.size w w') : grownARel f l A c i b B j v w' := by
  revert h
  unfold grownARel
  split <;> intro h <;> first | exact h | exact Nums.below h hb | (obtain ⟨g, h1, h2⟩ := h; exact ⟨g, h1, pw_cell_below hb h2⟩)
def grownBRel (f : Nat) (l : List S23) (A : Option Addr) (c : Nat) (i : Nat) (b : Bool) (B : Nat) : Nat → Value → World → Prop
  | 0, v, _ => v = .slice A l.length c
  | 1, v, _ => v = .int .i64 (splitS l.length : Int)
  | 2, v, _ => v = .slice (if c = splitS l.length then A else A.map (·.add (splitS l.length * 3))) (l.length - splitS l.length) (c - splitS l.length)
  | 3, v, _ => v = .int .i64 (i : Int)
  | 4, v, _ => v = .int .i64 (splitS l.length : Int)
  | 5, v, _ => v = .int .i64 ((i : Int) - (splitS l.length : Int))
  | 6, v, w => Nums w B v (grownF f (l.drop (splitS l.length)) (i - splitS l.length) false)
  | 7, v, _ => v = .slice A l.length c
  | 8, v, _ => v = .int .i64 (splitS l.length : Int)
  | 9, v, _ => v = .slice A (splitS l.length) c
  | 10, v, _ => v = .int .u64 (rootS (l.take (splitS l.length)))
  | 11, v, w => ∃ g, v = .slice (some ⟨g, 0, none⟩) 1 1 ∧ w.cell? ⟨g, 0, none⟩ = some (.int .u64 (rootS (l.take (splitS l.length))))
  | 12, v, w => Nums w B v (grownF f (l.drop (splitS l.length)) (i - splitS l.length) false ++ [rootS (l.take (splitS l.length))])
  | 13, v, w => Nums w B v (grownF f (l.drop (splitS l.length)) (i - splitS l.length) false ++ [rootS (l.take (splitS l.length))])
  | _, _, _ => True
theorem grownBRel_stable (f : Nat) (l : List S23) (A : Option Addr) (c : Nat) (i : Nat) (b : Bool) (B : Nat) (j : Nat) (v : Value) (w w' : World) (h : grownBRel f l A c i b B j v w) (hb : Below w.heap.size w w') : grownBRel f l A c i b B j v w' := by
  revert h
  unfold grownBRel
  split <;> intro h <;> first | exact h | exact Nums.below h hb | (obtain ⟨g, h1, h2⟩ := h; exact ⟨g, h1, pw_cell_below hb h2⟩)
set_option maxHeartbeats 8000000 in
set_option maxRecDepth 100000 in
theorem grown_calls : ∀ (f : Nat) (l : List S23) (n : Nat) (A : Option Addr) (c : Nat) (i : Nat) (b : Bool) (w : World), n = l.length → n ≤ f → f ≤ 512 → 1 ≤ n → Kd.C k23 w A n l → n ≤ c → n ≤ 512 → (∀ e ∈ l, Valid e) → 1 ≤ i → i ≤ n →
    Calls Try.prog 80 #[.slice A n c, .int .i64 (i : Int), .bool b] w fun e w' => ∃ v, e = .returned v ∧ Nums w' w.heap.size v (grownF f l i b) ∧ Below w.heap.size w w' := by
  intro f
  induction f with
  | zero => intro l n A c i b w hn hf hf5 h1; omega
  | succ f ih0 =>
    intro l n A c i b w hn hf hf5 h1 hr0 hc0 h5 hv0 hi1 hin
    subst hn
    have hr := Aside0.mk hr0
    have hc := Aside0.mk hc0
    have hv := Aside0.mk hv0
    have ih := ih0
    clear hr0 hc0 hv0 ih0
    have hf1 : l.length ≤ f + 1 := hf
    clear hf
    by_cases c1 : i = l.length
    · cases b with
      | true =>
        have hE := Aside0.mk (show grownF (f + 1) l i true = [] by rw [grownF, if_pos c1, if_pos rfl])
        have c1b : ((i : Int) == (l.length : Int)) = true := by rw [beq_iff_eq]; omega
        clear c1 hf1 h5 ih hr hv hin h1
        go_enter Try.func80, Try.ntmps80
        go_wp2
        go_ret
        exact ⟨_, rfl, by rw [hE.out]; exact Nums.nil _ _, (by repeat (first | exact Below.refl _ _ | apply below_drew | apply pw_below_drewN))⟩
      | false =>
        have hE := Aside0.mk (show grownF (f + 1) l i false = [rootS l] by rw [grownF, if_pos c1, if_neg (by simp)])
        have c1b : ((i : Int) == (l.length : Int)) = true := by rw [beq_iff_eq]; omega
        clear c1 hin h1
        go_enter Try.func80, Try.ntmps80
        go_wp2_with (go_at_call 69; (with_reducible refine (root_calls l.length l l.length A c _ rfl (Nat.le_refl _) hr.out hc.out h5 hv.out).mono ?_); rintro e w' ⟨rfl, hb⟩; have HB := Aside0.mk hb; clear hb)
        go_ret
        exact ⟨_, rfl, by rw [hE.out]; exact Nums.lit1 _ _ HB.out.size _, below_alloc HB.out _⟩
    · have c1b : ((i : Int) == (l.length : Int)) = false := by rw [beq_eq_false_iff_ne]; omega
      have h2 : 2 ≤ l.length := by omega
      have s1 := split_lt h2
      have s2 := split_pos l.length
      have s3 := split_le h2
      by_cases hk : i ≤ splitS l.length
      · have hE := Aside0.mk (show grownF (f + 1) l i b = _ by rw [grownF, if_neg c1, if_pos hk])
        have hkb : decide ((i : Int) ≤ (splitS l.length : Int)) = true := by simp; omega
        have hkn : decide (i ≤ splitS l.length) = true := by simp; omega
        clear c1
        go_enter Try.func80, Try.ntmps80
        go_wp2_with (go_at_call 117; (with_reducible refine (split_any l.length h2 h5 _).mono ?_); rintro e w' ⟨rfl, ⟨nd, rfl⟩⟩)
        obtain ⟨i0, hi0, hi1x, hi2, _⟩ := info_parts info23
        generalize hW : w.drewN nd = W
        have hbW : Below w.heap.size w W := by rw [← hW]; exact pw_below_drewN (Below.refl _ _) nd
        have hr' := Aside0.mk (Kd.C_below hr.out hbW)
        clear hr
        have hr := hr'
        clear hr' hW
        · refine rg2_ 11 [0, 1, 2, 3, 4, 5, 6, 7, 8, 9, 10, 11, 12] [(0, 22), (1, 23), (2, 24), (3, 25), (4, 26), (5, 27), (6, 28), (7, 29), (8, 30), (9, 31), (10, 32), (11, 33), (12, 6)] (bitsOf (rtab .any (opsOf Try.f80 7)).2) (grownARel f l A c i b W.heap.size) (by kernel_rfl) rfl (by kernel_rfl) rfl (by kernel_rfl) ?stab ?steps ?rend
          case steps =>
            refine steps2_cons (by decide) (fun a1 w1 hB hsz hdf hn hd => ⟨_, rfl, fun K hK => ?_⟩) ?_
            · have e0 := eval_of ((hn 0 rfl).trans rfl)
              refine value_ (v := .slice A l.length c) (w1 := w1) rfl rfl ?_ (hK _ _ (Below.refl _ _) rfl)
              clear hd hn hK
              simp only [execOp, Option.map_some, Option.map_none, List.map_toArray, List.map_cons, List.map_nil, List.getElem_toArray, List.getElem_cons_zero, List.getElem_cons_succ, e0]
              clear e0
              go_simp
            refine steps2_cons (by decide) (fun a1 w1 hB hsz hdf hn hd => ⟨_, rfl, fun K hK => ?_⟩) ?_
            · have e7 := eval_of ((hn 7 rfl).trans rfl)
              refine value_ (v := .int .i64 (splitS l.length : Int)) (w1 := w1) rfl rfl ?_ (hK _ _ (Below.refl _ _) rfl)
              clear hd hn hK
              simp only [execOp, Option.map_some, Option.map_none, List.map_toArray, List.map_cons, List.map_nil, List.getElem_toArray, List.getElem_cons_zero, List.getElem_cons_succ, e7]
              clear e7
              go_simp
            refine steps2_cons (by decide) (fun a1 w1 hB hsz hdf hn hd => ⟨_, rfl, fun K hK => ?_⟩) ?_
            · obtain ⟨v22, h22, rfl⟩ := hd 0 22 rfl (by kernel_rfl)
              have e22 := eval_of h22
              clear h22
              obtain ⟨v23, h23, rfl⟩ := hd 1 23 rfl (by kernel_rfl)
              have e23 := eval_of h23
              clear h23
              refine value_ (v := .slice A (splitS l.length) c) (w1 := w1) rfl rfl ?_ (hK _ _ (Below.refl _ _) rfl)
              clear hd hn hK
              simp only [execOp, Option.map_some, Option.map_none, List.map_toArray, List.map_cons, List.map_nil, List.getElem_toArray, List.getElem_cons_zero, List.getElem_cons_succ, e22, e23]
              clear e22 e23
              have hq := cut_to 24 23 .i64 Try.underlying24 hi0 A l.length c (splitS l.length : Int) (by omega) (by omega) hc.out w1
              try simp only [Int.toNat_natCast] at hq
              clear hr hc hv ih hE hB
              go_simp
            refine steps2_cons (by decide) (fun a1 w1 hB hsz hdf hn hd => ⟨_, rfl, fun K hK => ?_⟩) ?_
            · have e1 := eval_of ((hn 1 rfl).trans rfl)
              refine value_ (v := .int .i64 (i : Int)) (w1 := w1) rfl rfl ?_ (hK _ _ (Below.refl _ _) rfl)
              clear hd hn hK
              simp only [execOp, Option.map_some, Option.map_none, List.map_toArray, List.map_cons, List.map_nil, List.getElem_toArray, List.getElem_cons_zero, List.getElem_cons_succ, e1]
              clear e1
              go_simp
            refine steps2_cons (by decide) (fun a1 w1 hB hsz hdf hn hd => ⟨_, rfl, fun K hK => ?_⟩) ?_
            · have e2 := eval_of ((hn 2 rfl).trans rfl)
              refine value_ (v := .bool b) (w1 := w1) rfl rfl ?_ (hK _ _ (Below.refl _ _) rfl)
              clear hd hn hK
              simp only [execOp, Option.map_some, Option.map_none, List.map_toArray, List.map_cons, List.map_nil, List.getElem_toArray, List.getElem_cons_zero, List.getElem_cons_succ, e2]
              clear e2
              go_simp
            refine steps2_cons (by decide) (fun a1 w1 hB hsz hdf hn hd => ⟨_, rfl, fun K hK => ?_⟩) ?_
            · obtain ⟨v24, h24, rfl⟩ := hd 2 24 rfl (by kernel_rfl)
              have e24 := eval_of h24
              clear h24
              obtain ⟨v25, h25, rfl⟩ := hd 3 25 rfl (by kernel_rfl)
              have e25 := eval_of h25
              clear h25
              obtain ⟨v26, h26, rfl⟩ := hd 4 26 rfl (by kernel_rfl)
              have e26 := eval_of h26
              clear h26
              refine goes_ Try.func80 (by kernel_rfl) rfl #[.slice A (splitS l.length) c, .int .i64 (i : Int), .bool b] (by rfl) rfl rfl (by simp only [List.map_toArray, List.map_cons, List.map_nil, e24, e25, e26]) ?_
              have hl1 : (l.take (splitS l.length)).length = splitS l.length := by rw [List.length_take]; omega
              have hC := Kd.C_below (Kd.C_take hr.out (m := splitS l.length) (by omega)) hB
              rw [hl1] at hC
              refine (ih (l.take (splitS l.length)) _ _ _ i b w1 hl1.symm (by omega) (by omega) (by omega) hC (by have := hc.out; omega) (by omega) (fun e he => hv.out e (List.mem_of_mem_take he)) (by omega) (by omega)).mono ?_
              rintro e w2 ⟨v, rfl, hN, hbw⟩
              exact ⟨_, rfl, hK _ _ hbw (Nums.mono hN hB.size)⟩
            refine steps2_cons (by decide) (fun a1 w1 hB hsz hdf hn hd => ⟨_, rfl, fun K hK => ?_⟩) ?_
            · have e0 := eval_of ((hn 0 rfl).trans rfl)
              refine value_ (v := .slice A l.length c) (w1 := w1) rfl rfl ?_ (hK _ _ (Below.refl _ _) rfl)
              clear hd hn hK
              simp only [execOp, Option.map_some, Option.map_none, List.map_toArray, List.map_cons, List.map_nil, List.getElem_toArray, List.getElem_cons_zero, List.getElem_cons_succ, e0]
              clear e0
              go_simp
            refine steps2_cons (by decide) (fun a1 w1 hB hsz hdf hn hd => ⟨_, rfl, fun K hK => ?_⟩) ?_
            · have e7 := eval_of ((hn 7 rfl).trans rfl)
              refine value_ (v := .int .i64 (splitS l.length : Int)) (w1 := w1) rfl rfl ?_ (hK _ _ (Below.refl _ _) rfl)
              clear hd hn hK
              simp only [execOp, Option.map_some, Option.map_none, List.map_toArray, List.map_cons, List.map_nil, List.getElem_toArray, List.getElem_cons_zero, List.getElem_cons_succ, e7]
              clear e7
              go_simp
            refine steps2_cons (by decide) (fun a1 w1 hB hsz hdf hn hd => ⟨_, rfl, fun K hK => ?_⟩) ?_
            · obtain ⟨v28, h28, rfl⟩ := hd 6 28 rfl (by kernel_rfl)
              have e28 := eval_of h28
              clear h28
              obtain ⟨v29, h29, rfl⟩ := hd 7 29 rfl (by kernel_rfl)
              have e29 := eval_of h29
              clear h29
              refine value_ (v := .slice (if c = splitS l.length then A else A.map (·.add (splitS l.length * 3))) (l.length - splitS l.length) (c - splitS l.length)) (w1 := w1) rfl rfl ?_ (hK _ _ (Below.refl _ _) rfl)
              clear hd hn hK
              simp only [execOp, Option.map_some, Option.map_none, List.map_toArray, List.map_cons, List.map_nil, List.getElem_toArray, List.getElem_cons_zero, List.getElem_cons_succ, e28, e29]
              clear e28 e29
              have hq := cut_from 24 23 .i64 Try.underlying24 hi0 3 hi2 A l.length c (splitS l.length : Int) (by omega) (by omega) w1
              try simp only [Int.toNat_natCast] at hq
              clear hr hc hv ih hE hB
              go_simp
            refine steps2_cons (by decide) (fun a1 w1 hB hsz hdf hn hd => ⟨_, rfl, fun K hK => ?_⟩) ?_
            · obtain ⟨v30, h30, rfl⟩ := hd 8 30 rfl (by kernel_rfl)
              have e30 := eval_of h30
              clear h30
              refine goes_ Try.func69 (by kernel_rfl) rfl #[.slice (if c = splitS l.length then A else A.map (·.add (splitS l.length * 3))) (l.length - splitS l.length) (c - splitS l.length)] (by rfl) rfl rfl (by simp only [List.map_toArray, List.map_cons, List.map_nil, e30]) ?_
              have hl1 : (l.drop (splitS l.length)).length = l.length - splitS l.length := by rw [List.length_drop]
              have hC := Kd.C_below (Kd.C_drop hr.out (m := splitS l.length) (by omega) hc.out) hB
              rw [hl1] at hC
              refine (root_calls (l.drop (splitS l.length)).length (l.drop (splitS l.length)) _ _ _ w1 hl1.symm (by omega) hC (by have := hc.out; omega) (by omega) (fun e he => hv.out e (List.mem_of_mem_drop he))).mono ?_
              rintro e w2 ⟨rfl, hbw⟩
              exact ⟨_, rfl, hK _ _ hbw rfl⟩
            refine steps2_cons (by decide) (fun a1 w1 hB hsz hdf hn hd => ⟨_, rfl, fun K hK => ?_⟩) ?_
            · obtain ⟨v31, h31, rfl⟩ := hd 9 31 rfl (by kernel_rfl)
              have e31 := eval_of h31
              clear h31
              refine value_ (v := .slice (some ⟨w1.heap.size, 0, none⟩) 1 1) (w1 := w1.alloc (.cells #[.int .u64 (rootS (l.drop (splitS l.length)))] 25)) rfl rfl ?_ (hK _ _ (below_alloc (Below.refl _ _) _) ⟨_, rfl, by simp⟩)
              clear hd hn hK
              simp only [execOp, Option.map_some, Option.map_none, List.map_toArray, List.map_cons, List.map_nil, List.getElem_toArray, List.getElem_cons_zero, List.getElem_cons_succ, e31]
              clear e31
              go_simp
            refine steps2_late (by decide) (fun a1 w1 hB hsz hdf hn hd => ⟨_, rfl, fun K hK => ?_⟩) ?_
            · obtain ⟨v27, h27, q27⟩ := hd 5 27 rfl (by kernel_rfl)
              have hN : Nums w1 W.heap.size v27 (grownF f (l.take (splitS l.length)) i b) := q27 (.inl rfl)
              obtain ⟨v32, h32, q32⟩ := hd 10 32 rfl (by kernel_rfl)
              obtain ⟨g, rfl, hcg⟩ := q32 (.inl rfl)
              refine append_ (y := rootS (l.drop (splitS l.length))) rfl rfl rfl (eval_of h27) (eval_of h32) hN hcg (by have := grownF_len f (l.take (splitS l.length)) i b; omega) hB.size (fun vv w2 hN2 hg => hK _ _ ?_ (.inl rfl) hN2)
              exact grown_below hB hN (Nat.le_refl _) hB.size hg
            refine steps2_late (by decide) (fun a1 w1 hB hsz hdf hn hd => ⟨_, rfl, fun K hK => ?_⟩) ?_
            · obtain ⟨v33, h33, q33⟩ := hd 11 33 rfl (by kernel_rfl)
              have e33 := eval_of h33
              refine value_ (v := v33) (w1 := w1) rfl rfl ?_ (hK _ _ hB (.inr (Below.refl _ _)) (q33 (.inr (by decide))))
              clear hd hn hK
              simp only [execOp, List.getElem_toArray, List.getElem_cons_zero, List.getElem_cons_succ, e33]
              go_simp
            exact steps2_nil
          case stab => exact fun j v w w' => grownARel_stable _ _ _ _ _ _ _ j v w w'
          case rend =>
            intro vals w1 hB hrr
            have hlast := hrr (12, 6) (by simp) (by decide)
            simp only [fill, Act.put, List.setIfInBounds_toArray, List.set_cons_zero, List.set_cons_succ]
            have hlast' : Nums w1 W.heap.size (vals 12) (grownF f (l.take (splitS l.length)) i b ++ [rootS (l.drop (splitS l.length))]) := hlast
            clear hlast hrr
            generalize vals 12 = vv at hlast' ⊢
            have HL := Aside0.mk hlast'
            clear hlast'
            go_wp2
            go_ret
            exact ⟨_, rfl, by rw [hE.out]; exact Nums.mono HL.out hbW.size, hbW.trans (hB.mono hbW.size)⟩
      · have hE := Aside0.mk (show grownF (f + 1) l i b = _ by rw [grownF, if_neg c1, if_neg hk])
        have hkb : decide ((i : Int) ≤ (splitS l.length : Int)) = false := by simp; omega
        have hkn : decide (i ≤ splitS l.length) = false := by simp; omega
        clear c1
        go_enter Try.func80, Try.ntmps80
        go_wp2_with (go_at_call 117; (with_reducible refine (split_any l.length h2 h5 _).mono ?_); rintro e w' ⟨rfl, ⟨nd, rfl⟩⟩)
        obtain ⟨i0, hi0, hi1x, hi2, _⟩ := info_parts info23
        generalize hW : w.drewN nd = W
        have hbW : Below w.heap.size w W := by rw [← hW]; exact pw_below_drewN (Below.refl _ _) nd
        have hr' := Aside0.mk (Kd.C_below hr.out hbW)
        clear hr
        have hr := hr'
        clear hr' hW
        · refine rg2_ 12 [0, 1, 2, 3, 4, 5, 6, 7, 8, 9, 10, 11, 12, 13] [(0, 34), (1, 35), (2, 36), (3, 37), (4, 38), (5, 39), (6, 40), (7, 41), (8, 42), (9, 43), (10, 44), (11, 45), (12, 46), (13, 6)] (bitsOf (rtab .any (opsOf Try.f80 8)).2) (grownBRel f l A c i b W.heap.size) (by kernel_rfl) rfl (by kernel_rfl) rfl (by kernel_rfl) ?stab ?steps ?rend
          case steps =>
            refine steps2_cons (by decide) (fun a1 w1 hB hsz hdf hn hd => ⟨_, rfl, fun K hK => ?_⟩) ?_
            · have e0 := eval_of ((hn 0 rfl).trans rfl)
              refine value_ (v := .slice A l.length c) (w1 := w1) rfl rfl ?_ (hK _ _ (Below.refl _ _) rfl)
              clear hd hn hK
              simp only [execOp, Option.map_some, Option.map_none, List.map_toArray, List.map_cons, List.map_nil, List.getElem_toArray, List.getElem_cons_zero, List.getElem_cons_succ, e0]
              clear e0
              go_simp
            refine steps2_cons (by decide) (fun a1 w1 hB hsz hdf hn hd => ⟨_, rfl, fun K hK => ?_⟩) ?_
            · have e7 := eval_of ((hn 7 rfl).trans rfl)
              refine value_ (v := .int .i64 (splitS l.length : Int)) (w1 := w1) rfl rfl ?_ (hK _ _ (Below.refl _ _) rfl)
              clear hd hn hK
              simp only [execOp, Option.map_some, Option.map_none, List.map_toArray, List.map_cons, List.map_nil, List.getElem_toArray, List.getElem_cons_zero, List.getElem_cons_succ, e7]
              clear e7
              go_simp
            refine steps2_cons (by decide) (fun a1 w1 hB hsz hdf hn hd => ⟨_, rfl, fun K hK => ?_⟩) ?_
            · obtain ⟨v34, h34, rfl⟩ := hd 0 34 rfl (by kernel_rfl)
              have e34 := eval_of h34
              clear h34
              obtain ⟨v35, h35, rfl⟩ := hd 1 35 rfl (by kernel_rfl)
              have e35 := eval_of h35
              clear h35
              refine value_ (v := .slice (if c = splitS l.length then A else A.map (·.add (splitS l.length * 3))) (l.length - splitS l.length) (c - splitS l.length)) (w1 := w1) rfl rfl ?_ (hK _ _ (Below.refl _ _) rfl)
              clear hd hn hK
              simp only [execOp, Option.map_some, Option.map_none, List.map_toArray, List.map_cons, List.map_nil, List.getElem_toArray, List.getElem_cons_zero, List.getElem_cons_succ, e34, e35]
              clear e34 e35
              have hq := cut_from 24 23 .i64 Try.underlying24 hi0 3 hi2 A l.length c (splitS l.length : Int) (by omega) (by omega) w1
              try simp only [Int.toNat_natCast] at hq
              clear hr hc hv ih hE hB
              go_simp
            refine steps2_cons (by decide) (fun a1 w1 hB hsz hdf hn hd => ⟨_, rfl, fun K hK => ?_⟩) ?_
            · have e1 := eval_of ((hn 1 rfl).trans rfl)
              refine value_ (v := .int .i64 (i : Int)) (w1 := w1) rfl rfl ?_ (hK _ _ (Below.refl _ _) rfl)
              clear hd hn hK
              simp only [execOp, Option.map_some, Option.map_none, List.map_toArray, List.map_cons, List.map_nil, List.getElem_toArray, List.getElem_cons_zero, List.getElem_cons_succ, e1]
              clear e1
              go_simp
            refine steps2_cons (by decide) (fun a1 w1 hB hsz hdf hn hd => ⟨_, rfl, fun K hK => ?_⟩) ?_
            · have e7 := eval_of ((hn 7 rfl).trans rfl)
              refine value_ (v := .int .i64 (splitS l.length : Int)) (w1 := w1) rfl rfl ?_ (hK _ _ (Below.refl _ _) rfl)
              clear hd hn hK
              simp only [execOp, Option.map_some, Option.map_none, List.map_toArray, List.map_cons, List.map_nil, List.getElem_toArray, List.getElem_cons_zero, List.getElem_cons_succ, e7]
              clear e7
              go_simp
            refine steps2_cons (by decide) (fun a1 w1 hB hsz hdf hn hd => ⟨_, rfl, fun K hK => ?_⟩) ?_
            · obtain ⟨v37, h37, rfl⟩ := hd 3 37 rfl (by kernel_rfl)
              have e37 := eval_of h37
              clear h37
              obtain ⟨v38, h38, rfl⟩ := hd 4 38 rfl (by kernel_rfl)
              have e38 := eval_of h38
              clear h38
              refine value_ (v := .int .i64 ((i : Int) - (splitS l.length : Int))) (w1 := w1) rfl rfl ?_ (hK _ _ (Below.refl _ _) rfl)
              clear hd hn hK
              simp only [execOp, Option.map_some, Option.map_none, List.map_toArray, List.map_cons, List.map_nil, List.getElem_toArray, List.getElem_cons_zero, List.getElem_cons_succ, e37, e38]
              clear e37 e38
              have hq : IntKind.i64.wrap ((i : Int) - (splitS l.length : Int)) = (i : Int) - (splitS l.length : Int) := by rw [i64_w]; unfold wrap64; omega
              clear hr hc hv ih hE hB
              go_simp
            refine steps2_cons (by decide) (fun a1 w1 hB hsz hdf hn hd => ⟨_, rfl, fun K hK => ?_⟩) ?_
            · obtain ⟨v36, h36, rfl⟩ := hd 2 36 rfl (by kernel_rfl)
              have e36 := eval_of h36
              clear h36
              obtain ⟨v39, h39, rfl⟩ := hd 5 39 rfl (by kernel_rfl)
              have e39 := eval_of h39
              clear h39
              refine goes_ Try.func80 (by kernel_rfl) rfl #[.slice (if c = splitS l.length then A else A.map (·.add (splitS l.length * 3))) (l.length - splitS l.length) (c - splitS l.length), .int .i64 ((i - splitS l.length : Nat) : Int), .bool false] (by rfl) rfl rfl (by simp only [List.map_toArray, List.map_cons, List.map_nil, e36, e39]; rw [show ((i : Int) - (splitS l.length : Int)) = ((i - splitS l.length : Nat) : Int) from by omega]; rfl) ?_
              have hl1 : (l.drop (splitS l.length)).length = l.length - splitS l.length := by rw [List.length_drop]
              have hC := Kd.C_below (Kd.C_drop hr.out (m := splitS l.length) (by omega) hc.out) hB
              rw [hl1] at hC
              refine (ih (l.drop (splitS l.length)) _ _ _ (i - splitS l.length) false w1 hl1.symm (by omega) (by omega) (by omega) hC (by have := hc.out; omega) (by omega) (fun e he => hv.out e (List.mem_of_mem_drop he)) (by omega) (by omega)).mono ?_
              rintro e w2 ⟨v, rfl, hN, hbw⟩
              exact ⟨_, rfl, hK _ _ hbw (Nums.mono hN hB.size)⟩
            refine steps2_cons (by decide) (fun a1 w1 hB hsz hdf hn hd => ⟨_, rfl, fun K hK => ?_⟩) ?_
            · have e0 := eval_of ((hn 0 rfl).trans rfl)
              refine value_ (v := .slice A l.length c) (w1 := w1) rfl rfl ?_ (hK _ _ (Below.refl _ _) rfl)
              clear hd hn hK
              simp only [execOp, Option.map_some, Option.map_none, List.map_toArray, List.map_cons, List.map_nil, List.getElem_toArray, List.getElem_cons_zero, List.getElem_cons_succ, e0]
              clear e0
              go_simp
            refine steps2_cons (by decide) (fun a1 w1 hB hsz hdf hn hd => ⟨_, rfl, fun K hK => ?_⟩) ?_
            · have e7 := eval_of ((hn 7 rfl).trans rfl)
              refine value_ (v := .int .i64 (splitS l.length : Int)) (w1 := w1) rfl rfl ?_ (hK _ _ (Below.refl _ _) rfl)
              clear hd hn hK
              simp only [execOp, Option.map_some, Option.map_none, List.map_toArray, List.map_cons, List.map_nil, List.getElem_toArray, List.getElem_cons_zero, List.getElem_cons_succ, e7]
              clear e7
              go_simp
            refine steps2_cons (by decide) (fun a1 w1 hB hsz hdf hn hd => ⟨_, rfl, fun K hK => ?_⟩) ?_
            · obtain ⟨v41, h41, rfl⟩ := hd 7 41 rfl (by kernel_rfl)
              have e41 := eval_of h41
              clear h41
              obtain ⟨v42, h42, rfl⟩ := hd 8 42 rfl (by kernel_rfl)
              have e42 := eval_of h42
              clear h42
              refine value_ (v := .slice A (splitS l.length) c) (w1 := w1) rfl rfl ?_ (hK _ _ (Below.refl _ _) rfl)
              clear hd hn hK
              simp only [execOp, Option.map_some, Option.map_none, List.map_toArray, List.map_cons, List.map_nil, List.getElem_toArray, List.getElem_cons_zero, List.getElem_cons_succ, e41, e42]
              clear e41 e42
              have hq := cut_to 24 23 .i64 Try.underlying24 hi0 A l.length c (splitS l.length : Int) (by omega) (by omega) hc.out w1
              try simp only [Int.toNat_natCast] at hq
              clear hr hc hv ih hE hB
              go_simp
            refine steps2_cons (by decide) (fun a1 w1 hB hsz hdf hn hd => ⟨_, rfl, fun K hK => ?_⟩) ?_
            · obtain ⟨v43, h43, rfl⟩ := hd 9 43 rfl (by kernel_rfl)
              have e43 := eval_of h43
              clear h43
              refine goes_ Try.func69 (by kernel_rfl) rfl #[.slice A (splitS l.length) c] (by rfl) rfl rfl (by simp only [List.map_toArray, List.map_cons, List.map_nil, e43]) ?_
              have hl1 : (l.take (splitS l.length)).length = splitS l.length := by rw [List.length_take]; omega
              have hC := Kd.C_below (Kd.C_take hr.out (m := splitS l.length) (by omega)) hB
              rw [hl1] at hC
              refine (root_calls (l.take (splitS l.length)).length (l.take (splitS l.length)) _ _ _ w1 hl1.symm (by omega) hC (by have := hc.out; omega) (by omega) (fun e he => hv.out e (List.mem_of_mem_take he))).mono ?_
              rintro e w2 ⟨rfl, hbw⟩
              exact ⟨_, rfl, hK _ _ hbw rfl⟩
            refine steps2_cons (by decide) (fun a1 w1 hB hsz hdf hn hd => ⟨_, rfl, fun K hK => ?_⟩) ?_
            · obtain ⟨v44, h44, rfl⟩ := hd 10 44 rfl (by kernel_rfl)
              have e44 := eval_of h44
              clear h44
              refine value_ (v := .slice (some ⟨w1.heap.size, 0, none⟩) 1 1) (w1 := w1.alloc (.cells #[.int .u64 (rootS (l.take (splitS l.length)))] 25)) rfl rfl ?_ (hK _ _ (below_alloc (Below.refl _ _) _) ⟨_, rfl, by simp⟩)
              clear hd hn hK
              simp only [execOp, Option.map_some, Option.map_none, List.map_toArray, List.map_cons, List.map_nil, List.getElem_toArray, List.getElem_cons_zero, List.getElem_cons_succ, e44]
              clear e44
              go_simp
            refine steps2_late (by decide) (fun a1 w1 hB hsz hdf hn hd => ⟨_, rfl, fun K hK => ?_⟩) ?_
            · obtain ⟨v40, h40, q40⟩ := hd 6 40 rfl (by kernel_rfl)
              have hN : Nums w1 W.heap.size v40 (grownF f (l.drop (splitS l.length)) (i - splitS l.length) false) := q40 (.inl rfl)
              obtain ⟨v45, h45, q45⟩ := hd 11 45 rfl (by kernel_rfl)
              obtain ⟨g, rfl, hcg⟩ := q45 (.inl rfl)
              refine append_ (y := rootS (l.take (splitS l.length))) rfl rfl rfl (eval_of h40) (eval_of h45) hN hcg (by have := grownF_len f (l.drop (splitS l.length)) (i - splitS l.length) false; omega) hB.size (fun vv w2 hN2 hg => hK _ _ ?_ (.inl rfl) hN2)
              exact grown_below hB hN (Nat.le_refl _) hB.size hg
            refine steps2_late (by decide) (fun a1 w1 hB hsz hdf hn hd => ⟨_, rfl, fun K hK => ?_⟩) ?_
            · obtain ⟨v46, h46, q46⟩ := hd 12 46 rfl (by kernel_rfl)
              have e46 := eval_of h46
              refine value_ (v := v46) (w1 := w1) rfl rfl ?_ (hK _ _ hB (.inr (Below.refl _ _)) (q46 (.inr (by decide))))
              clear hd hn hK
              simp only [execOp, List.getElem_toArray, List.getElem_cons_zero, List.getElem_cons_succ, e46]
              go_simp
            exact steps2_nil
          case stab => exact fun j v w w' => grownBRel_stable _ _ _ _ _ _ _ j v w w'
          case rend =>
            intro vals w1 hB hrr
            have hlast := hrr (13, 6) (by simp) (by decide)
            simp only [fill, Act.put, List.setIfInBounds_toArray, List.set_cons_zero, List.set_cons_succ]
            have hlast' : Nums w1 W.heap.size (vals 13) (grownF f (l.drop (splitS l.length)) (i - splitS l.length) false ++ [rootS (l.take (splitS l.length))]) := hlast
            clear hlast hrr
            generalize vals 13 = vv at hlast' ⊢
            have HL := Aside0.mk hlast'
            clear hlast'
            go_wp2
            go_ret
            exact ⟨_, rfl, by rw [hE.out]; exact Nums.mono HL.out hbW.size, hbW.trans (hB.mono hbW.size)⟩
end Go.Proofs.Ytkedodmlbepfnaa.Lg
