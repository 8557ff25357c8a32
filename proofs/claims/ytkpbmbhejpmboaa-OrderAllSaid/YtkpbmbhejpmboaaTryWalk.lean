/- jacquardlaw17.program. -/
import Derived.Test.YtkpbmbhejpmboaaTryPlain
import Derived.Test.YtkpbmbhejpmboaaSome
namespace Go.Proofs.Ytkpbmbhejpmboaa
open Go.RowKit
set_option linter.unusedVariables false

def finR : EndV := { op := 7, a := -1, b := 0, to := [], tov := .slice none 0 0, imm := 0 }
def blkR (l : List PlV) (lv : Value) : BlkV := { ins := l, insv := lv, fin := finR }
def prgR (l : List PlV) (lv bv : Value) : PrgV := { params := 0, k := 16, slots := 20, blocks := [blkR l lv], bv := bv }
def ProgP (l : List PlV) (lv : Value) (w : World) (e : Ending) (w' : World) : Prop := ∃ bv, e = .returned (pv (prgR l lv bv)) ∧ PrgOk w' (prgR l lv bv) ∧ Since w w'
theorem one_blk {w : World} {b : Nat} {l : List PlV} {lv : Value} (h : w.heap[b]? = some (.cells (blcells (blkR l lv)).toArray 56 (0, 0))) (hl : Pls w lv l) (hn : l.length ≤ 100000) : Blks w (.slice (some ⟨b, 0, none⟩) 1 1) [blkR l lv] := by
  refine .inr ⟨b, 0, 1, rfl, Nat.le_refl _, by decide, lt_at h, fun j x hj => ?_⟩
  match j, hj with
  | 0, hj =>
    obtain rfl : blkR l lv = x := by simpa using hj
    refine ⟨fun t ht => ?_, hl, .nil _ _, hn⟩
    rw [cells_at h]
    simp

set_option maxHeartbeats 1000000 in
set_option maxRecDepth 100000 in
theorem program_any (l : List PlV) (lv : Value) (w : World) (h : Pls w lv l) (hn : l.length ≤ 100000) : Calls Try.prog 70 #[lv] w (ProgP l lv w) := by
  obtain ⟨a, cap, rfl, hm⟩ := h.shape
  have H := Lib.hid h
  obtain ⟨n, hln⟩ : ∃ n, l.length = n := ⟨_, rfl⟩
  have HLN := Lib.hid hln
  rw [hln]
  clear h hm hln
  go_enter Try.func70, Try.ntmps70
  go_wp2
  refine bodyPost_ret (v := .agg #[.int .i64 0, .int .i64 16, .int .i64 20, .slice (some ⟨w.heap.size + 1, 0, none⟩) 1 1]) (by simp [results, Try.results70, go_sem]) rfl ⟨_, rfl, ⟨one_blk ?_ (RowIn.keep PlOk.keep (by rw [← HLN.out]; exact H.out) (((Since.refl _).alloc _).alloc _)) hn, by show 1 ≤ 100000; decide⟩, ((Since.refl _).alloc _).alloc _⟩
  have h := heap_last (w.alloc (.cells #[.int .i64 0, .int .i64 16, .int .i64 20, .slice (some ⟨w.heap.size + 1, 0, none⟩) 1 1] 24)) (.cells #[.slice a n cap, .int .i64 7, .int .i64 (-1), .int .i64 0, .slice none 0 0, .int .i32 0] 56)
  rw [World.size_alloc] at h
  exact h

/-! ### The last step: is this order accepted? -/
theorem finR_ok : endE finR 16 1 = 0 := by decide
theorem right_prg {l : List PlV} (lv bv : Value) (hl : l.length ≤ 1000) (h : ∀ x ∈ l, insE x.m 16 20 = 0) : rightB (prgR l lv bv) = true := by
  have h1 : headE (prgR l lv bv) = 0 := by
    unfold headE
    have e : ptotal (prgR l lv bv).blocks = 1 + l.length := by simp [ptotal, prgR, blkR]
    have e2 : (prgR l lv bv).blocks.length = 1 := rfl
    rw [e, e2, if_neg (by simp [prgR]), if_neg (by omega), if_neg (by omega)]
  have h2 : blkList (prgR l lv bv).k (prgR l lv bv).slots (prgR l lv bv).blocks.length (prgR l lv bv).blocks 0 = none := by
    refine blkList_none 0 fun b hb => ?_
    obtain rfl : b = blkR l lv := by simpa [prgR] using hb
    unfold blkE
    rw [show insList (prgR l lv bv).k (prgR l lv bv).slots (blkR l lv).ins 0 = none from insList_none 0 h]
    show (if endE finR 16 1 = 0 then none else _) = none
    rw [finR_ok, if_pos rfl]
  unfold rightB funcE
  rw [if_pos h1, h2]; rfl
theorem sameEnd_refl (e : EndV) : sameEndB e e = true := by simp [sameEndB, numsB]
theorem leaf_ok {l : List PlV} (hnum : Numbered l) (hl : l.length ≤ 1000) (h : ∀ x ∈ l, insE x.m 16 20 = 0) (s : List (Fin l.length)) (hs : s.length = l.length) (hn : s.Nodup) (lv bv x y : Value) :
    (checkE (prgR l lv x) (prgR (s.map l.get) bv y)).1 = if okGo (depL l) (s.map Fin.val) 0 then 0 else 50 := by
  have h2 : ∀ z ∈ s.map l.get, insE z.m 16 20 = 0 := fun z hz => by
    obtain ⟨k, _, rfl⟩ := List.mem_map.1 hz
    exact h _ (List.get_mem _ _)
  have hb := blockGo_ok hnum s (List.replicate l.length false) 0 0 (by simp) (fun t ht => by simp [ht]) (fun t _ => by simp) hn
  have hbl : blocksE (blkR l lv) (blkR (s.map l.get) bv) = blkOut l.length true (blockGo l (s.map l.get) (List.replicate l.length false) 0) := by
    unfold blocksE
    rw [if_pos (by simp [blkR, hs])]
    show blkOut l.length (sameEndB finR finR) _ = _
    rw [sameEnd_refl]; rfl
  unfold checkE
  rw [right_prg lv x hl h, right_prg bv y (by simp [hs, hl]) h2]
  have tt : (true && true) = true := by decide
  rw [if_pos tt, if_pos (by simp [headB, prgR])]
  show (chkOut (checkGo [blkR l lv] [blkR (s.map l.get) bv] 0)).1 = _
  have e : checkGo [blkR l lv] [blkR (s.map l.get) bv] 0 = if (blocksE (blkR l lv) (blkR (s.map l.get) bv)).2 then none else some (0, (blocksE (blkR l lv) (blkR (s.map l.get) bv)).1) := rfl
  rw [e, hbl]
  cases hg : blockGo l (s.map l.get) (List.replicate l.length false) 0 with
  | none =>
    rw [hg] at hb
    rw [← hb]; rfl
  | some i =>
    rw [hg] at hb
    rw [← hb]; rfl

theorem unset_bits (n : Nat) : ∀ (s : List Nat) (g : Nat), (∀ t ∈ s, t < n ∧ g.testBit t = false) → s.Nodup → unset n (bitsOf s g) + s.length = unset n g
  | [], _, _, _ => rfl
  | i :: r, g, h, hn => by
    have hn2 := List.nodup_cons.1 hn
    have h1 := unset_bits n r (g ||| 2 ^ i) (fun t ht => ⟨(h t (List.mem_cons_of_mem _ ht)).1, by
      rw [testBit_or_pow, (h t (List.mem_cons_of_mem _ ht)).2, Bool.false_or]
      exact decide_eq_false fun e => hn2.1 (e ▸ ht)⟩) hn2.2
    have h2 := unset_or n g i (h i List.mem_cons_self).1 (h i List.mem_cons_self).2
    show unset n (bitsOf r (g ||| 2 ^ i)) + (r.length + 1) = _
    omega
theorem unset_zero (n : Nat) : unset n 0 = n := by
  unfold unset
  rw [List.filter_eq_self.2 (fun i _ => by simp)]; simp
theorem bits_lt (n : Nat) : ∀ (s : List Nat) (g : Nat), (∀ t ∈ s, t < n) → g < 2 ^ n → bitsOf s g < 2 ^ n
  | [], _, _, h => h
  | i :: r, g, h, hg => bits_lt n r _ (fun t ht => h t (List.mem_cons_of_mem _ ht)) (Nat.or_lt_two_pow hg (Nat.pow_lt_pow_right (by decide) (h i List.mem_cons_self)))
theorem bits_mem : ∀ (s : List Nat) (g t : Nat), (bitsOf s g).testBit t = (g.testBit t || decide (t ∈ s))
  | [], g, t => by simp [bitsOf]
  | i :: r, g, t => by
    show (bitsOf r (g ||| 2 ^ i)).testBit t = _
    rw [bits_mem r, testBit_or_pow, Bool.or_assoc]
    congr 1
    by_cases e : i = t
    · subst e; simp
    · have e2 : ¬ t = i := fun h => e h.symm
      simp [e, e2]
end Go.Proofs.Ytkpbmbhejpmboaa
