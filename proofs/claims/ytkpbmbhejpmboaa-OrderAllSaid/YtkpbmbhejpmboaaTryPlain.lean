/- Plain: which orders of instructions that are numbered are accepted. -/
import Derived.Test.YtkpbmbhejpmboaaCheck
import Derived.Test.YtkpbmbhejpmboaaGone
namespace Go.Proofs.Ytkpbmbhejpmboaa
open Go.RowKit
set_option linter.unusedVariables false

/-- Is each of these ready when it comes? g: those that came. -/
def okGo (d : Nat → Nat → Bool) : List Nat → Nat → Bool
  | [], _ => true
  | i :: r, g => readyB d g i i && okGo d r (g ||| 2 ^ i)
def bitsOf : List Nat → Nat → Nat
  | [], g => g
  | i :: r, g => bitsOf r (g ||| 2 ^ i)
theorem bitsOf_snoc : ∀ (s : List Nat) (g k : Nat), bitsOf (s ++ [k]) g = bitsOf s g ||| 2 ^ k
  | [], _, _ => rfl
  | i :: r, g, k => bitsOf_snoc r (g ||| 2 ^ i) k
theorem okGo_snoc (d : Nat → Nat → Bool) : ∀ (s : List Nat) (g k : Nat), okGo d (s ++ [k]) g = (okGo d s g && readyB d (bitsOf s g) k k)
  | [], g, k => by simp [okGo, bitsOf]
  | i :: r, g, k => by
    show (readyB d g i i && okGo d (r ++ [k]) (g ||| 2 ^ i)) = ((readyB d g i i && okGo d r (g ||| 2 ^ i)) && readyB d (bitsOf r (g ||| 2 ^ i)) k k)
    rw [okGo_snoc d r (g ||| 2 ^ i) k, Bool.and_assoc]
theorem testBit_or_pow (g i t : Nat) : (g ||| 2 ^ i).testBit t = (g.testBit t || decide (i = t)) := by
  rw [Nat.testBit_or, Nat.testBit_two_pow]

/-! ### find, of instructions that bear their number -/
def Numbered (l : List PlV) : Prop := ∀ k : Fin l.length, (l.get k).src = (k.val : Int)
theorem sameM_refl (m : Mach) : sameM m m = true := by simp [sameM, numsB]
theorem same_iff {l : List PlV} (h : Numbered l) (i k : Fin l.length) : sameB (l.get i) (l.get k) = decide (i = k) := by
  by_cases e : i = k
  · subst e
    unfold sameB
    rw [sameM_refl]; simp
  · unfold sameB
    have h1 : ((l.get i).src == (l.get k).src) = false := by
      rw [h i, h k]
      simp only [beq_eq_false_iff_ne, ne_eq]
      intro h2
      exact e (Fin.ext (by omega))
    rw [h1, decide_eq_false e]; rfl
theorem findR_dep {l : List PlV} {x : PlV} : ∀ {pre : List (Fin l.length)} (r : List (Fin l.length)), (∀ k ∈ pre, sameB x (l.get k) = false) → (∃ k ∈ pre, dependsB (l.get k).m x.m = true) → findR l x (pre ++ r) = -1
  | [], _, _, ⟨_, h, _⟩ => by cases h
  | k :: pre, r, hs, ⟨t, ht, hd⟩ => by
    show (if sameB x (l.get k) then (k.val : Int) else if dependsB (l.get k).m x.m then -1 else findR l x (pre ++ r)) = -1
    rw [hs k List.mem_cons_self]
    by_cases hk : dependsB (l.get k).m x.m = true
    · rw [hk]; rfl
    · rw [Bool.not_eq_true] at hk
      rw [hk]
      refine findR_dep r (fun y hy => hs y (List.mem_cons_of_mem _ hy)) ⟨t, ?_, hd⟩
      rcases List.mem_cons.1 ht with rfl | h
      · rw [hk] at hd; cases hd
      · exact h
theorem mem_leftsTo {l : List PlV} {found : List Bool} {k : Nat} {t : Fin l.length} : t ∈ leftsTo l found k ↔ t.val < k ∧ found.getD t.val true = false := by
  unfold leftsTo
  rw [List.mem_filterMap]
  constructor
  · rintro ⟨j, hj, h⟩
    rw [List.mem_range] at hj
    by_cases h1 : j < l.length
    · rw [dif_pos h1] at h
      by_cases h2 : found.getD j true = true
      · rw [if_pos h2] at h; cases h
      · rw [if_neg h2] at h
        obtain rfl := Option.some.inj h
        exact ⟨hj, by simpa using h2⟩
    · rw [dif_neg h1] at h; cases h
  · rintro ⟨h1, h2⟩
    exact ⟨t.val, List.mem_range.2 h1, by rw [dif_pos t.isLt, if_neg (by rw [h2]; decide)]⟩
def depL (l : List PlV) (a b : Nat) : Bool := match l[a]?, l[b]? with
  | some x, some y => dependsB x.m y.m
  | _, _ => false
theorem depL_get {l : List PlV} (a b : Fin l.length) : depL l a.val b.val = dependsB (l.get a).m (l.get b).m := by
  unfold depL
  rw [List.getElem?_eq_getElem a.isLt, List.getElem?_eq_getElem b.isLt]; rfl
theorem find_ready {l : List PlV} (h : Numbered l) {found : List Bool} {g : Nat} (hf : ∀ t, t < l.length → found.getD t true = g.testBit t) (i : Fin l.length) (hi : g.testBit i.val = false) (hr : readyB (depL l) g i.val i.val = true) : findI l found (l.get i) = i.val := by
  unfold findI
  obtain ⟨rest, hrest⟩ := leftsTo_pre l found (show i.val + 1 ≤ l.length from i.isLt)
  rw [← hrest, leftsTo_succ i.isLt, if_neg (by rw [hf _ i.isLt, hi]; decide), List.append_assoc, findR_skip]
  · show (if sameB (l.get i) (l.get i) then _ else _) = _
    rw [same_iff h, decide_eq_true rfl]; rfl
  · intro k hk
    obtain ⟨h1, h2⟩ := mem_leftsTo.1 hk
    rw [hf _ k.isLt] at h2
    have h3 := (readyB_iff _ _ _ _).1 hr k.val h1
    unfold noB
    rw [same_iff h, decide_eq_false (fun e => by rw [e] at h1; omega)]
    have h4 : dependsB (l.get k).m (l.get i).m = false := by
      rw [← depL_get, ← Bool.not_eq_true]
      intro h5
      rw [h3 h5] at h2; cases h2
    rw [h4]; rfl
theorem find_not {l : List PlV} (h : Numbered l) {found : List Bool} {g : Nat} (hf : ∀ t, t < l.length → found.getD t true = g.testBit t) (i : Fin l.length) (hr : readyB (depL l) g i.val i.val = false) : findI l found (l.get i) = -1 := by
  unfold findI
  obtain ⟨rest, hrest⟩ := leftsTo_pre l found (Nat.le_of_lt i.isLt)
  rw [← hrest]
  refine findR_dep _ (fun k hk => ?_) ?_
  · have h1 := (mem_leftsTo.1 hk).1
    rw [same_iff h, decide_eq_false (fun e => by rw [e] at h1; omega)]
  · have h2 : ¬ ∀ t, t < i.val → depL l t i.val = true → g.testBit t = true := fun h3 => by
      rw [(readyB_iff _ _ _ _).2 h3] at hr; cases hr
    obtain ⟨t, h2⟩ := Classical.not_forall.1 h2
    have ⟨ht, h2⟩ := Classical.not_imp.1 h2
    have ⟨hd, h2⟩ := Classical.not_imp.1 h2
    have htl : t < l.length := by omega
    refine ⟨⟨t, htl⟩, mem_leftsTo.2 ⟨ht, ?_⟩, ?_⟩
    · rw [hf t htl]; simpa using h2
    · rw [← depL_get]; exact hd
theorem set_found {l : List PlV} {found : List Bool} {g : Nat} (hl : found.length = l.length) (hf : ∀ t, t < l.length → found.getD t true = g.testBit t) (i : Nat) (hi : i < l.length) : ∀ t, t < l.length → (found.set i true).getD t true = (g ||| 2 ^ i).testBit t := fun t ht => by
  rw [testBit_or_pow, ← hf t ht, List.getD_eq_getElem?_getD, List.getD_eq_getElem?_getD, List.getElem?_set]
  by_cases e : i = t
  · subst e
    rw [if_pos rfl, if_pos (by omega), decide_eq_true rfl, Bool.or_true]; rfl
  · rw [if_neg e, decide_eq_false e, Bool.or_false]
/-- A permutation of them is accepted just if each is ready when it comes. -/
theorem blockGo_ok {l : List PlV} (h : Numbered l) : ∀ (s : List (Fin l.length)) (found : List Bool) (g i : Nat), found.length = l.length → (∀ t, t < l.length → found.getD t true = g.testBit t) → (∀ t ∈ s, g.testBit t.val = false) → s.Nodup →
    ((blockGo l (s.map l.get) found i).isNone = okGo (depL l) (s.map Fin.val) g)
  | [], _, _, _, _, _, _, _ => rfl
  | t :: r, found, g, i, hl, hf, hg, hn => by
    have hn2 := List.nodup_cons.1 hn
    rw [List.map_cons, List.map_cons]
    show (if findI l found (l.get t) < 0 then some i else blockGo l (r.map l.get) (found.set (findI l found (l.get t)).toNat true) (i + 1)).isNone = (readyB (depL l) g t.val t.val && okGo (depL l) (r.map Fin.val) (g ||| 2 ^ t.val))
    cases hr : readyB (depL l) g t.val t.val
    · rw [find_not h hf t hr]; rfl
    · rw [find_ready h hf t (hg t List.mem_cons_self) hr, if_neg (by omega), Int.toNat_natCast, Bool.true_and]
      refine blockGo_ok h r _ _ _ (by rw [List.length_set]; exact hl) (set_found hl hf t.val t.isLt) (fun y hy => ?_) hn2.2
      rw [testBit_or_pow, hg y (List.mem_cons_of_mem _ hy), Bool.false_or]
      refine decide_eq_false fun e => hn2.1 ?_
      rw [Fin.ext e]; exact hy
end Go.Proofs.Ytkpbmbhejpmboaa
