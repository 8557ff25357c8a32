/- The rule of XRegion for a region with one operation that turns what was there (its pivot): the first n operations come in any order ahead of it, but some late ones, of which nothing but a fixed value is asked, may come behind it; then the others in one order. -/
import Derived.Test.YtkpbmbhejpmboaaRegion4
namespace Go.Proofs.Ytkpbmbhejpmboaa
open Go.RowKit

/-- What is known of some of the values. -/
def KnowsB (F : Nat → Value → World → Prop) (b : Nat → Bool) (vs : Nat → Value) (w : World) : Nat → Nat → Prop
  | _, 0 => True
  | k, n + 1 => (b k = true → F k (vs k) w) ∧ KnowsB F b vs w (k + 1) n
theorem knowsB_of (F : Nat → Value → World → Prop) (b : Nat → Bool) (vs : Nat → Value) (w : World) : ∀ (n k : Nat), (∀ i, k ≤ i → i < k + n → b i = true → F i (vs i) w) → KnowsB F b vs w k n
  | 0, _, _ => trivial
  | n + 1, k, h => ⟨h k (Nat.le_refl _) (by omega), knowsB_of F b vs w n (k + 1) fun i h1 h2 => h i (by omega) (by omega)⟩
/-- Where the pivot alone ends. -/
def OneQP (Q : Exit → Act → World → Prop) (G : Value → World → Prop) (dst : Option Tmp) (a : Act) : Exit → Act → World → Prop
  | .normal, a', w' => ∃ v, a' = a.put dst v ∧ G v w'
  | e, a', w' => Q e a' w'
/-- One obligation for each late operation. -/
def StepsL (late : Nat → Bool) (P : Program) (ops : Array Oper) (l : List Oper) (Q : Exit → Act → World → Prop) (F : Nat → Value → World → Prop) (a0 : Act) : List Oper → Nat → Prop
  | [], _ => True
  | o :: r, k => (late k = true → ∀ (vs : Nat → Value) (w : World), wpList P ops (OneQR (fun a b => a = b) Q F k o.dst (putAll l 0 vs a0) w) [o] (putAll l 0 vs a0) w) ∧ StepsL late P ops l Q F a0 r (k + 1)
theorem stepsL_at {late : Nat → Bool} {P : Program} {ops : Array Oper} {l0 : List Oper} {Q : Exit → Act → World → Prop} {F : Nat → Value → World → Prop} {a0 : Act} : ∀ (l : List Oper) (k : Nat), StepsL late P ops l0 Q F a0 l k → ∀ (i : Nat) (o : Oper), l[i]? = some o → late (k + i) = true →
    ∀ (vs : Nat → Value) (w : World), wpList P ops (OneQR (fun a b => a = b) Q F (k + i) o.dst (putAll l0 0 vs a0) w) [o] (putAll l0 0 vs a0) w
  | [], _, _, _, _, h, _ => by cases h
  | p :: r, k, h, 0, o, ho, hl => by
    obtain rfl : p = o := by simpa using ho
    exact h.1 hl
  | p :: r, k, h, i + 1, o, ho, hl => by
    have := stepsL_at r (k + 1) h.2 i o (by simpa using ho) (by rw [show k + 1 + i = k + (i + 1) from by omega]; exact hl)
    rw [show k + 1 + i = k + (i + 1) from by omega] at this
    exact this
/-- The pivot stands behind all that are not late; what comes behind it, behind all. -/
def forcedP (all : List Oper) (n : Nat) (late : Nat → Bool) : Bool :=
  (List.range all.length).all fun k => decide (k < n) || (List.range k).all fun i => (k == n && late i) || (predB all i k || aheadB all all.length i k)
theorem forced_listedP {all : List Oper} {n : Nat} {late : Nat → Bool} (hf : forcedP all n late = true) {listed : Array Bool} (hc : Closed all listed) {k : Nat} {o : Oper} (ho : all[k]? = some o) (hk : n ≤ k) (hp : ∀ e ∈ o.after, Region.binds .any e = true → listed.getD e.on false = true) {i : Nat} (hi : i < k) (hl : k = n → late i = false) : listed.getD i false = true := by
  unfold forcedP at hf
  rw [List.all_eq_true] at hf
  have h1 := hf k (List.mem_range.2 (List.getElem?_eq_some_iff.1 ho).1)
  rw [Bool.or_eq_true, decide_eq_true_eq] at h1
  rcases h1 with h1 | h1
  · omega
  rw [List.all_eq_true] at h1
  have h2 := h1 i (List.mem_range.2 hi)
  rw [Bool.or_eq_true] at h2
  rcases h2 with h2 | h2
  · rw [Bool.and_eq_true, beq_iff_eq] at h2
    rw [hl h2.1] at h2
    cases h2.2
  rw [Bool.or_eq_true] at h2
  rcases h2 with h2 | h2
  · unfold predB at h2
    rw [ho] at h2
    simp only [List.any_eq_true, Bool.and_eq_true, beq_iff_eq] at h2
    obtain ⟨e, he, heq, hb⟩ := h2
    rw [← heq]
    exact hp e (by simpa using he) hb
  · exact ahead_listed hc _ _ _ h2 o ho hp
/-- Behind the pivot all stand behind all. -/
theorem forcedA_of {all : List Oper} {n : Nat} {late : Nat → Bool} (hf : forcedP all n late = true) : forcedA all (n + 1) = true := by
  unfold forcedP at hf
  unfold forcedA
  rw [List.all_eq_true] at hf ⊢
  intro k hk
  have h1 := hf k hk
  rw [Bool.or_eq_true, decide_eq_true_eq] at h1 ⊢
  rcases h1 with h1 | h1
  · left; omega
  by_cases hkn : k = n
  · left; omega
  right
  rw [List.all_eq_true] at h1 ⊢
  intro i hi
  have h2 := h1 i hi
  rw [Bool.or_eq_true] at h2
  rcases h2 with h2 | h2
  · rw [Bool.and_eq_true, beq_iff_eq] at h2; exact absurd h2.1 hkn
  · exact h2

theorem pivot_at {P : Program} {ops : Array Oper} {Q : Exit → Act → World → Prop} {G : Value → World → Prop} {i : Nat} {o : Oper} {a : Act} {w : World} (hall : ops[i]? = some o) (h : wpList P ops (OneQP Q G o.dst a) [o] a w) (K : Act → World → Prop) (hK : ∀ a' w', (∃ v, a' = a.put o.dst v ∧ G v w') → K a' w') :
    wpOp P ops Q i K a w := by
  unfold wpOp
  rw [hall]
  simp only [wpList] at h
  show if _ then _ else _
  split
  · rename_i hwant
    rw [if_pos hwant] at h
    rcases h with h | ⟨h1, h2⟩
    · exact .inl (Oper.wp_turn (fun _ _ _ h => h) (fun h => h) (Oper.wp_mono (fun a' w' h => hK a' w' h) h))
    · exact .inr ⟨h1, h2⟩
  · rename_i hwant
    rw [if_neg hwant] at h
    exact hK _ _ h
theorem late_at {P : Program} {ops : Array Oper} {Q : Exit → Act → World → Prop} {F : Nat → Value → World → Prop} {i k : Nat} {o : Oper} {a : Act} {w : World} (hall : ops[i]? = some o) (h : wpList P ops (OneQR (fun a b => a = b) Q F k o.dst a w) [o] a w) (K : Act → World → Prop) (hK : ∀ a' w', LeftR (fun a b => a = b) F k o.dst a w a' w' → K a' w') :
    wpOp P ops Q i K a w := by
  unfold wpOp
  rw [hall]
  simp only [wpList] at h
  show if _ then _ else _
  split
  · rename_i hwant
    rw [if_pos hwant] at h
    rcases h with h | ⟨h1, h2⟩
    · exact .inl (Oper.wp_turn (fun _ _ _ h => h) (fun h => h) (Oper.wp_mono (fun a' w' h => hK a' w' h) h))
    · exact .inr ⟨h1, h2⟩
  · rename_i hwant
    rw [if_neg hwant] at h
    exact hK _ _ h

theorem any_factsP {P : Program} {Q : Exit → Act → World → Prop} {all l : List Oper} {F : Nat → Value → World → Prop} {G : Value → World → Prop} {a0 : Act} {w0 : World} {R : World → World → Prop} {n : Nat} {late : Nat → Bool} (hl : l = all.take (n + 1)) (hn : n < all.length)
    (hRt : ∀ a b c, R a b → R b c → R a c) (hF : ∀ i v w w', F i v w → R w w' → F i v w') (hFl : ∀ i, late i = true → ∀ v w w', F i v w → F i v w') (hd : dstsApart l = true) (hb : edgesBack all 0 = true) (hf : forcedP all n late = true)
    (hs : StepsT R P all.toArray l Q F a0 w0 (all.take n) 0) (hsl : StepsL late P all.toArray l Q F a0 (all.take n) 0)
    (hp : ∀ o, all[n]? = some o → ∀ vs w, R w0 w → (∀ i, i < n → late i = false → F i (vs i) w) → wpList P all.toArray (OneQP Q G o.dst (putAll l 0 vs a0)) [o] (putAll l 0 vs a0) w)
    (he : ∀ vs w, G (vs n) w → (∀ i, i < n → late i = true → F i (vs i) w) → wpList P all.toArray Q (all.drop (n + 1)) (putAll l 0 vs a0) w) :
    ∀ (fuel : Nat) (listed : Array Bool) (vs : Nat → Value) (w : World), listed.size = all.length → ((List.range all.length).filter fun i => !listed.getD i true).length ≤ fuel → Closed all listed → (∀ j, j < n + 1 → listed.getD j true = false → vs j = oldAt l a0 j) →
      (listed.getD n true = false → R w0 w ∧ ∀ i, i < n → listed.getD i true = true → F i (vs i) w) →
      (listed.getD n true = true → G (vs n) w ∧ (∀ i, i < n → late i = false → listed.getD i true = true) ∧ ∀ i, i < n → late i = true → listed.getD i true = true → F i (vs i) w) →
      (∀ i, n < i → i < all.length → listed.getD i true = false) → wpAny P .any all.toArray Q fuel listed (putAll l 0 vs a0) w := by
  have hlen : l.length = n + 1 := by rw [hl, List.length_take]; omega
  have hget : ∀ i o, i < n + 1 → all[i]? = some o → l[i]? = some o := fun i o hi h => by rw [hl, List.getElem?_take_of_lt hi]; exact h
  have hend : ∀ (fuel : Nat) (listed : Array Bool) (vs : Nat → Value) (w : World), listed.size = all.length → ((List.range all.length).filter fun i => !listed.getD i true).length ≤ fuel → (∀ i, i < n + 1 → listed.getD i true = true) → G (vs n) w → (∀ i, i < n → late i = true → F i (vs i) w) →
      (∀ i, n < i → i < all.length → listed.getD i true = false) → wpAny P .any all.toArray Q fuel listed (putAll l 0 vs a0) w := by
    intro fuel listed vs w hsz hfu hall hG hL htl
    exact run_tail (n0 := n + 1) (t0 := all.drop (n + 1)) hb rfl (forcedA_of hf) _ 0 rfl (by omega) fuel listed _ w hsz hfu (fun i hi => hall i (by omega)) (fun i hi hil => htl i (by omega) hil) (he vs w hG hL)
  intro fuel
  induction fuel with
  | zero =>
    intro listed vs w hsz hfu hcl hold hA hB htl
    have hall : ∀ i, i < n + 1 → listed.getD i true = true := fun i hi => by
      cases hx : listed.getD i true with
      | true => rfl
      | false =>
        exfalso
        have : i ∈ (List.range all.length).filter fun i => !listed.getD i true := by
          rw [List.mem_filter]; exact ⟨List.mem_range.2 (by omega), by simp [hx]⟩
        have := List.length_pos_of_mem this
        omega
    obtain ⟨g1, _, g3⟩ := hB (hall n (by omega))
    exact hend 0 listed vs w hsz hfu hall g1 (fun i hi hli => g3 i hi hli (hall i (by omega))) htl
  | succ fuel ih =>
    intro listed vs w hsz hfu hcl hold hA hB htl
    by_cases hallL : ∀ i, i < n + 1 → listed.getD i true = true
    · obtain ⟨g1, _, g3⟩ := hB (hallL n (by omega))
      exact hend (fuel + 1) listed vs w hsz hfu hallL g1 (fun i hi hli => g3 i hi hli (hallL i (by omega))) htl
    · refine ⟨fun hr => ?_, fun i hi => ?_⟩
      · exfalso
        apply hallL
        have go : ∀ (m i : Nat), i < m → i < n + 1 → listed.getD i true = true := by
          intro m
          induction m with
          | zero => intro i h; omega
          | succ m ihm =>
            intro i h1 h2
            cases hx : listed.getD i true with
            | true => rfl
            | false =>
              exfalso
              have hia : i < all.length := by omega
              have : i ∈ Region.ready .any all.toArray listed := by
                rw [mem_ready]
                refine ⟨hx, all[i], by simp [hia], fun e hee hbd => ?_⟩
                have hlt := edges_back all 0 hb i all[i] (by simp [hia]) e hee hbd
                rw [same_getD (by omega)]
                exact ihm e.on (by omega) (by omega)
              rw [hr] at this
              cases this
        exact fun i hi => go (i + 1) i (by omega) hi
      · rw [mem_ready] at hi
        obtain ⟨h1, o, ho, hpre⟩ := hi
        have hoa : all[i]? = some o := by simpa using ho
        have hia : i < all.length := (List.getElem?_eq_some_iff.1 hoa).1
        have hle : i ≤ n := by
          by_cases h : i ≤ n
          · exact h
          · exfalso
            apply hallL
            intro j hj
            have := forced_listedP hf hcl hoa (by omega) hpre (i := j) (by omega) (fun e => by omega)
            rwa [same_getD (by omega)] at this
        have hol := hget i o (by omega) hoa
        have hput : ∀ v, (putAll l 0 vs a0).put o.dst v = putAll l 0 (upd vs i v) a0 := fun v => by
          have e := putAll_upd v l 0 vs a0 i o hol hd
          rw [Nat.zero_add] at e
          exact e.symm
        have hcnt : ((List.range all.length).filter fun j => !(listed.setIfInBounds i true).getD j true).length ≤ fuel := by
          have e2 : ((List.range all.length).filter fun j => !(listed.setIfInBounds i true).getD j true) = ((List.range all.length).filter fun j => !listed.getD j true).filter fun j => j != i := by
            rw [List.filter_filter]
            refine List.filter_congr fun j hj => ?_
            by_cases hji : j = i
            · subst hji
              have hin : j < listed.size := by omega
              simp [Array.getD_eq_getD_getElem?, hin]
            · rw [getD_set_ne _ (Ne.symm hji)]; simp [hji]
          rw [e2]
          have hmem : i ∈ (List.range all.length).filter fun j => !listed.getD j true := by
            rw [List.mem_filter]; exact ⟨List.mem_range.2 hia, by simp [h1]⟩
          have := (List.length_filter_lt_length_iff_exists (p := fun j => j != i) (l := (List.range all.length).filter fun j => !listed.getD j true)).2 ⟨i, hmem, by simp⟩
          omega
        have hcl2 : Closed all (listed.setIfInBounds i true) := by
          intro j q hq hjl x hx hbx
          by_cases hji : j = i
          · subst hji
            have := hoa.symm.trans hq; cases this
            exact getD_set_true (hpre x hx hbx)
          · rw [getD_set_ne _ (Ne.symm hji)] at hjl
            exact getD_set_true (hcl j q hq hjl x hx hbx)
        have hin : i < listed.size := by omega
        have hset : (listed.setIfInBounds i true).getD i true = true := by simp [Array.getD_eq_getD_getElem?, hin]
        have hsame : ∀ j, j ≠ i → (listed.setIfInBounds i true).getD j true = listed.getD j true := fun j hj => getD_set_ne _ (Ne.symm hj)
        have hold2 : ∀ v, ∀ j, j < n + 1 → (listed.setIfInBounds i true).getD j true = false → upd vs i v j = oldAt l a0 j := fun v j hj hlj => by
          by_cases hji : j = i
          · subst hji; rw [hset] at hlj; cases hlj
          · rw [upd_other _ _ hji]
            rw [hsame j hji] at hlj
            exact hold j hj hlj
        have htl2 : ∀ j, n < j → j < all.length → (listed.setIfInBounds i true).getD j true = false := fun j hj hjl => by
          rw [hsame j (by omega)]; exact htl j hj hjl
        by_cases hin2 : i = n
        · subst hin2
          obtain ⟨hR, hFs⟩ := hA h1
          have hnl : ∀ j, j < i → late j = false → listed.getD j true = true := fun j hj hlj => by
            have := forced_listedP hf hcl hoa (Nat.le_refl _) hpre (i := j) hj (fun _ => hlj)
            rwa [same_getD (by omega)] at this
          refine pivot_at ho (hp o hoa vs w hR fun j hj hlj => hFs j hj (hnl j hj hlj)) _ fun a' w' ⟨v, ha', hv⟩ => ?_
          subst ha'
          rw [hput]
          refine ih _ (upd vs i v) w' (by simpa using hsz) hcnt hcl2 (hold2 v) (fun h => by rw [hset] at h; cases h) (fun _ => ⟨by rw [upd_same]; exact hv, fun j hj hlj => by rw [hsame j (by omega)]; exact hnl j hj hlj, fun j hj hlj hjl => ?_⟩) htl2
          rw [hsame j (by omega)] at hjl
          rw [upd_other _ _ (by omega)]
          exact hFl j hlj _ _ _ (hFs j hj hjl)
        · have hlt : i < n := by omega
          have hne : n ≠ i := by omega
          have hoT : (all.take n)[i]? = some o := by rw [List.getElem?_take_of_lt hlt]; exact hoa
          cases hpv : listed.getD n true with
          | false =>
            obtain ⟨hR, hFs⟩ := hA hpv
            have hknow : Knows F vs w o.after.toList := by
              refine knows_of F vs w _ fun e hee hbind => ?_
              have hee' : e ∈ o.after := by simpa using hee
              have hlt2 := edges_back all 0 hb i o hoa e hee' hbind
              refine hFs e.on (by omega) ?_
              rw [← same_getD (by omega)]
              exact hpre e hee' hbind
            have hstep := stepsT_at (all.take n) 0 hs i o hoT (by simpa using ho) vs w hR hknow (by
              intro j hj
              rw [Nat.zero_add] at hj
              unfold predB at hj
              cases hoj : l[j]? with
              | none => rw [hoj] at hj; cases hj
              | some oj =>
                rw [hoj] at hj
                simp only [List.any_eq_true, Bool.and_eq_true, beq_iff_eq] at hj
                obtain ⟨e, he, heq, hbe⟩ := hj
                have hjl : j < n + 1 := by have := (List.getElem?_eq_some_iff.1 hoj).1; omega
                have hoj' : all[j]? = some oj := by rw [hl, List.getElem?_take_of_lt hjl] at hoj; exact hoj
                refine hold j hjl ?_
                rw [← same_getD (by omega)]
                cases hlj : listed.getD j false with
                | false => rfl
                | true =>
                  have := hcl j oj hoj' hlj e (by simpa using he) hbe
                  rw [heq, same_getD (by omega), h1] at this; cases this)
            rw [Nat.zero_add] at hstep
            refine hstep _ fun a' w' ⟨v, ha', hv, hw'⟩ => ?_
            subst ha'
            rw [hput]
            refine ih _ (upd vs i v) w' (by simpa using hsz) hcnt hcl2 (hold2 v) (fun _ => ⟨hRt _ _ _ hR hw', fun j hj hjl => ?_⟩) (fun h => by rw [hsame n hne, hpv] at h; cases h) htl2
            by_cases hji : j = i
            · subst hji; rw [upd_same]; exact hv
            · rw [upd_other _ _ hji]
              rw [hsame j hji] at hjl
              exact hF _ _ _ _ (hFs j hj hjl) hw'
          | true =>
            obtain ⟨g1, g2, g3⟩ := hB hpv
            have hli : late i = true := by
              cases hx : late i with
              | true => rfl
              | false => rw [g2 i hlt hx] at h1; cases h1
            have hl2 := stepsL_at (all.take n) 0 hsl i o hoT (by rw [Nat.zero_add]; exact hli) vs w
            rw [Nat.zero_add] at hl2
            refine late_at ho hl2 _ fun a' w' ⟨v, ha', hv, hw'⟩ => ?_
            subst ha'
            subst hw'
            rw [hput]
            refine ih _ (upd vs i v) w (by simpa using hsz) hcnt hcl2 (hold2 v) (fun h => by rw [hsame n hne, hpv] at h; cases h) (fun _ => ⟨by rw [upd_other _ _ hne]; exact g1, fun j hj hlj => ?_, fun j hj hlj hjl => ?_⟩) htl2
            · by_cases hji : j = i
              · subst hji; exact hset
              · rw [hsame j hji]; exact g2 j hj hlj
            · by_cases hji : j = i
              · subst hji; rw [upd_same]; exact hv
              · rw [upd_other _ _ hji]
                rw [hsame j hji] at hjl
                exact g3 j hj hlj hjl

/-- What is said of a value alone, of no world. -/
def LateFree (late : Nat → Bool) : List (Value → World → Prop) → Nat → Prop
  | [], _ => True
  | F :: r, k => (late k = true → ∀ v w w', F v w → F v w') ∧ LateFree late r (k + 1)
theorem lateFree_at {late : Nat → Bool} : ∀ (Fs : List (Value → World → Prop)) (k : Nat), LateFree late Fs k → ∀ i, late (k + i) = true → ∀ v w w', nthF Fs i v w → nthF Fs i v w'
  | [], _, _, _, _, _, _, _, h => h
  | _ :: _, _, h, 0, hl, v, w, w', hf => h.1 hl v w w' hf
  | _ :: r, k, h, i + 1, hl, v, w, w', hf => lateFree_at r (k + 1) h.2 i (by rw [show k + 1 + i = k + (i + 1) from by omega]; exact hl) v w w' hf
/-- THE RULE: the first n operations in whatever order, the pivot (place n) behind all of them but the late ones, then the others. -/
theorem wp_region_pivot {P : Program} {Q : Exit → Act → World → Prop} {all : List Oper} {a0 : Act} {w0 : World} {id : Nat} (n : Nat) (late : Nat → Bool) (G : Value → World → Prop) (hm : P.follows .mixedOrders = true)
    (hd : dstsApart (all.take (n + 1)) = true) (hb : edgesBack all 0 = true) (hf : forcedP all n late = true) (hn : n < all.length) (Fs : List (Value → World → Prop)) (hF : AllStable Fs) (hfr : LateFree late Fs 0)
    (hs : StepsT Since P all.toArray (all.take (n + 1)) Q (nthF Fs) a0 w0 (all.take n) 0)
    (hsl : StepsL late P all.toArray (all.take (n + 1)) Q (nthF Fs) a0 (all.take n) 0)
    (hp : ∀ vs w, Since w0 w → KnowsB (nthF Fs) (fun i => !late i) vs w 0 n → wpList P all.toArray (OneQP Q G ((all[n]?).bind (·.dst)) (putAll (all.take (n + 1)) 0 vs a0)) ((all.drop n).take 1) (putAll (all.take (n + 1)) 0 vs a0) w)
    (he : ∀ vs w, G (vs n) w → KnowsB (nthF Fs) late vs w 0 n → wpList P all.toArray Q (all.drop (n + 1)) (putAll (all.take (n + 1)) 0 vs a0) w) : (Code.region id all.toArray true).wp P Q a0 w0 := by
  refine wp_region_any hm ?_
  have e := putAll_old (oldAt (all.take (n + 1)) a0) a0 (all.take (n + 1)) 0 (fun i o d hi hdst => by simp only [oldAt, Nat.zero_add, hi, Option.bind_some, hdst])
  have hrep : ∀ i, i < all.length → (Array.replicate all.length false).getD i true = false := fun i hi => by simp [Array.getD_eq_getD_getElem?, hi]
  have h := any_factsP (P := P) (Q := Q) (F := nthF Fs) (G := G) (a0 := a0) (w0 := w0) (R := Since) (late := late) (l := all.take (n + 1)) rfl hn (fun _ _ _ => Since.trans) (nthF_stable Fs hF) (fun i hi => lateFree_at Fs 0 hfr i (by rw [Nat.zero_add]; exact hi)) hd hb hf hs hsl
    (fun o ho vs w hR hk => by
      have h := hp vs w hR (knowsB_of _ _ _ _ n 0 fun i _ hi hl => hk i (by omega) (by simpa using hl))
      have ed : (all.drop n).take 1 = [o] := by rw [List.drop_eq_getElem_cons hn]; simp [(List.getElem?_eq_some_iff.1 ho).2]
      rw [ed, ho] at h
      exact h)
    (fun vs w hG hk => he vs w hG (knowsB_of _ _ _ _ n 0 fun i _ hi hl => hk i (by omega) hl))
    all.length (Array.replicate all.length false) (oldAt (all.take (n + 1)) a0) { w0 with drawn := w0.drawn + 1 } (by simp) (Nat.le_trans (List.length_filter_le _ _) (by simp))
    (fun i o ho hl => by
      have hi : i < all.length := (List.getElem?_eq_some_iff.1 ho).1
      simp [Array.getD_eq_getD_getElem?, hi] at hl)
    (fun _ _ _ => rfl)
    (fun _ => ⟨(Since.refl _).drew, fun i hi hl => by rw [hrep i (by omega)] at hl; cases hl⟩)
    (fun hl => by rw [hrep n hn] at hl; cases hl)
    (fun i _ hi => hrep i hi)
  rw [e] at h
  exact h
end Go.Proofs.Ytkpbmbhejpmboaa
