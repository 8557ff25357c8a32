/- A region that draws its order and writes rows of its own: what the last operation will write over is known till then. -/
import Derived.Test.YtkpbmbhejpmboaaRegion2
namespace Go.Proofs.Ytkpbmbhejpmboaa
open Go.RowKit

def Steps3 (P : Program) (all : Array Oper) (Q : Exit → Act → World → Prop) (F : Nat → Value → World → Prop) (cons : List Bool) (a0 : Act) (w0 : World) (t : Nat) (ov : Value) : List Oper → Nat → Prop
  | [], _ => True
  | o :: r, k => (∀ (vs : Nat → Value) (w : World), Since w0 w → (k ≠ t → vs t = ov) → KnowsD F vs w o.after.toList →
      wpList P all (TwoQ Q F cons w0 k o.dst (putAll all.toList 0 vs a0) w) [o] (putAll all.toList 0 vs a0) w) ∧ Steps3 P all Q F cons a0 w0 t ov r (k + 1)
theorem steps3_at {P : Program} {all : Array Oper} {Q : Exit → Act → World → Prop} {F : Nat → Value → World → Prop} {cons : List Bool} {a0 : Act} {w0 : World} {t : Nat} {ov : Value} : ∀ (l : List Oper) (k : Nat), Steps3 P all Q F cons a0 w0 t ov l k → ∀ (i : Nat) (o : Oper), l[i]? = some o → all[k + i]? = some o →
    ∀ (vs : Nat → Value) (w : World), Since w0 w → (k + i ≠ t → vs t = ov) → KnowsD F vs w o.after.toList → ∀ K : Act → World → Prop, (∀ a' w', Left2 F cons w0 (k + i) o.dst (putAll all.toList 0 vs a0) w a' w' → K a' w') →
      wpOp P all Q (k + i) K (putAll all.toList 0 vs a0) w
  | [], _, _, _, _, h, _ => by cases h
  | p :: r, k, h, 0, o, ho, hall => by
    obtain rfl : p = o := by simpa using ho
    intro vs w hw hov hk K hK
    have := h.1 vs w hw hov hk
    unfold wpOp
    rw [hall]
    simp only [wpList] at this
    show if _ then _ else _
    split
    · rename_i hwant
      rw [if_pos hwant] at this
      rcases this with this | ⟨h1, h2⟩
      · exact .inl (Oper.wp_turn (fun _ _ _ h => h) (fun h => h) (Oper.wp_mono (fun a' w' h => hK a' w' h) this))
      · exact .inr ⟨h1, h2⟩
    · rename_i hwant
      rw [if_neg hwant] at this
      exact hK _ _ this
  | p :: r, k, h, i + 1, o, ho, hall => by
    have := steps3_at r (k + 1) h.2 i o (by simpa using ho) (by rw [show k + 1 + i = k + (i + 1) from by omega]; exact hall)
    rw [show k + 1 + i = k + (i + 1) from by omega] at this
    exact this

section
variable {P : Program} {Q : Exit → Act → World → Prop} {l : List Oper} {F : Nat → Value → World → Prop} {a0 : Act} {w0 : World} {fixed cons fin : List Bool} {t : Nat} {ov : Value}

theorem any_facts3 (hF : ∀ i v w w', F i v w → Since w w' → F i v w') (hfix : ∀ i, getB fixed i = true → ∀ v w w', F i v w → F i v w') (hwin : windows l fixed cons fin = true) (hd : dstsApart l = true) (hb : edgesBack l 0 = true)
    (hs : Steps3 P l.toArray Q F cons a0 w0 t ov l 0)
    (he : ∀ vs w, Since w0 w → KnowsFin F vs w fin 0 → Q .normal (putAll l 0 vs a0) w) (hfl : fin.length = l.length) (ht : t < l.length) (hlast : ∀ i, i < l.length → i ≠ t → aheadB l l.length i t = true) :
    ∀ (fuel : Nat) (listed : Array Bool) (vs : Nat → Value) (w : World), listed.size = l.length → ((List.range l.length).filter fun i => !listed.getD i true).length ≤ fuel → Since w0 w → Closed l listed →
      (∀ i, i < l.length → listed.getD i true = true → Needed l fin listed i → F i (vs i) w) → (listed.getD t true = false → vs t = ov) → wpAny P .any l.toArray Q fuel listed (putAll l 0 vs a0) w := by
  have hsame : ∀ (listed : Array Bool) (i : Nat), listed.size = l.length → i < l.length → listed.getD i false = listed.getD i true := by
    intro listed i hsz hi
    have hin : i < listed.size := by omega
    rw [Array.getD_eq_getD_getElem?, Array.getD_eq_getD_getElem?, Array.getElem?_eq_getElem hin]; rfl
  have hend : ∀ (listed : Array Bool) (vs : Nat → Value) (w : World), listed.size = l.length → Region.ready .any l.toArray listed = [] → Since w0 w →
      (∀ i, i < l.length → listed.getD i true = true → Needed l fin listed i → F i (vs i) w) → Q .normal (putAll l 0 vs a0) w := by
    intro listed vs w hsz hr hw hk
    have all : ∀ (n i : Nat), i < n → i < l.length → listed.getD i true = true := by
      intro n
      induction n with
      | zero => intro i h; omega
      | succ n ih =>
        intro i h1 h2
        cases hl : listed.getD i true with
        | true => rfl
        | false =>
          exfalso
          have : i ∈ Region.ready .any l.toArray listed := by
            rw [mem_ready]
            have ho : l[i]? = some l[i] := List.getElem?_eq_getElem h2
            refine ⟨hl, l[i], by simp, fun e hee hbd => ?_⟩
            have hlt := edges_back l 0 hb i l[i] ho e hee hbd
            have := ih e.on (by omega) (by omega)
            rw [hsame listed e.on hsz (by omega)]; exact this
          rw [hr] at this
          cases this
    refine he vs w hw (knowsFin_of F vs w fin 0 fun i hi => ?_)
    have hlt : i < l.length := by
      rw [← hfl]
      rcases Nat.lt_or_ge i fin.length with h | h
      · exact h
      · simp [getB, List.getD_eq_getElem?_getD, List.getElem?_eq_none h] at hi
    rw [Nat.zero_add]
    exact hk i hlt (all (i + 1) i (by omega) hlt) (.inl hi)
  intro fuel
  induction fuel with
  | zero =>
    intro listed vs w hsz hn hw _ hk _
    have hr : Region.ready .any l.toArray listed = [] := by
      rw [List.eq_nil_iff_forall_not_mem]
      intro i hi
      rw [mem_ready] at hi
      obtain ⟨h1, o, ho, _⟩ := hi
      have hlt : i < l.length := by simpa using (Array.getElem?_eq_some_iff.1 ho).1
      have : i ∈ (List.range l.length).filter fun i => !listed.getD i true := by
        rw [List.mem_filter]; exact ⟨List.mem_range.2 hlt, by simp [h1]⟩
      have := List.length_pos_of_mem this
      omega
    exact ⟨hr, hend listed vs w hsz hr hw hk⟩
  | succ fuel ih =>
    intro listed vs w hsz hn hw hcl hk hvt
    refine ⟨fun hr => hend listed vs w hsz hr hw hk, fun i hi => ?_⟩
    rw [mem_ready] at hi
    obtain ⟨h1, o, ho, hpre⟩ := hi
    have hol : l[i]? = some o := by simpa using ho
    have hlt : i < l.length := (List.getElem?_eq_some_iff.1 hol).1
    have hknow : KnowsD F vs w o.after.toList := by
      refine knowsD_of F vs w _ fun e hee hg => ?_
      have hee' : e ∈ o.after := by simpa using hee
      have hbind : Region.binds .any e = true := by unfold Region.binds; rcases hg with hg | hg <;> rw [hg]
      have hlt2 := edges_back l 0 hb i o hol e hee' hbind
      have hon : e.on < l.length := by omega
      refine hk e.on hon (by rw [← hsame listed e.on hsz hon]; exact hpre e hee' hbind) (.inr ⟨i, hlt, h1, ?_⟩)
      unfold usesB
      rw [hol]
      simp only [List.any_eq_true, Bool.and_eq_true, beq_iff_eq]
      refine ⟨e, hee, rfl, ?_⟩
      rcases hg with hg | hg <;> rw [hg]
    have hov : i ≠ t → vs t = ov := fun hit => hvt (by
      cases hlt2 : listed.getD t true with
      | false => rfl
      | true =>
        have hot : l[t]? = some l[t] := List.getElem?_eq_getElem ht
        have := ahead_listed hcl _ i t (hlast i hlt hit) l[t] hot (hcl t l[t] hot (by rw [hsame listed t hsz ht]; exact hlt2))
        rw [hsame listed i hsz hlt, h1] at this; cases this)
    have hstep := steps3_at l 0 hs i o hol (by simpa using hol) vs w hw (by rw [Nat.zero_add]; exact hov) hknow
    rw [Nat.zero_add] at hstep
    refine hstep _ fun a' w' ⟨v, ha', hv, hw'⟩ => ?_
    subst ha'
    have e := putAll_upd v l 0 vs a0 i o hol hd
    rw [Nat.zero_add] at e
    rw [show l.toArray.toList = l from rfl, ← e]
    have hw0 : Since w0 w' := by
      split at hw'
      · exact hw'
      · exact hw.trans hw'
    refine ih (listed.setIfInBounds i true) (upd vs i v) w' (by simpa using hsz) ?_ hw0 ?_ ?_ ?_
    · have e2 : ((List.range l.length).filter fun j => !(listed.setIfInBounds i true).getD j true) = ((List.range l.length).filter fun j => !listed.getD j true).filter fun j => j != i := by
        rw [List.filter_filter]
        refine List.filter_congr fun j hj => ?_
        by_cases hji : j = i
        · subst hji
          have hin : j < listed.size := by omega
          simp [Array.getD_eq_getD_getElem?, hin]
        · rw [getD_set_ne _ (Ne.symm hji)]; simp [hji]
      rw [e2]
      have hmem : i ∈ (List.range l.length).filter fun j => !listed.getD j true := by
        rw [List.mem_filter]; exact ⟨List.mem_range.2 hlt, by simp [h1]⟩
      have := (List.length_filter_lt_length_iff_exists (p := fun j => j != i) (l := (List.range l.length).filter fun j => !listed.getD j true)).2 ⟨i, hmem, by simp⟩
      omega
    · intro j p hp hjl x hx hbx
      by_cases hji : j = i
      · subst hji
        have := hol.symm.trans hp; cases this
        exact getD_set_true (hpre x hx hbx)
      · rw [getD_set_ne _ (Ne.symm hji)] at hjl
        exact getD_set_true (hcl j p hp hjl x hx hbx)
    · intro j hj hlj hneed
      by_cases hji : j = i
      · subst hji; rw [upd_same]; exact hv
      · rw [upd_other _ _ hji]
        rw [getD_set_ne _ (Ne.symm hji)] at hlj
        have hneed0 : Needed l fin listed j := by
          rcases hneed with h | ⟨k, hk1, hk2, hk3⟩
          · exact .inl h
          · refine .inr ⟨k, hk1, ?_, hk3⟩
            by_cases hki : k = i
            · subst hki; exact h1
            · rwa [getD_set_ne _ (Ne.symm hki)] at hk2
        have hFj := hk j hj hlj hneed0
        cases hcons : getB cons i with
        | false => rw [hcons] at hw'; exact hF _ _ _ _ hFj hw'
        | true =>
          have hrow := List.all_eq_true.1 hwin i (List.mem_range.2 hlt)
          rw [hcons] at hrow
          simp only [Bool.not_true, Bool.false_or] at hrow
          have hcell := List.all_eq_true.1 hrow j (List.mem_range.2 hj)
          simp only [Bool.or_eq_true, beq_iff_eq, hji, false_or, Bool.not_eq_true'] at hcell
          rcases hcell with (hfx | hah) | hno
          · exact hfix j hfx _ _ _ hFj
          · exfalso
            have hoj : l[j]? = some l[j] := List.getElem?_eq_getElem hj
            have := ahead_listed hcl _ i j hah l[j] hoj (hcl j l[j] hoj (by rw [hsame listed j hsz hj]; exact hlj))
            rw [hsame listed i hsz hlt, h1] at this; cases this
          · exfalso
            rw [Bool.or_eq_false_iff] at hno
            rcases hneed with h | ⟨k, hk1, hk2, hk3⟩
            · rw [hno.1] at h; cases h
            · have hki : k ≠ i := by
                intro hki; subst hki
                have hin : k < listed.size := by omega
                simp [Array.getD_eq_getD_getElem?, hin] at hk2
              have hk2' : listed.getD k true = false := by rwa [getD_set_ne _ (Ne.symm hki)] at hk2
              have hnk := List.any_eq_false.1 hno.2 k (List.mem_range.2 hk1)
              simp only [hk3, bne_iff_ne, ne_eq, hki, not_false_eq_true, Bool.and_eq_true, Bool.not_eq_true', true_and, Bool.not_eq_false] at hnk
              have hreach : aheadB l l.length k i = true := by
                cases hr : aheadB l l.length k i with
                | true => rfl
                | false => exact absurd hr (by simpa using hnk)
              have := ahead_listed hcl _ k i hreach o hol hpre
              rw [hsame listed k hsz hk1, hk2'] at this; cases this
    · intro hft
      have hti : t ≠ i := fun e => by
        subst e
        have hin : t < listed.size := by omega
        simp [Array.getD_eq_getD_getElem?, hin] at hft
      rw [upd_other _ _ hti]
      exact hov fun e => hti e.symm
end

/-- THE RULE. -/
theorem wp_region_windows3 {P : Program} {Q : Exit → Act → World → Prop} {l : List Oper} {a0 : Act} {w0 : World} {id : Nat} (fixed cons fin : List Bool) (t : Nat) (ov : Value) (hm : P.follows .mixedOrders = true) (hd : dstsApart l = true) (hb : edgesBack l 0 = true)
    (hwin : windows l fixed cons fin = true) (hfl : fin.length = l.length) (Fs : List (Value → World → Prop)) (hF : AllStable Fs) (hfx : AllFixed Fs fixed) (hfl2 : fixed.length ≤ Fs.length)
    (hov : oldAt l a0 t = ov) (ht : t < l.length) (hlast : ((List.range l.length).all fun i => i == t || aheadB l l.length i t) = true)
    (hs : Steps3 P l.toArray Q (nthF Fs) cons a0 w0 t ov l 0)
    (he : ∀ vs w, Since w0 w → KnowsFin (nthF Fs) vs w fin 0 → Q .normal (putAll l 0 vs a0) w) : (Code.region id l.toArray true).wp P Q a0 w0 := by
  refine wp_region_any hm ?_
  have e := putAll_old (oldAt l a0) a0 l 0 (fun i o d hi hdst => by simp [oldAt, hi, hdst])
  have h := any_facts3 (nthF_stable Fs hF) (nthF_fixed Fs fixed hfl2 hfx) hwin hd hb hs he hfl ht (fun i hi hne => by have h := List.all_eq_true.1 hlast i (List.mem_range.2 hi); rw [Bool.or_eq_true, beq_iff_eq] at h; exact h.resolve_left hne) l.length (Array.replicate l.length false) (oldAt l a0) { w0 with drawn := w0.drawn + 1 } (by simp) (Nat.le_trans (List.length_filter_le _ _) (by simp)) (Since.refl w0).drew
    (fun i o ho hl => by
      have hi : i < l.length := (List.getElem?_eq_some_iff.1 ho).1
      simp [Array.getD_eq_getD_getElem?, hi] at hl)
    (fun i hi hl => by simp [Array.getD_eq_getD_getElem?, hi] at hl) (fun _ => hov)
  rw [e] at h
  simpa using h
end Go.Proofs.Ytkpbmbhejpmboaa
