/- The rule of XRegion over any relation between the world before and behind an operation. -/
import Derived.Test.YtkmkfhbekikleaaDoorRegion2
namespace Go.Proofs.YtkmkfhbekikleaaDoor
open Go.RowKit

/-- What an operation leaves: its value, of which F says what is known. -/
def LeftR (R : World → World → Prop) (F : Nat → Value → World → Prop) (i : Nat) (dst : Option Tmp) (a : Act) (w : World) (a' : Act) (w' : World) : Prop := ∃ v, a' = a.put dst v ∧ F i v w' ∧ R w w'

/-- Where an operation alone ends: with its value; or as the region would end. -/
def OneQR (R : World → World → Prop) (Q : Exit → Act → World → Prop) (F : Nat → Value → World → Prop) (i : Nat) (dst : Option Tmp) (a : Act) (w : World) : Exit → Act → World → Prop
  | .normal, a', w' => LeftR R F i dst a w a' w'
  | e, a', w' => Q e a' w'

/-- One obligation for each operation. -/
def StepsR (R : World → World → Prop) (P : Program) (all : Array Oper) (Q : Exit → Act → World → Prop) (F : Nat → Value → World → Prop) (a0 : Act) (w0 : World) : List Oper → Nat → Prop
  | [], _ => True
  | o :: r, k => (∀ (vs : Nat → Value) (w : World), R w0 w → Knows F vs w o.after.toList → (∀ j, predB all.toList k j = true → vs j = oldAt all.toList a0 j) →
      wpList P all (OneQR R Q F k o.dst (putAll all.toList 0 vs a0) w) [o] (putAll all.toList 0 vs a0) w) ∧ StepsR R P all Q F a0 w0 r (k + 1)
theorem stepsR_at {R : World → World → Prop} {P : Program} {all : Array Oper} {Q : Exit → Act → World → Prop} {F : Nat → Value → World → Prop} {a0 : Act} {w0 : World} : ∀ (l : List Oper) (k : Nat), StepsR R P all Q F a0 w0 l k → ∀ (i : Nat) (o : Oper), l[i]? = some o → all[k + i]? = some o →
    ∀ (vs : Nat → Value) (w : World), R w0 w → Knows F vs w o.after.toList → (∀ j, predB all.toList (k + i) j = true → vs j = oldAt all.toList a0 j) → ∀ K : Act → World → Prop, (∀ a' w', LeftR R F (k + i) o.dst (putAll all.toList 0 vs a0) w a' w' → K a' w') →
      wpOp P all Q (k + i) K (putAll all.toList 0 vs a0) w
  | [], _, _, _, _, h, _ => by cases h
  | p :: r, k, h, 0, o, ho, hall => by
    obtain rfl : p = o := by simpa using ho
    intro vs w hw hk hold K hK
    have := h.1 vs w hw hk hold
    unfold wpOp
    rw [hall]
    simp only [wpList] at this
    show if _ then _ else _
    split
    · rename_i hwant
      rw [if_pos hwant] at this
      rcases this with this | ⟨h1, h2⟩
      · exact .inl (Oper.wp_turn (fun _ _ _ h => h) (fun h => h) (Oper.wp_mono (fun a' w' h => hK a' w' h) this))
      · exact .inr ⟨h1, h2⟩
    · rename_i hwant
      rw [if_neg hwant] at this
      exact hK _ _ this
  | p :: r, k, h, i + 1, o, ho, hall => by
    have := stepsR_at r (k + 1) h.2 i o (by simpa using ho) (by rw [show k + 1 + i = k + (i + 1) from by omega]; exact hall)
    rw [show k + 1 + i = k + (i + 1) from by omega] at this
    exact this

section
variable {P : Program} {Q : Exit → Act → World → Prop} {l : List Oper} {F : Nat → Value → World → Prop} {a0 : Act} {w0 : World} {R : World → World → Prop}

theorem any_factsR (hRt : ∀ a b c, R a b → R b c → R a c) (hF : ∀ i v w w', F i v w → R w w' → F i v w') (hd : dstsApart l = true) (hb : edgesBack l 0 = true)
    (hs : StepsR R P l.toArray Q F a0 w0 l 0)
    (he : ∀ vs w, R w0 w → KnowsAll F vs w 0 l.length → Q .normal (putAll l 0 vs a0) w) :
    ∀ (fuel : Nat) (listed : Array Bool) (vs : Nat → Value) (w : World), listed.size = l.length → ((List.range l.length).filter fun i => !listed.getD i true).length ≤ fuel → R w0 w → Closed l listed → (∀ j, j < l.length → listed.getD j true = false → vs j = oldAt l a0 j) →
      (∀ i, i < l.length → listed.getD i true = true → F i (vs i) w) → wpAny P .any l.toArray Q fuel listed (putAll l 0 vs a0) w := by
  have hend : ∀ (listed : Array Bool) (vs : Nat → Value) (w : World), listed.size = l.length → Region.ready .any l.toArray listed = [] → R w0 w →
      (∀ i, i < l.length → listed.getD i true = true → F i (vs i) w) → Q .normal (putAll l 0 vs a0) w := by
    intro listed vs w hsz hr hw hk
    refine he vs w hw (knowsAll_of F vs w _ 0 fun i _ hi => hk i (by omega) ?_)
    have all : ∀ (n i : Nat), i < n → i < l.length → listed.getD i true = true := by
      intro n
      induction n with
      | zero => intro i h; omega
      | succ n ih =>
        intro i h1 h2
        cases hl : listed.getD i true with
        | true => rfl
        | false =>
          exfalso
          have : i ∈ Region.ready .any l.toArray listed := by
            rw [mem_ready]
            have ho : l[i]? = some l[i] := List.getElem?_eq_getElem h2
            refine ⟨hl, l[i], by simp, fun e hee hbd => ?_⟩
            have hlt := edges_back l 0 hb i l[i] ho e hee hbd
            have := ih e.on (by omega) (by omega)
            have hin : e.on < listed.size := by omega
            rw [Array.getD_eq_getD_getElem?, Array.getElem?_eq_getElem hin] at this ⊢
            simpa using this
          rw [hr] at this
          cases this
    exact all (i + 1) i (by omega) (by omega)
  have hsame : ∀ (listed : Array Bool) (i : Nat), listed.size = l.length → i < l.length → listed.getD i false = listed.getD i true := by
    intro listed i hsz hi
    have hin : i < listed.size := by omega
    rw [Array.getD_eq_getD_getElem?, Array.getD_eq_getD_getElem?, Array.getElem?_eq_getElem hin]; rfl
  intro fuel
  induction fuel with
  | zero =>
    intro listed vs w hsz hn hw _ _ hk
    have hr : Region.ready .any l.toArray listed = [] := by
      rw [List.eq_nil_iff_forall_not_mem]
      intro i hi
      rw [mem_ready] at hi
      obtain ⟨h1, o, ho, _⟩ := hi
      have hlt : i < l.length := by simpa using (Array.getElem?_eq_some_iff.1 ho).1
      have : i ∈ (List.range l.length).filter fun i => !listed.getD i true := by
        rw [List.mem_filter]; exact ⟨List.mem_range.2 hlt, by simp [h1]⟩
      have := List.length_pos_of_mem this
      omega
    exact ⟨hr, hend listed vs w hsz hr hw hk⟩
  | succ fuel ih =>
    intro listed vs w hsz hn hw hcl hold hk
    refine ⟨fun hr => hend listed vs w hsz hr hw hk, fun i hi => ?_⟩
    rw [mem_ready] at hi
    obtain ⟨h1, o, ho, hpre⟩ := hi
    have hol : l[i]? = some o := by simpa using ho
    have hlt : i < l.length := (List.getElem?_eq_some_iff.1 hol).1
    have hknow : Knows F vs w o.after.toList := by
      refine knows_of F vs w _ fun e hee hbind => ?_
      have hee' : e ∈ o.after := by simpa using hee
      have hlt2 := edges_back l 0 hb i o hol e hee' hbind
      have hon : e.on < l.length := by omega
      refine hk e.on hon ?_
      have := hpre e hee' hbind
      have hin : e.on < listed.size := by omega
      rw [Array.getD_eq_getD_getElem?, Array.getElem?_eq_getElem hin] at this ⊢
      simpa using this
    have hstep := stepsR_at l 0 hs i o hol (by simpa using hol) vs w hw hknow (by
      intro j hj
      rw [Nat.zero_add] at hj
      change predB l i j = true at hj
      unfold predB at hj
      cases hoj : l[j]? with
      | none => rw [hoj] at hj; cases hj
      | some oj =>
        rw [hoj] at hj
        simp only [List.any_eq_true, Bool.and_eq_true, beq_iff_eq] at hj
        obtain ⟨e, he, heq, hbe⟩ := hj
        have hjl : j < l.length := (List.getElem?_eq_some_iff.1 hoj).1
        refine hold j hjl ?_
        rw [← hsame listed j hsz hjl]
        cases hlj : listed.getD j false with
        | false => rfl
        | true =>
          have := hcl j oj hoj hlj e (by simpa using he) hbe
          rw [heq, hsame listed i hsz hlt, h1] at this; cases this)
    rw [Nat.zero_add] at hstep
    refine hstep _ fun a' w' ⟨v, ha', hv, hw'⟩ => ?_
    subst ha'
    have e := putAll_upd v l 0 vs a0 i o hol hd
    rw [Nat.zero_add] at e
    rw [show l.toArray.toList = l from rfl, ← e]
    refine ih (listed.setIfInBounds i true) (upd vs i v) w' (by simpa using hsz) ?_ (hRt _ _ _ hw hw') ?_ ?_ ?_
    · have e2 : ((List.range l.length).filter fun j => !(listed.setIfInBounds i true).getD j true) = ((List.range l.length).filter fun j => !listed.getD j true).filter fun j => j != i := by
        rw [List.filter_filter]
        refine List.filter_congr fun j hj => ?_
        by_cases hji : j = i
        · subst hji
          have hin : j < listed.size := by omega
          simp [Array.getD_eq_getD_getElem?, hin]
        · rw [getD_set_ne _ (Ne.symm hji)]; simp [hji]
      rw [e2]
      have hmem : i ∈ (List.range l.length).filter fun j => !listed.getD j true := by
        rw [List.mem_filter]; exact ⟨List.mem_range.2 hlt, by simp [h1]⟩
      have := (List.length_filter_lt_length_iff_exists (p := fun j => j != i) (l := (List.range l.length).filter fun j => !listed.getD j true)).2 ⟨i, hmem, by simp⟩
      omega
    · intro j p hp hjl x hx hbx
      by_cases hji : j = i
      · subst hji
        have := hol.symm.trans hp; cases this
        exact getD_set_true (hpre x hx hbx)
      · rw [getD_set_ne _ (Ne.symm hji)] at hjl
        exact getD_set_true (hcl j p hp hjl x hx hbx)
    · intro j hj hlj
      by_cases hji : j = i
      · subst hji
        have hin : j < listed.size := by omega
        simp [Array.getD_eq_getD_getElem?, hin] at hlj
      · rw [upd_other _ _ hji]
        rw [getD_set_ne _ (Ne.symm hji)] at hlj
        exact hold j hj hlj
    · intro j hj hlj
      by_cases hji : j = i
      · subst hji; rw [upd_same]; exact hv
      · rw [upd_other _ _ hji]
        rw [getD_set_ne _ (Ne.symm hji)] at hlj
        exact hF _ _ _ _ (hk j hj hlj) hw'

/-- THE RULE. -/
theorem wp_region_rel {id : Nat} (R : World → World → Prop) (hRt : ∀ a b c, R a b → R b c → R a c) (hRd : R w0 w0.drew) (hm : P.follows .mixedOrders = true) (hd : dstsApart l = true) (hb : edgesBack l 0 = true) (F : Nat → Value → World → Prop) (hF : ∀ i v w w', F i v w → R w w' → F i v w')
    (hs : StepsR R P l.toArray Q F a0 w0 l 0)
    (he : ∀ vs w, R w0 w → KnowsAll F vs w 0 l.length → Q .normal (putAll l 0 vs a0) w) : (Code.region id l.toArray true).wp P Q a0 w0 := by
  refine wp_region_any hm ?_
  have e := putAll_old (oldAt l a0) a0 l 0 (fun i o d hi hdst => by simp [oldAt, hi, hdst])
  have h := any_factsR hRt hF hd hb hs he l.length (Array.replicate l.length false) (oldAt l a0) { w0 with drawn := w0.drawn + 1 } (by simp) (Nat.le_trans (List.length_filter_le _ _) (by simp)) hRd
    (fun i o ho hl => by
      have hi : i < l.length := (List.getElem?_eq_some_iff.1 ho).1
      simp [Array.getD_eq_getD_getElem?, hi] at hl)
    (fun _ _ _ => rfl)
    (fun i hi hl => by simp [Array.getD_eq_getD_getElem?, hi] at hl)
  rw [e] at h
  simpa using h
end


end Go.Proofs.YtkmkfhbekikleaaDoor
