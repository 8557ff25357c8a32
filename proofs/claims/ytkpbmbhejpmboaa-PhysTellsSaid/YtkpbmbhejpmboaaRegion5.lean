/- A rule for regions that write: some operations (the keys) turn memory from one phase to the next; each other one stays within the phase in which it stands. One obligation for each operation, for all phases in which it may come. -/
import Derived.Test.YtkpbmbhejpmboaaRegion2
namespace Go.Proofs.Ytkpbmbhejpmboaa
open Go.RowKit

/-- How many keys have come. -/
def doneK (keys : List Nat) (listed : Array Bool) : Nat := keys.countP fun k => listed.getD k false
def loK (l : List Oper) (keys : List Nat) (i : Nat) : Nat := keys.countP fun k => aheadB l l.length k i
def hiK (l : List Oper) (keys : List Nat) (i : Nat) : Nat := keys.countP fun k => !aheadB l l.length i k && !(k == i)
def boundsK (l : List Oper) (keys los his incs : List Nat) : Bool :=
  los == (List.range l.length).map (loK l keys) && his == (List.range l.length).map (hiK l keys) && incs == (List.range l.length).map (fun i => if keys.contains i then 1 else 0) && decide keys.Nodup && keys.all (fun k => decide (k < l.length))

def LeftK (R : World → World → Prop) (Ph : Nat → World → Prop) (F : Nat → Value → World → Prop) (i n : Nat) (dst : Option Tmp) (a : Act) (w : World) (a' : Act) (w' : World) : Prop := ∃ v, a' = a.put dst v ∧ F i v w' ∧ R w w' ∧ Ph n w'
def OneQK (R : World → World → Prop) (Ph : Nat → World → Prop) (Q : Exit → Act → World → Prop) (F : Nat → Value → World → Prop) (i n : Nat) (dst : Option Tmp) (a : Act) (w : World) : Exit → Act → World → Prop
  | .normal, a', w' => LeftK R Ph F i n dst a w a' w'
  | e, a', w' => Q e a' w'
/-- One obligation for each operation. -/
def StepsK (R : World → World → Prop) (Ph : Nat → World → Prop) (P : Program) (all : Array Oper) (Q : Exit → Act → World → Prop) (F : Nat → Value → World → Prop) (a0 : Act) (w0 : World) : List Oper → List Nat → List Nat → List Nat → Nat → Prop
  | o :: r, lo :: los, hi :: his, inc :: incs, k => (∀ (p : Nat) (vs : Nat → Value) (w : World), lo ≤ p → p ≤ hi → R w0 w → Ph p w → Knows F vs w o.after.toList →
      wpList P all (OneQK R Ph Q F k (p + inc) o.dst (putAll all.toList 0 vs a0) w) [o] (putAll all.toList 0 vs a0) w) ∧ StepsK R Ph P all Q F a0 w0 r los his incs (k + 1)
  | _, _, _, _, _ => True
theorem stepsK_at {R : World → World → Prop} {Ph : Nat → World → Prop} {P : Program} {all : Array Oper} {Q : Exit → Act → World → Prop} {F : Nat → Value → World → Prop} {a0 : Act} {w0 : World} : ∀ (l : List Oper) (los his incs : List Nat) (k : Nat), StepsK R Ph P all Q F a0 w0 l los his incs k → los.length = l.length → his.length = l.length → incs.length = l.length → ∀ (i : Nat) (o : Oper), l[i]? = some o → all[k + i]? = some o →
    ∀ (p : Nat) (vs : Nat → Value) (w : World), los.getD i 0 ≤ p → p ≤ his.getD i 0 → R w0 w → Ph p w → Knows F vs w o.after.toList → ∀ K : Act → World → Prop, (∀ a' w', LeftK R Ph F (k + i) (p + incs.getD i 0) o.dst (putAll all.toList 0 vs a0) w a' w' → K a' w') →
      wpOp P all Q (k + i) K (putAll all.toList 0 vs a0) w
  | [], _, _, _, _, _, _, _, _, _, _, h, _ => by cases h
  | _ :: _, [], _, _, _, _, h, _, _, _, _, _, _ => by simp at h
  | _ :: _, _ :: _, [], _, _, _, _, h, _, _, _, _, _ => by simp at h
  | _ :: _, _ :: _, _ :: _, [], _, _, _, _, h, _, _, _, _ => by simp at h
  | p :: r, lo :: los, hi :: his, inc :: incs, k, h, _, _, _, 0, o, ho, hall => by
    obtain rfl : p = o := by simpa using ho
    intro q vs w hlo hhi hw hph hk K hK
    have := h.1 q vs w hlo hhi hw hph hk
    unfold wpOp
    rw [hall]
    simp only [wpList] at this
    show if _ then _ else _
    split
    · rename_i hwant
      rw [if_pos hwant] at this
      rcases this with this | ⟨h1, h2⟩
      · exact .inl (Oper.wp_turn (fun _ _ _ h => h) (fun h => h) (Oper.wp_mono (fun a' w' h => hK a' w' h) this))
      · exact .inr ⟨h1, h2⟩
    · rename_i hwant
      rw [if_neg hwant] at this
      exact hK _ _ this
  | p :: r, lo :: los, hi :: his, inc :: incs, k, h, h1, h2, h3, i + 1, o, ho, hall => by
    have := stepsK_at r los his incs (k + 1) h.2 (by simpa using h1) (by simpa using h2) (by simpa using h3) i o (by simpa using ho) (by rw [show k + 1 + i = k + (i + 1) from by omega]; exact hall)
    rw [show k + 1 + i = k + (i + 1) from by omega] at this
    exact this

theorem doneK_same {keys : List Nat} {listed : Array Bool} {i : Nat} (h : i ∉ keys) : doneK keys (listed.setIfInBounds i true) = doneK keys listed := by
  unfold doneK
  refine List.countP_congr fun k hk => ?_
  have hne : i ≠ k := fun e => h (by rw [e]; exact hk)
  rw [getD_set_ne _ hne]
theorem doneK_more {listed : Array Bool} {i : Nat} (hi : i < listed.size) (hl : listed.getD i false = false) : ∀ {keys : List Nat}, keys.Nodup → i ∈ keys → doneK keys (listed.setIfInBounds i true) = doneK keys listed + 1
  | [], _, h => by cases h
  | k :: r, hn, h => by
    rw [List.nodup_cons] at hn
    have hset : (listed.setIfInBounds i true).getD i false = true := by simp [Array.getD_eq_getD_getElem?, hi]
    by_cases hk : k = i
    · subst hk
      have hs := doneK_same (listed := listed) hn.1
      unfold doneK at hs ⊢
      rw [List.countP_cons, List.countP_cons, hs, hset, hl]
      simp
    · have hr := doneK_more hi hl hn.2 ((List.mem_cons.1 h).resolve_left (fun e => hk e.symm))
      unfold doneK at hr ⊢
      rw [List.countP_cons, List.countP_cons, hr, getD_set_ne _ (fun e => hk e.symm)]
      omega

section
variable {P : Program} {Q : Exit → Act → World → Prop} {l : List Oper} {F : Nat → Value → World → Prop} {a0 : Act} {w0 : World} {R : World → World → Prop} {Ph : Nat → World → Prop} {keys los his incs : List Nat}
theorem any_factsK (hbd : boundsK l keys los his incs = true) (hRt : ∀ a b c, R a b → R b c → R a c) (hF : ∀ i v w w', F i v w → R w w' → F i v w') (hd : dstsApart l = true) (hb : edgesBack l 0 = true)
    (hs : StepsK R Ph P l.toArray Q F a0 w0 l los his incs 0)
    (he : ∀ vs w, R w0 w → Ph keys.length w → KnowsAll F vs w 0 l.length → Q .normal (putAll l 0 vs a0) w) :
    ∀ (fuel : Nat) (listed : Array Bool) (vs : Nat → Value) (w : World), listed.size = l.length → ((List.range l.length).filter fun i => !listed.getD i true).length ≤ fuel → R w0 w → Ph (doneK keys listed) w → Closed l listed →
      (∀ i, i < l.length → listed.getD i true = true → F i (vs i) w) → wpAny P .any l.toArray Q fuel listed (putAll l 0 vs a0) w := by
  unfold boundsK at hbd
  simp only [Bool.and_eq_true, beq_iff_eq, decide_eq_true_eq, List.all_eq_true] at hbd
  obtain ⟨⟨⟨⟨hlos, hhis⟩, hincs⟩, hnod⟩, hkeys⟩ := hbd
  have hend : ∀ (listed : Array Bool) (vs : Nat → Value) (w : World), listed.size = l.length → Region.ready .any l.toArray listed = [] → R w0 w → Ph (doneK keys listed) w →
      (∀ i, i < l.length → listed.getD i true = true → F i (vs i) w) → Q .normal (putAll l 0 vs a0) w := by
    intro listed vs w hsz hr hw hph hk
    have all : ∀ (n i : Nat), i < n → i < l.length → listed.getD i true = true := by
      intro n
      induction n with
      | zero => intro i h; omega
      | succ n ih =>
        intro i h1 h2
        cases hl : listed.getD i true with
        | true => rfl
        | false =>
          exfalso
          have : i ∈ Region.ready .any l.toArray listed := by
            rw [mem_ready]
            have ho : l[i]? = some l[i] := List.getElem?_eq_getElem h2
            refine ⟨hl, l[i], by simp, fun e hee hbd => ?_⟩
            have hlt := edges_back l 0 hb i l[i] ho e hee hbd
            have := ih e.on (by omega) (by omega)
            have hin : e.on < listed.size := by omega
            rw [Array.getD_eq_getD_getElem?, Array.getElem?_eq_getElem hin] at this ⊢
            simpa using this
          rw [hr] at this
          cases this
    have hfull : doneK keys listed = keys.length := by
      unfold doneK
      rw [List.countP_eq_length]
      intro k hk
      have hkl := hkeys k hk
      have := all (k + 1) k (by omega) hkl
      have hin : k < listed.size := by omega
      rw [Array.getD_eq_getD_getElem?, Array.getElem?_eq_getElem hin] at this ⊢
      simpa using this
    rw [hfull] at hph
    exact he vs w hw hph (knowsAll_of F vs w _ 0 fun i _ hi => hk i (by omega) (all (i + 1) i (by omega) (by omega)))
  have hsame : ∀ (listed : Array Bool) (i : Nat), listed.size = l.length → i < l.length → listed.getD i false = listed.getD i true := by
    intro listed i hsz hi
    have hin : i < listed.size := by omega
    rw [Array.getD_eq_getD_getElem?, Array.getD_eq_getD_getElem?, Array.getElem?_eq_getElem hin]; rfl
  intro fuel
  induction fuel with
  | zero =>
    intro listed vs w hsz hn hw hph _ hk
    have hr : Region.ready .any l.toArray listed = [] := by
      rw [List.eq_nil_iff_forall_not_mem]
      intro i hi
      rw [mem_ready] at hi
      obtain ⟨h1, o, ho, _⟩ := hi
      have hlt : i < l.length := by simpa using (Array.getElem?_eq_some_iff.1 ho).1
      have : i ∈ (List.range l.length).filter fun i => !listed.getD i true := by
        rw [List.mem_filter]; exact ⟨List.mem_range.2 hlt, by simp [h1]⟩
      have := List.length_pos_of_mem this
      omega
    exact ⟨hr, hend listed vs w hsz hr hw hph hk⟩
  | succ fuel ih =>
    intro listed vs w hsz hn hw hph hcl hk
    refine ⟨fun hr => hend listed vs w hsz hr hw hph hk, fun i hi => ?_⟩
    rw [mem_ready] at hi
    obtain ⟨h1, o, ho, hpre⟩ := hi
    have hol : l[i]? = some o := by simpa using ho
    have hlt : i < l.length := (List.getElem?_eq_some_iff.1 hol).1
    have hknow : Knows F vs w o.after.toList := by
      refine knows_of F vs w _ fun e hee hbind => ?_
      have hee' : e ∈ o.after := by simpa using hee
      have hlt2 := edges_back l 0 hb i o hol e hee' hbind
      have hon : e.on < l.length := by omega
      refine hk e.on hon ?_
      have := hpre e hee' hbind
      have hin : e.on < listed.size := by omega
      rw [Array.getD_eq_getD_getElem?, Array.getElem?_eq_getElem hin] at this ⊢
      simpa using this
    have hil : listed.getD i false = false := by rw [hsame listed i hsz hlt]; exact h1
    have hlo : los.getD i 0 ≤ doneK keys listed := by
      rw [hlos]
      simp only [List.getD_eq_getElem?_getD, List.getElem?_map, List.getElem?_range hlt, Option.map_some, Option.getD_some]
      exact List.countP_mono_left fun k _ hk2 => ahead_listed hcl _ _ _ hk2 o hol hpre
    have hhi : doneK keys listed ≤ his.getD i 0 := by
      rw [hhis]
      simp only [List.getD_eq_getElem?_getD, List.getElem?_map, List.getElem?_range hlt, Option.map_some, Option.getD_some]
      refine List.countP_mono_left fun k hkm hk2 => ?_
      simp only [Bool.and_eq_true, Bool.not_eq_true', beq_eq_false_iff_ne]
      refine ⟨?_, fun e => by rw [e, hil] at hk2; cases hk2⟩
      cases hah : aheadB l l.length i k with
      | false => rfl
      | true =>
        exfalso
        have hkl := hkeys k hkm
        have ho2 : l[k]? = some l[k] := List.getElem?_eq_getElem hkl
        have := ahead_listed hcl _ _ _ hah _ ho2 (hcl k _ ho2 hk2)
        rw [hil] at this; cases this
    have hinc : incs.getD i 0 = if keys.contains i then 1 else 0 := by
      rw [hincs]
      simp only [List.getD_eq_getElem?_getD, List.getElem?_map, List.getElem?_range hlt, Option.map_some, Option.getD_some]
    have hstep := stepsK_at l los his incs 0 hs (by rw [hlos]; simp) (by rw [hhis]; simp) (by rw [hincs]; simp) i o hol (by simpa using hol) (doneK keys listed) vs w hlo hhi hw hph hknow
    rw [Nat.zero_add] at hstep
    refine hstep _ fun a' w' ⟨v, ha', hv, hw', hph'⟩ => ?_
    subst ha'
    have e := putAll_upd v l 0 vs a0 i o hol hd
    rw [Nat.zero_add] at e
    rw [show l.toArray.toList = l from rfl, ← e]
    refine ih (listed.setIfInBounds i true) (upd vs i v) w' (by simpa using hsz) ?_ (hRt _ _ _ hw hw') ?_ ?_ ?_
    · have e2 : ((List.range l.length).filter fun j => !(listed.setIfInBounds i true).getD j true) = ((List.range l.length).filter fun j => !listed.getD j true).filter fun j => j != i := by
        rw [List.filter_filter]
        refine List.filter_congr fun j hj => ?_
        by_cases hji : j = i
        · subst hji
          have hin : j < listed.size := by omega
          simp [Array.getD_eq_getD_getElem?, hin]
        · rw [getD_set_ne _ (Ne.symm hji)]; simp [hji]
      rw [e2]
      have hmem : i ∈ (List.range l.length).filter fun j => !listed.getD j true := by
        rw [List.mem_filter]; exact ⟨List.mem_range.2 hlt, by simp [h1]⟩
      have := (List.length_filter_lt_length_iff_exists (p := fun j => j != i) (l := (List.range l.length).filter fun j => !listed.getD j true)).2 ⟨i, hmem, by simp⟩
      omega
    · rw [hinc] at hph'
      by_cases hik : i ∈ keys
      · rw [doneK_more (by omega) hil hnod hik]
        rw [if_pos (by simpa using hik)] at hph'
        exact hph'
      · rw [doneK_same hik]
        rw [if_neg (by simpa using hik)] at hph'
        exact hph'
    · intro j p hp hjl x hx hbx
      by_cases hji : j = i
      · subst hji
        have := hol.symm.trans hp; cases this
        exact getD_set_true (hpre x hx hbx)
      · rw [getD_set_ne _ (Ne.symm hji)] at hjl
        exact getD_set_true (hcl j p hp hjl x hx hbx)
    · intro j hj hlj
      by_cases hji : j = i
      · subst hji; rw [upd_same]; exact hv
      · rw [upd_other _ _ hji]
        rw [getD_set_ne _ (Ne.symm hji)] at hlj
        exact hF _ _ _ _ (hk j hj hlj) hw'

/-- THE RULE. -/
theorem wp_region_keys {id : Nat} (keys los his incs : List Nat) (R : World → World → Prop) (Ph : Nat → World → Prop) (hRt : ∀ a b c, R a b → R b c → R a c) (hRd : R w0 w0.drew) (hm : P.follows .mixedOrders = true) (hd : dstsApart l = true) (hb : edgesBack l 0 = true) (hbd : boundsK l keys los his incs = true)
    (Fs : List (Value → World → Prop)) (hF : ∀ i v w w', nthF Fs i v w → R w w' → nthF Fs i v w') (hph : Ph 0 w0.drew)
    (hs : StepsK R Ph P l.toArray Q (nthF Fs) a0 w0 l los his incs 0)
    (he : ∀ vs w, R w0 w → Ph keys.length w → KnowsAll (nthF Fs) vs w 0 l.length → Q .normal (putAll l 0 vs a0) w) : (Code.region id l.toArray true).wp P Q a0 w0 := by
  refine wp_region_any hm ?_
  have e := putAll_old (oldAt l a0) a0 l 0 (fun i o d hi hdst => by simp [oldAt, hi, hdst])
  have h := any_factsK hbd hRt hF hd hb hs he l.length (Array.replicate l.length false) (oldAt l a0) { w0 with drawn := w0.drawn + 1 } (by simp) (Nat.le_trans (List.length_filter_le _ _) (by simp)) hRd
    (by
      have : doneK keys (Array.replicate l.length false) = 0 := by
        unfold doneK
        rw [List.countP_eq_zero]
        intro k _
        simp [Array.getD_eq_getD_getElem?, Array.getElem?_replicate]
        split <;> simp
      rw [this]; exact hph)
    (fun i o ho hl => by
      have hi : i < l.length := (List.getElem?_eq_some_iff.1 ho).1
      simp [Array.getD_eq_getD_getElem?, hi] at hl)
    (fun i hi hl => by simp [Array.getD_eq_getD_getElem?, hi] at hl)
  rw [e] at h
  simpa using h
end

/-- What is known speaks of the value alone. -/

def AllFree : List (Value → World → Prop) → Prop
  | [] => True
  | f :: r => FixedF f ∧ AllFree r
theorem nthF_free : ∀ (l : List (Value → World → Prop)), AllFree l → ∀ i v w w', nthF l i v w → nthF l i v w'
  | [], _, _, _, _, _, h => h
  | _ :: _, hl, 0, v, w, w', h => hl.1 v w w' h
  | _ :: r, hl, i + 1, v, w, w', h => nthF_free r hl.2 i v w w' h
theorem Any.fixed : FixedF Any := fun _ _ _ h => h
/-- The rule, where what is known speaks of values alone. -/
theorem wp_region_phases {P : Program} {Q : Exit → Act → World → Prop} {l : List Oper} {a0 : Act} {w0 : World} {id : Nat} (keys los his incs : List Nat) (Ph : Nat → World → Prop) (hm : P.follows .mixedOrders = true) (hd : dstsApart l = true) (hb : edgesBack l 0 = true) (hbd : boundsK l keys los his incs = true)
    (Fs : List (Value → World → Prop)) (hF : AllFree Fs) (hph : Ph 0 w0.drew)
    (hs : StepsK (fun _ _ => True) Ph P l.toArray Q (nthF Fs) a0 w0 l los his incs 0)
    (he : ∀ vs w, True → Ph keys.length w → KnowsAll (nthF Fs) vs w 0 l.length → Q .normal (putAll l 0 vs a0) w) : (Code.region id l.toArray true).wp P Q a0 w0 :=
  wp_region_keys keys los his incs (fun _ _ => True) Ph (fun _ _ _ _ _ => trivial) trivial hm hd hb hbd Fs (fun i v w w' h _ => nthF_free Fs hF i v w w' h) hph hs he
end Go.Proofs.Ytkpbmbhejpmboaa
