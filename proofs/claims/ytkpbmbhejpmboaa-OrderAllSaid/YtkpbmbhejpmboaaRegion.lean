/- A region that draws its order, by what is known of each operation's value: whatever order is drawn, each operation runs when those it stands behind have run; what is known of their values is such that later memory does not turn it. One proof an operation serves all orders. -/
import Derived.Test.YtkpbmbhejpmboaaBase
import Derived.RegionTactic
namespace Go.Proofs.Ytkpbmbhejpmboaa
open Go.RowKit

/-- The values of all operations laid into their slots, in the text's order. -/
def putAll : List Oper → Nat → (Nat → Value) → Act → Act
  | [], _, _, a => a
  | o :: r, k, vs, a => putAll r (k + 1) vs (a.put o.dst (vs k))

def dstsApart : List Oper → Bool
  | [] => true
  | o :: r => (r.all fun p => match o.dst, p.dst with | some d, some e => d != e | _, _ => true) && dstsApart r

theorem apart_head {o : Oper} {r : List Oper} (h : dstsApart (o :: r) = true) : (∀ p ∈ r, ∀ d, o.dst = some d → p.dst ≠ some d) ∧ dstsApart r = true := by
  unfold dstsApart at h
  rw [Bool.and_eq_true, List.all_eq_true] at h
  refine ⟨fun p hp d hd hc => ?_, h.2⟩
  have := h.1 p hp
  rw [hd, hc] at this
  simp at this

theorem putAll_put (dst : Option Tmp) (v : Value) : ∀ (l : List Oper) (k : Nat) (vs : Nat → Value) (a : Act), (∀ p ∈ l, ∀ d, dst = some d → p.dst ≠ some d) → (putAll l k vs a).put dst v = putAll l k vs (a.put dst v)
  | [], _, _, _, _ => rfl
  | o :: r, k, vs, a, h => by
    show (putAll r (k + 1) vs (a.put o.dst (vs k))).put dst v = putAll r (k + 1) vs ((a.put dst v).put o.dst (vs k))
    rw [putAll_put dst v r (k + 1) vs _ (fun p hp => h p (List.mem_cons_of_mem _ hp)), Act.put_comm a v (vs k) (h o List.mem_cons_self)]

theorem putAll_congr : ∀ (l : List Oper) (k : Nat) (vs vs' : Nat → Value) (a : Act), (∀ j, k ≤ j → vs j = vs' j) → putAll l k vs a = putAll l k vs' a
  | [], _, _, _, _, _ => rfl
  | o :: r, k, vs, vs', a, h => by
    show putAll r (k + 1) vs _ = putAll r (k + 1) vs' _
    rw [h k (Nat.le_refl _)]
    exact putAll_congr r (k + 1) vs vs' _ fun j hj => h j (by omega)

theorem put_put (a : Act) (x : Option Tmp) (v u : Value) : (a.put x v).put x u = a.put x u := by
  cases x with
  | none => rfl
  | some d => simp [Act.put, Array.setIfInBounds_setIfInBounds]

def upd (vs : Nat → Value) (i : Nat) (v : Value) : Nat → Value := fun j => if j = i then v else vs j
theorem upd_same (vs : Nat → Value) (i : Nat) (v : Value) : upd vs i v i = v := if_pos rfl
theorem upd_other (vs : Nat → Value) {i j : Nat} (v : Value) (h : j ≠ i) : upd vs i v j = vs j := if_neg h

theorem putAll_upd (v : Value) : ∀ (l : List Oper) (k : Nat) (vs : Nat → Value) (a : Act) (i : Nat) (o : Oper), l[i]? = some o → dstsApart l = true → putAll l k (upd vs (k + i) v) a = (putAll l k vs a).put o.dst v
  | [], _, _, _, _, _, h, _ => by cases h
  | p :: r, k, vs, a, 0, o, h, hd => by
    obtain rfl : p = o := by simpa using h
    show putAll r (k + 1) (upd vs (k + 0) v) (a.put p.dst (upd vs (k + 0) v k)) = (putAll r (k + 1) vs (a.put p.dst (vs k))).put p.dst v
    rw [putAll_put p.dst v r (k + 1) vs _ (apart_head hd).1, put_put]
    simp only [Nat.add_zero, upd_same]
    exact putAll_congr r (k + 1) _ _ _ fun j hj => upd_other _ _ (by omega)
  | p :: r, k, vs, a, i + 1, o, h, hd => by
    have hr : r[i]? = some o := by simpa using h
    show putAll r (k + 1) (upd vs (k + (i + 1)) v) (a.put p.dst (upd vs (k + (i + 1)) v k)) = (putAll r (k + 1) vs (a.put p.dst (vs k))).put o.dst v
    rw [upd_other _ _ (by omega : k ≠ k + (i + 1)), show k + (i + 1) = k + 1 + i from by omega]
    exact putAll_upd v r (k + 1) vs _ i o hr (apart_head hd).2

theorem put_old (a : Act) (d : Tmp) : a.put (some d) (a.tmps.getD d undef) = a := by
  have : a.tmps.setIfInBounds d (a.tmps.getD d undef) = a.tmps := by
    apply Array.ext_getElem?
    intro j
    rw [Array.getElem?_setIfInBounds]
    by_cases h : d = j
    · subst h
      by_cases hd : d < a.tmps.size
      · simp [hd]
      · simp [hd]
    · simp [h]
  simp only [Act.put, this]

/-- What the slots held. -/
def oldAt (l : List Oper) (a : Act) : Nat → Value := fun i => match (l[i]?).bind (·.dst) with | some d => a.tmps.getD d undef | none => undef

theorem putAll_old (old : Nat → Value) (a : Act) : ∀ (l : List Oper) (k : Nat), (∀ (i : Nat) (o : Oper) (d : Tmp), l[i]? = some o → o.dst = some d → old (k + i) = a.tmps.getD d undef) → putAll l k old a = a
  | [], _, _ => rfl
  | o :: r, k, h => by
    show putAll r (k + 1) old (a.put o.dst (old k)) = a
    have e : a.put o.dst (old k) = a := by
      cases ho : o.dst with
      | none => rfl
      | some d => rw [show old k = a.tmps.getD d undef from h 0 o d rfl ho]; exact put_old a d
    rw [e]
    exact putAll_old old a r (k + 1) fun i p d hi hd => by rw [show k + 1 + i = k + (i + 1) from by omega]; exact h (i + 1) p d (by simpa using hi) hd

/-- Every operation stands behind earlier ones alone. -/
def edgesBack : List Oper → Nat → Bool
  | [], _ => true
  | o :: r, k => (o.after.all fun e => !Region.binds .any e || decide (e.on < k)) && edgesBack r (k + 1)
theorem edges_back : ∀ (l : List Oper) (k : Nat), edgesBack l k = true → ∀ (i : Nat) (o : Oper), l[i]? = some o → ∀ e ∈ o.after, Region.binds .any e = true → e.on < k + i
  | [], _, _, _, _, h => by cases h
  | p :: r, k, hb, i, o, h => by
    unfold edgesBack at hb
    rw [Bool.and_eq_true] at hb
    cases i with
    | zero =>
      obtain rfl : p = o := by simpa using h
      intro e he hbd
      have := (Array.all_eq_true_iff_forall_mem.1 hb.1) e he
      rw [hbd] at this
      simpa using this
    | succ i =>
      intro e he hbd
      have := edges_back r (k + 1) hb.2 i o (by simpa using h) e he hbd
      omega

/-- What is known of the values of those that an operation stands behind. -/
def Knows (F : Nat → Value → World → Prop) (vs : Nat → Value) (w : World) : List Edge → Prop
  | [] => True
  | e :: r => (match e.ground with | .textOnly _ => True | .gcOnly _ => True | _ => F e.on (vs e.on) w) ∧ Knows F vs w r
theorem knows_of (F : Nat → Value → World → Prop) (vs : Nat → Value) (w : World) : ∀ (l : List Edge), (∀ e ∈ l, Region.binds .any e = true → F e.on (vs e.on) w) → Knows F vs w l
  | [], _ => trivial
  | e :: r, h => by
    refine ⟨?_, knows_of F vs w r fun x hx => h x (List.mem_cons_of_mem _ hx)⟩
    have := h e List.mem_cons_self
    unfold Region.binds at this
    revert this
    cases e.ground <;> intro this <;> first | trivial | exact this rfl
def KnowsAll (F : Nat → Value → World → Prop) (vs : Nat → Value) (w : World) : Nat → Nat → Prop
  | _, 0 => True
  | k, n + 1 => F k (vs k) w ∧ KnowsAll F vs w (k + 1) n
theorem knowsAll_of (F : Nat → Value → World → Prop) (vs : Nat → Value) (w : World) : ∀ (n k : Nat), (∀ i, k ≤ i → i < k + n → F i (vs i) w) → KnowsAll F vs w k n
  | 0, _, _ => trivial
  | n + 1, k, h => ⟨h k (Nat.le_refl _) (by omega), knowsAll_of F vs w n (k + 1) fun i h1 h2 => h i (by omega) (by omega)⟩

/-- What an operation leaves: its value, of which F says what is known. -/
def Left (F : Nat → Value → World → Prop) (i : Nat) (dst : Option Tmp) (a : Act) (w : World) (a' : Act) (w' : World) : Prop := ∃ v, a' = a.put dst v ∧ F i v w' ∧ Since w w'

/-- Where an operation alone ends: with its value; or as the region would end. -/
def OneQ (Q : Exit → Act → World → Prop) (F : Nat → Value → World → Prop) (i : Nat) (dst : Option Tmp) (a : Act) (w : World) : Exit → Act → World → Prop
  | .normal, a', w' => Left F i dst a w a' w'
  | e, a', w' => Q e a' w'

theorem Oper.wp_turn {P : Program} {o : Oper} {a : Act} {w : World} {K : Act → World → Prop} {Q Q' : Exit → Act → World → Prop} (h1 : ∀ c a w, Q' (.panic c) a w → Q (.panic c) a w) (h2 : LetsOut Q' → LetsOut Q)
    (hh : o.wp P a w K Q') : o.wp P a w K Q := by
  unfold Oper.wp at *
  generalize (execOp a.eval o).run P w = r at *
  cases r with
  | ok n w' =>
    cases n <;> simp only [Oper.upon] at hh ⊢ <;>
      first
        | exact hh
        | exact Calls.mono hh (fun e w'' he => by cases e <;> first | exact he | exact h1 _ _ _ he | exact h2 he)
  | halt x w' => cases x <;> simp only [Oper.upon] at hh ⊢ <;> first | exact hh | exact h1 _ _ _ hh

/-- One obligation for each operation. -/
def Steps1 (P : Program) (all : Array Oper) (Q : Exit → Act → World → Prop) (F : Nat → Value → World → Prop) (a0 : Act) (w0 : World) : List Oper → Nat → Prop
  | [], _ => True
  | o :: r, k => (∀ (vs : Nat → Value) (w : World), Since w0 w → Knows F vs w o.after.toList →
      wpList P all (OneQ Q F k o.dst (putAll all.toList 0 vs a0) w) [o] (putAll all.toList 0 vs a0) w) ∧ Steps1 P all Q F a0 w0 r (k + 1)
theorem steps_at {P : Program} {all : Array Oper} {Q : Exit → Act → World → Prop} {F : Nat → Value → World → Prop} {a0 : Act} {w0 : World} : ∀ (l : List Oper) (k : Nat), Steps1 P all Q F a0 w0 l k → ∀ (i : Nat) (o : Oper), l[i]? = some o → all[k + i]? = some o →
    ∀ (vs : Nat → Value) (w : World), Since w0 w → Knows F vs w o.after.toList → ∀ K : Act → World → Prop, (∀ a' w', Left F (k + i) o.dst (putAll all.toList 0 vs a0) w a' w' → K a' w') →
      wpOp P all Q (k + i) K (putAll all.toList 0 vs a0) w
  | [], _, _, _, _, h, _ => by cases h
  | p :: r, k, h, 0, o, ho, hall => by
    obtain rfl : p = o := by simpa using ho
    intro vs w hw hk K hK
    have := h.1 vs w hw hk
    unfold wpOp
    rw [hall]
    simp only [wpList] at this
    show if _ then _ else _
    split
    · rename_i hwant
      rw [if_pos hwant] at this
      rcases this with this | ⟨h1, h2⟩
      · exact .inl (Oper.wp_turn (fun _ _ _ h => h) (fun h => h) (Oper.wp_mono (fun a' w' h => hK a' w' h) this))
      · exact .inr ⟨h1, h2⟩
    · rename_i hwant
      rw [if_neg hwant] at this
      exact hK _ _ this
  | p :: r, k, h, i + 1, o, ho, hall => by
    have := steps_at r (k + 1) h.2 i o (by simpa using ho) (by rw [show k + 1 + i = k + (i + 1) from by omega]; exact hall)
    rw [show k + 1 + i = k + (i + 1) from by omega] at this
    exact this

section
variable {P : Program} {Q : Exit → Act → World → Prop} {l : List Oper} {F : Nat → Value → World → Prop} {a0 : Act} {w0 : World}

theorem any_facts (hF : ∀ i v w w', F i v w → Since w w' → F i v w') (hd : dstsApart l = true) (hb : edgesBack l 0 = true)
    (hs : Steps1 P l.toArray Q F a0 w0 l 0)
    (he : ∀ vs w, Since w0 w → KnowsAll F vs w 0 l.length → Q .normal (putAll l 0 vs a0) w) :
    ∀ (fuel : Nat) (listed : Array Bool) (vs : Nat → Value) (w : World), listed.size = l.length → ((List.range l.length).filter fun i => !listed.getD i true).length ≤ fuel → Since w0 w →
      (∀ i, i < l.length → listed.getD i true = true → F i (vs i) w) → wpAny P .any l.toArray Q fuel listed (putAll l 0 vs a0) w := by
  have hend : ∀ (listed : Array Bool) (vs : Nat → Value) (w : World), listed.size = l.length → Region.ready .any l.toArray listed = [] → Since w0 w →
      (∀ i, i < l.length → listed.getD i true = true → F i (vs i) w) → Q .normal (putAll l 0 vs a0) w := by
    intro listed vs w hsz hr hw hk
    refine he vs w hw (knowsAll_of F vs w _ 0 fun i _ hi => hk i (by omega) ?_)
    have all : ∀ (n i : Nat), i < n → i < l.length → listed.getD i true = true := by
      intro n
      induction n with
      | zero => intro i h; omega
      | succ n ih =>
        intro i h1 h2
        cases hl : listed.getD i true with
        | true => rfl
        | false =>
          exfalso
          have : i ∈ Region.ready .any l.toArray listed := by
            rw [mem_ready]
            have ho : l[i]? = some l[i] := List.getElem?_eq_getElem h2
            refine ⟨hl, l[i], by simp, fun e hee hbd => ?_⟩
            have hlt := edges_back l 0 hb i l[i] ho e hee hbd
            have := ih e.on (by omega) (by omega)
            have hin : e.on < listed.size := by omega
            rw [Array.getD_eq_getD_getElem?, Array.getElem?_eq_getElem hin] at this ⊢
            simpa using this
          rw [hr] at this
          cases this
    exact all (i + 1) i (by omega) (by omega)
  intro fuel
  induction fuel with
  | zero =>
    intro listed vs w hsz hn hw hk
    have hr : Region.ready .any l.toArray listed = [] := by
      rw [List.eq_nil_iff_forall_not_mem]
      intro i hi
      rw [mem_ready] at hi
      obtain ⟨h1, o, ho, _⟩ := hi
      have hlt : i < l.length := by simpa using (Array.getElem?_eq_some_iff.1 ho).1
      have : i ∈ (List.range l.length).filter fun i => !listed.getD i true := by
        rw [List.mem_filter]; exact ⟨List.mem_range.2 hlt, by simp [h1]⟩
      have := List.length_pos_of_mem this
      omega
    exact ⟨hr, hend listed vs w hsz hr hw hk⟩
  | succ fuel ih =>
    intro listed vs w hsz hn hw hk
    refine ⟨fun hr => hend listed vs w hsz hr hw hk, fun i hi => ?_⟩
    rw [mem_ready] at hi
    obtain ⟨h1, o, ho, hpre⟩ := hi
    have hol : l[i]? = some o := by simpa using ho
    have hlt : i < l.length := (List.getElem?_eq_some_iff.1 hol).1
    have hknow : Knows F vs w o.after.toList := by
      refine knows_of F vs w _ fun e hee hbind => ?_
      have hee' : e ∈ o.after := by simpa using hee
      have hlt2 := edges_back l 0 hb i o hol e hee' hbind
      have hon : e.on < l.length := by omega
      refine hk e.on hon ?_
      have := hpre e hee' hbind
      have hin : e.on < listed.size := by omega
      rw [Array.getD_eq_getD_getElem?, Array.getElem?_eq_getElem hin] at this ⊢
      simpa using this
    have hstep := steps_at l 0 hs i o hol (by simpa using hol) vs w hw hknow
    rw [Nat.zero_add] at hstep
    refine hstep _ fun a' w' ⟨v, ha', hv, hw'⟩ => ?_
    subst ha'
    have e := putAll_upd v l 0 vs a0 i o hol hd
    rw [Nat.zero_add] at e
    rw [show l.toArray.toList = l from rfl, ← e]
    refine ih (listed.setIfInBounds i true) (upd vs i v) w' (by simpa using hsz) ?_ (hw.trans hw') ?_
    · have e2 : ((List.range l.length).filter fun j => !(listed.setIfInBounds i true).getD j true) = ((List.range l.length).filter fun j => !listed.getD j true).filter fun j => j != i := by
        rw [List.filter_filter]
        refine List.filter_congr fun j hj => ?_
        by_cases hji : j = i
        · subst hji
          have hin : j < listed.size := by omega
          simp [Array.getD_eq_getD_getElem?, hin]
        · rw [getD_set_ne _ (Ne.symm hji)]; simp [hji]
      rw [e2]
      have hmem : i ∈ (List.range l.length).filter fun j => !listed.getD j true := by
        rw [List.mem_filter]; exact ⟨List.mem_range.2 hlt, by simp [h1]⟩
      have := (List.length_filter_lt_length_iff_exists (p := fun j => j != i) (l := (List.range l.length).filter fun j => !listed.getD j true)).2 ⟨i, hmem, by simp⟩
      omega
    · intro j hj hlj
      by_cases hji : j = i
      · subst hji; rw [upd_same]; exact hv
      · rw [upd_other _ _ hji]
        rw [getD_set_ne _ (Ne.symm hji)] at hlj
        exact hF _ _ _ _ (hk j hj hlj) hw'

/-- THE RULE. -/
theorem wp_region_facts {id : Nat} (hm : P.follows .mixedOrders = true) (hd : dstsApart l = true) (hb : edgesBack l 0 = true) (F : Nat → Value → World → Prop) (hF : ∀ i v w w', F i v w → Since w w' → F i v w')
    (hs : Steps1 P l.toArray Q F a0 w0 l 0)
    (he : ∀ vs w, Since w0 w → KnowsAll F vs w 0 l.length → Q .normal (putAll l 0 vs a0) w) : (Code.region id l.toArray true).wp P Q a0 w0 := by
  refine wp_region_any hm ?_
  have e := putAll_old (oldAt l a0) a0 l 0 (fun i o d hi hdst => by simp [oldAt, hi, hdst])
  have h := any_facts hF hd hb hs he l.length (Array.replicate l.length false) (oldAt l a0) { w0 with drawn := w0.drawn + 1 } (by simp) (Nat.le_trans (List.length_filter_le _ _) (by simp)) (Since.refl w0).drew
    (fun i hi hl => by simp [Array.getD_eq_getD_getElem?, hi] at hl)
  rw [e] at h
  simpa using h
end

/-- What is known, as a list: one word for each operation. -/
def nthF : List (Value → World → Prop) → Nat → Value → World → Prop
  | [], _ => fun _ _ => True
  | f :: _, 0 => f
  | _ :: r, i + 1 => nthF r i
def Stable (f : Value → World → Prop) : Prop := ∀ v w w', f v w → Since w w' → f v w'
def AllStable : List (Value → World → Prop) → Prop
  | [] => True
  | f :: r => Stable f ∧ AllStable r
theorem nthF_stable : ∀ (l : List (Value → World → Prop)), AllStable l → ∀ i v w w', nthF l i v w → Since w w' → nthF l i v w'
  | [], _, _, _, _, _, _, _ => trivial
  | _ :: _, h, 0, v, w, w', hv, hs => h.1 v w w' hv hs
  | _ :: r, h, i + 1, v, w, w', hv, hs => nthF_stable r h.2 i v w w' hv hs

def Is (x : Value) (v : Value) (_ : World) : Prop := v = x
def Any (_ : Value) (_ : World) : Prop := True
def IsNums (k : IntKind) (l : List Int) (v : Value) (w : World) : Prop := Nums k w v l
theorem Is.stable (x : Value) : Stable (Is x) := fun _ _ _ h _ => h
theorem Any.stable : Stable Any := fun _ _ _ h _ => h
theorem IsNums.stable (k : IntKind) (l : List Int) : Stable (IsNums k l) := fun _ _ _ h hs => Nums.keep h hs

theorem wp_region_list_facts {P : Program} {Q : Exit → Act → World → Prop} {l : List Oper} {a0 : Act} {w0 : World} {id : Nat} (hm : P.follows .mixedOrders = true) (hd : dstsApart l = true) (hb : edgesBack l 0 = true) (Fs : List (Value → World → Prop)) (hF : AllStable Fs)
    (hs : Steps1 P l.toArray Q (nthF Fs) a0 w0 l 0)
    (he : ∀ vs w, Since w0 w → KnowsAll (nthF Fs) vs w 0 l.length → Q .normal (putAll l 0 vs a0) w) : (Code.region id l.toArray true).wp P Q a0 w0 :=
  wp_region_facts hm hd hb (nthF Fs) (nthF_stable Fs hF) hs he
end Go.Proofs.Ytkpbmbhejpmboaa
