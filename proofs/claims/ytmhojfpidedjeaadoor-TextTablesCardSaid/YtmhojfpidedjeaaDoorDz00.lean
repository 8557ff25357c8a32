/- Base Region Region2 TxRow TxHeap TxTurn -/
import Derived.Test.YtmhojfpidedjeaaDoorProg
import Derived.WalkKit
import Derived.WalkSpells
import Derived.WalkLawsBesides
import Derived.Lib.Hide
import Derived.Laws.AppendOwnNone
import Derived.RegionTactic
import Derived.Deep.Slices
import Derived.WideShapes
namespace Go.Proofs.YtmhojfpidedjeaaDoor
open Go.RowKit
/-- Nothing that was there in w0 has turned. -/
def Since (w0 w : World) : Prop := Below w0.heap.size w0 w
theorem Since.refl (w : World) : Since w w := Below.refl _ _
theorem Since.trans {a b c : World} (h : Since a b) (k : Since b c) : Since a c := Below.trans h (Below.mono k h.size)
theorem Since.size {a b : World} (h : Since a b) : a.heap.size ≤ b.heap.size := Below.size h
theorem Since.alloc {a b : World} (h : Since a b) (o : Obj) : Since a (b.alloc o) := Below.alloc h h.size o
theorem Since.drew {a b : World} (h : Since a b) : Since a b.drew := Below.drew h
theorem Since.cell {a b : World} (h : Since a b) {p : Addr} (hp : p.block < a.heap.size) : b.cell? p = a.cell? p := Below.cell h hp
/-- v reads in w as the numbers l, of kind k. -/
def Nums (k : IntKind) (w : World) (v : Value) (l : List Int) : Prop :=
  (∃ a, v = .slice a 0 0 ∧ l = []) ∨
  ∃ b off cap, v = .slice (some ⟨b, off, none⟩) l.length cap ∧ l.length ≤ cap ∧ cap ≤ maxLen ∧ b < w.heap.size ∧ ∀ (j : Nat) (n : Int), l[j]? = some n → w.cell? ⟨b, off + j, none⟩ = some (.int k n)
abbrev Ints := Nums .i64
theorem Nums.nil (k : IntKind) (w : World) : Nums k w (.slice none 0 0) [] := .inl ⟨_, rfl, rfl⟩
theorem Nums.keep {k : IntKind} {w w' : World} {v : Value} {l : List Int} (h : Nums k w v l) (s : Since w w') : Nums k w' v l := by
  rcases h with h | ⟨b, off, cap, h1, h2, h3, h4, h5⟩
  · exact .inl h
  · exact .inr ⟨b, off, cap, h1, h2, h3, Nat.lt_of_lt_of_le h4 s.size, fun j n hj => by rw [s.cell h4]; exact h5 j n hj⟩
theorem Nums.len {k : IntKind} {w : World} {v : Value} {l : List Int} (h : Nums k w v l) : l.length ≤ maxLen := by
  rcases h with ⟨_, _, h⟩ | ⟨_, _, _, _, h2, h3, _⟩
  · rw [h]; exact Nat.zero_le _
  · omega
/-- A new block of numbers read whole. -/
theorem nums_new {k : IntKind} {w : World} {b : Nat} (l : List Int) (t : TypeId) (cap : Nat) (hc : l.length ≤ cap) (hm : cap ≤ maxLen) {cs : List Value} (hb : w.heap[b]? = some (.cells cs.toArray t (0, 0)))
    (hcs : ∀ (j : Nat) (n : Int), l[j]? = some n → cs[j]? = some (Value.int k n)) : Nums k w (.slice (some ⟨b, 0, none⟩) l.length cap) l := by
  refine .inr ⟨b, 0, cap, rfl, hc, hm, (Array.getElem?_eq_some_iff.1 hb).1, fun j n hj => ?_⟩
  simp [World.cell?, hb, hcs j n hj]
theorem heap_last (w : World) (o : Obj) : (w.alloc o).heap[w.heap.size]? = some o := (MapKept.heap_alloc w o).1
end Go.Proofs.YtmhojfpidedjeaaDoor
namespace Go.Proofs.YtmhojfpidedjeaaDoor
open Go.RowKit
/-- The values of all operations laid into their slots, in the text's order. -/
def putAll : List Oper → Nat → (Nat → Value) → Act → Act
  | [], _, _, a => a
  | o :: r, k, vs, a => putAll r (k + 1) vs (a.put o.dst (vs k))
def dstsApart : List Oper → Bool
  | [] => true
  | o :: r => (r.all fun p => match o.dst, p.dst with | some d, some e => d != e | _, _ => true) && dstsApart r
theorem apart_head {o : Oper} {r : List Oper} (h : dstsApart (o :: r) = true) : (∀ p ∈ r, ∀ d, o.dst = some d → p.dst ≠ some d) ∧ dstsApart r = true := by
  unfold dstsApart at h
  rw [Bool.and_eq_true, List.all_eq_true] at h
  refine ⟨fun p hp d hd hc => ?_, h.2⟩
  have := h.1 p hp
  rw [hd, hc] at this
  simp at this
theorem putAll_put (dst : Option Tmp) (v : Value) : ∀ (l : List Oper) (k : Nat) (vs : Nat → Value) (a : Act), (∀ p ∈ l, ∀ d, dst = some d → p.dst ≠ some d) → (putAll l k vs a).put dst v = putAll l k vs (a.put dst v)
  | [], _, _, _, _ => rfl
  | o :: r, k, vs, a, h => by
    show (putAll r (k + 1) vs (a.put o.dst (vs k))).put dst v = putAll r (k + 1) vs ((a.put dst v).put o.dst (vs k))
    rw [putAll_put dst v r (k + 1) vs _ (fun p hp => h p (List.mem_cons_of_mem _ hp)), Act.put_comm a v (vs k) (h o List.mem_cons_self)]
theorem putAll_congr : ∀ (l : List Oper) (k : Nat) (vs vs' : Nat → Value) (a : Act), (∀ j, k ≤ j → vs j = vs' j) → putAll l k vs a = putAll l k vs' a
  | [], _, _, _, _, _ => rfl
  | o :: r, k, vs, vs', a, h => by
    show putAll r (k + 1) vs _ = putAll r (k + 1) vs' _
    rw [h k (Nat.le_refl _)]
    exact putAll_congr r (k + 1) vs vs' _ fun j hj => h j (by omega)
theorem put_put (a : Act) (x : Option Tmp) (v u : Value) : (a.put x v).put x u = a.put x u := by
  cases x with
  | none => rfl
  | some d => simp [Act.put, Array.setIfInBounds_setIfInBounds]
def upd (vs : Nat → Value) (i : Nat) (v : Value) : Nat → Value := fun j => if j = i then v else vs j
theorem upd_same (vs : Nat → Value) (i : Nat) (v : Value) : upd vs i v i = v := if_pos rfl
theorem upd_other (vs : Nat → Value) {i j : Nat} (v : Value) (h : j ≠ i) : upd vs i v j = vs j := if_neg h
theorem putAll_upd (v : Value) : ∀ (l : List Oper) (k : Nat) (vs : Nat → Value) (a : Act) (i : Nat) (o : Oper), l[i]? = some o → dstsApart l = true → putAll l k (upd vs (k + i) v) a = (putAll l k vs a).put o.dst v
  | [], _, _, _, _, _, h, _ => by cases h
  | p :: r, k, vs, a, 0, o, h, hd => by
    obtain rfl : p = o := by simpa using h
    show putAll r (k + 1) (upd vs (k + 0) v) (a.put p.dst (upd vs (k + 0) v k)) = (putAll r (k + 1) vs (a.put p.dst (vs k))).put p.dst v
    rw [putAll_put p.dst v r (k + 1) vs _ (apart_head hd).1, put_put]
    simp only [Nat.add_zero, upd_same]
    exact putAll_congr r (k + 1) _ _ _ fun j hj => upd_other _ _ (by omega)
  | p :: r, k, vs, a, i + 1, o, h, hd => by
    have hr : r[i]? = some o := by simpa using h
    show putAll r (k + 1) (upd vs (k + (i + 1)) v) (a.put p.dst (upd vs (k + (i + 1)) v k)) = (putAll r (k + 1) vs (a.put p.dst (vs k))).put o.dst v
    rw [upd_other _ _ (by omega : k ≠ k + (i + 1)), show k + (i + 1) = k + 1 + i from by omega]
    exact putAll_upd v r (k + 1) vs _ i o hr (apart_head hd).2
theorem put_old (a : Act) (d : Tmp) : a.put (some d) (a.tmps.getD d undef) = a := by
  have : a.tmps.setIfInBounds d (a.tmps.getD d undef) = a.tmps := by
    apply Array.ext_getElem?
    intro j
    rw [Array.getElem?_setIfInBounds]
    by_cases h : d = j
    · subst h
      by_cases hd : d < a.tmps.size
      · simp [hd]
      · simp [hd]
    · simp [h]
  simp only [Act.put, this]
/-- What the slots held. -/
def oldAt (l : List Oper) (a : Act) : Nat → Value := fun i => match (l[i]?).bind (·.dst) with | some d => a.tmps.getD d undef | none => undef
theorem putAll_old (old : Nat → Value) (a : Act) : ∀ (l : List Oper) (k : Nat), (∀ (i : Nat) (o : Oper) (d : Tmp), l[i]? = some o → o.dst = some d → old (k + i) = a.tmps.getD d undef) → putAll l k old a = a
  | [], _, _ => rfl
  | o :: r, k, h => by
    show putAll r (k + 1) old (a.put o.dst (old k)) = a
    have e : a.put o.dst (old k) = a := by
      cases ho : o.dst with
      | none => rfl
      | some d => rw [show old k = a.tmps.getD d undef from h 0 o d rfl ho]; exact put_old a d
    rw [e]
    exact putAll_old old a r (k + 1) fun i p d hi hd => by rw [show k + 1 + i = k + (i + 1) from by omega]; exact h (i + 1) p d (by simpa using hi) hd
/-- Every operation stands behind earlier ones alone. -/
def edgesBack : List Oper → Nat → Bool
  | [], _ => true
  | o :: r, k => (o.after.all fun e => !Region.binds .any e || decide (e.on < k)) && edgesBack r (k + 1)
theorem edges_back : ∀ (l : List Oper) (k : Nat), edgesBack l k = true → ∀ (i : Nat) (o : Oper), l[i]? = some o → ∀ e ∈ o.after, Region.binds .any e = true → e.on < k + i
  | [], _, _, _, _, h => by cases h
  | p :: r, k, hb, i, o, h => by
    unfold edgesBack at hb
    rw [Bool.and_eq_true] at hb
    cases i with
    | zero =>
      obtain rfl : p = o := by simpa using h
      intro e he hbd
      have := (Array.all_eq_true_iff_forall_mem.1 hb.1) e he
      rw [hbd] at this
      simpa using this
    | succ i =>
      intro e he hbd
      have := edges_back r (k + 1) hb.2 i o (by simpa using h) e he hbd
      omega
/-- What is known of the values of those that an operation stands behind. -/
def Knows (F : Nat → Value → World → Prop) (vs : Nat → Value) (w : World) : List Edge → Prop
  | [] => True
  | e :: r => (match e.ground with | .textOnly _ => True | .gcOnly _ => True | _ => F e.on (vs e.on) w) ∧ Knows F vs w r
theorem knows_of (F : Nat → Value → World → Prop) (vs : Nat → Value) (w : World) : ∀ (l : List Edge), (∀ e ∈ l, Region.binds .any e = true → F e.on (vs e.on) w) → Knows F vs w l
  | [], _ => trivial
  | e :: r, h => by
    refine ⟨?_, knows_of F vs w r fun x hx => h x (List.mem_cons_of_mem _ hx)⟩
    have := h e List.mem_cons_self
    unfold Region.binds at this
    revert this
    cases e.ground <;> intro this <;> first | trivial | exact this rfl
def KnowsAll (F : Nat → Value → World → Prop) (vs : Nat → Value) (w : World) : Nat → Nat → Prop
  | _, 0 => True
  | k, n + 1 => F k (vs k) w ∧ KnowsAll F vs w (k + 1) n
theorem knowsAll_of (F : Nat → Value → World → Prop) (vs : Nat → Value) (w : World) : ∀ (n k : Nat), (∀ i, k ≤ i → i < k + n → F i (vs i) w) → KnowsAll F vs w k n
  | 0, _, _ => trivial
  | n + 1, k, h => ⟨h k (Nat.le_refl _) (by omega), knowsAll_of F vs w n (k + 1) fun i h1 h2 => h i (by omega) (by omega)⟩
/-- What an operation leaves: its value, of which F says what is known. -/
def Left (F : Nat → Value → World → Prop) (i : Nat) (dst : Option Tmp) (a : Act) (w : World) (a' : Act) (w' : World) : Prop := ∃ v, a' = a.put dst v ∧ F i v w' ∧ Since w w'
/-- Where an operation alone ends: with its value; or as the region would end. -/
def OneQ (Q : Exit → Act → World → Prop) (F : Nat → Value → World → Prop) (i : Nat) (dst : Option Tmp) (a : Act) (w : World) : Exit → Act → World → Prop
  | .normal, a', w' => Left F i dst a w a' w'
  | e, a', w' => Q e a' w'
theorem Oper.wp_turn {P : Program} {o : Oper} {a : Act} {w : World} {K : Act → World → Prop} {Q Q' : Exit → Act → World → Prop} (h1 : ∀ c a w, Q' (.panic c) a w → Q (.panic c) a w) (h2 : LetsOut Q' → LetsOut Q)
    (hh : o.wp P a w K Q') : o.wp P a w K Q := by
  unfold Oper.wp at *
  generalize (execOp a.eval o).run P w = r at *
  cases r with
  | ok n w' =>
    cases n <;> simp only [Oper.upon] at hh ⊢ <;>
      first
        | exact hh
        | exact Calls.mono hh (fun e w'' he => by cases e <;> first | exact he | exact h1 _ _ _ he | exact h2 he)
  | halt x w' => cases x <;> simp only [Oper.upon] at hh ⊢ <;> first | exact hh | exact h1 _ _ _ hh
/-- One obligation for each operation. -/
def Steps1 (P : Program) (all : Array Oper) (Q : Exit → Act → World → Prop) (F : Nat → Value → World → Prop) (a0 : Act) (w0 : World) : List Oper → Nat → Prop
  | [], _ => True
  | o :: r, k => (∀ (vs : Nat → Value) (w : World), Since w0 w → Knows F vs w o.after.toList →
      wpList P all (OneQ Q F k o.dst (putAll all.toList 0 vs a0) w) [o] (putAll all.toList 0 vs a0) w) ∧ Steps1 P all Q F a0 w0 r (k + 1)
theorem steps_at {P : Program} {all : Array Oper} {Q : Exit → Act → World → Prop} {F : Nat → Value → World → Prop} {a0 : Act} {w0 : World} : ∀ (l : List Oper) (k : Nat), Steps1 P all Q F a0 w0 l k → ∀ (i : Nat) (o : Oper), l[i]? = some o → all[k + i]? = some o →
    ∀ (vs : Nat → Value) (w : World), Since w0 w → Knows F vs w o.after.toList → ∀ K : Act → World → Prop, (∀ a' w', Left F (k + i) o.dst (putAll all.toList 0 vs a0) w a' w' → K a' w') →
      wpOp P all Q (k + i) K (putAll all.toList 0 vs a0) w
  | [], _, _, _, _, h, _ => by cases h
  | p :: r, k, h, 0, o, ho, hall => by
    obtain rfl : p = o := by simpa using ho
    intro vs w hw hk K hK
    have := h.1 vs w hw hk
    unfold wpOp
    rw [hall]
    simp only [wpList] at this
    show if _ then _ else _
    split
    · rename_i hwant
      rw [if_pos hwant] at this
      rcases this with this | ⟨h1, h2⟩
      · exact .inl (Oper.wp_turn (fun _ _ _ h => h) (fun h => h) (Oper.wp_mono (fun a' w' h => hK a' w' h) this))
      · exact .inr ⟨h1, h2⟩
    · rename_i hwant
      rw [if_neg hwant] at this
      exact hK _ _ this
  | p :: r, k, h, i + 1, o, ho, hall => by
    have := steps_at r (k + 1) h.2 i o (by simpa using ho) (by rw [show k + 1 + i = k + (i + 1) from by omega]; exact hall)
    rw [show k + 1 + i = k + (i + 1) from by omega] at this
    exact this
section
variable {P : Program} {Q : Exit → Act → World → Prop} {l : List Oper} {F : Nat → Value → World → Prop} {a0 : Act} {w0 : World}
theorem any_facts (hF : ∀ i v w w', F i v w → Since w w' → F i v w') (hd : dstsApart l = true) (hb : edgesBack l 0 = true)
    (hs : Steps1 P l.toArray Q F a0 w0 l 0)
    (he : ∀ vs w, Since w0 w → KnowsAll F vs w 0 l.length → Q .normal (putAll l 0 vs a0) w) :
    ∀ (fuel : Nat) (listed : Array Bool) (vs : Nat → Value) (w : World), listed.size = l.length → ((List.range l.length).filter fun i => !listed.getD i true).length ≤ fuel → Since w0 w →
      (∀ i, i < l.length → listed.getD i true = true → F i (vs i) w) → wpAny P .any l.toArray Q fuel listed (putAll l 0 vs a0) w := by
  have hend : ∀ (listed : Array Bool) (vs : Nat → Value) (w : World), listed.size = l.length → Region.ready .any l.toArray listed = [] → Since w0 w →
      (∀ i, i < l.length → listed.getD i true = true → F i (vs i) w) → Q .normal (putAll l 0 vs a0) w := by
    intro listed vs w hsz hr hw hk
    refine he vs w hw (knowsAll_of F vs w _ 0 fun i _ hi => hk i (by omega) ?_)
    have all : ∀ (n i : Nat), i < n → i < l.length → listed.getD i true = true := by
      intro n
      induction n with
      | zero => intro i h; omega
      | succ n ih =>
        intro i h1 h2
        cases hl : listed.getD i true with
        | true => rfl
        | false =>
          exfalso
          have : i ∈ Region.ready .any l.toArray listed := by
            rw [mem_ready]
            have ho : l[i]? = some l[i] := List.getElem?_eq_getElem h2
            refine ⟨hl, l[i], by simp, fun e hee hbd => ?_⟩
            have hlt := edges_back l 0 hb i l[i] ho e hee hbd
            have := ih e.on (by omega) (by omega)
            have hin : e.on < listed.size := by omega
            rw [Array.getD_eq_getD_getElem?, Array.getElem?_eq_getElem hin] at this ⊢
            simpa using this
          rw [hr] at this
          cases this
    exact all (i + 1) i (by omega) (by omega)
  intro fuel
  induction fuel with
  | zero =>
    intro listed vs w hsz hn hw hk
    have hr : Region.ready .any l.toArray listed = [] := by
      rw [List.eq_nil_iff_forall_not_mem]
      intro i hi
      rw [mem_ready] at hi
      obtain ⟨h1, o, ho, _⟩ := hi
      have hlt : i < l.length := by simpa using (Array.getElem?_eq_some_iff.1 ho).1
      have : i ∈ (List.range l.length).filter fun i => !listed.getD i true := by
        rw [List.mem_filter]; exact ⟨List.mem_range.2 hlt, by simp [h1]⟩
      have := List.length_pos_of_mem this
      omega
    exact ⟨hr, hend listed vs w hsz hr hw hk⟩
  | succ fuel ih =>
    intro listed vs w hsz hn hw hk
    refine ⟨fun hr => hend listed vs w hsz hr hw hk, fun i hi => ?_⟩
    rw [mem_ready] at hi
    obtain ⟨h1, o, ho, hpre⟩ := hi
    have hol : l[i]? = some o := by simpa using ho
    have hlt : i < l.length := (List.getElem?_eq_some_iff.1 hol).1
    have hknow : Knows F vs w o.after.toList := by
      refine knows_of F vs w _ fun e hee hbind => ?_
      have hee' : e ∈ o.after := by simpa using hee
      have hlt2 := edges_back l 0 hb i o hol e hee' hbind
      have hon : e.on < l.length := by omega
      refine hk e.on hon ?_
      have := hpre e hee' hbind
      have hin : e.on < listed.size := by omega
      rw [Array.getD_eq_getD_getElem?, Array.getElem?_eq_getElem hin] at this ⊢
      simpa using this
    have hstep := steps_at l 0 hs i o hol (by simpa using hol) vs w hw hknow
    rw [Nat.zero_add] at hstep
    refine hstep _ fun a' w' ⟨v, ha', hv, hw'⟩ => ?_
    subst ha'
    have e := putAll_upd v l 0 vs a0 i o hol hd
    rw [Nat.zero_add] at e
    rw [show l.toArray.toList = l from rfl, ← e]
    refine ih (listed.setIfInBounds i true) (upd vs i v) w' (by simpa using hsz) ?_ (hw.trans hw') ?_
    · have e2 : ((List.range l.length).filter fun j => !(listed.setIfInBounds i true).getD j true) = ((List.range l.length).filter fun j => !listed.getD j true).filter fun j => j != i := by
        rw [List.filter_filter]
        refine List.filter_congr fun j hj => ?_
        by_cases hji : j = i
        · subst hji
          have hin : j < listed.size := by omega
          simp [Array.getD_eq_getD_getElem?, hin]
        · rw [getD_set_ne _ (Ne.symm hji)]; simp [hji]
      rw [e2]
      have hmem : i ∈ (List.range l.length).filter fun j => !listed.getD j true := by
        rw [List.mem_filter]; exact ⟨List.mem_range.2 hlt, by simp [h1]⟩
      have := (List.length_filter_lt_length_iff_exists (p := fun j => j != i) (l := (List.range l.length).filter fun j => !listed.getD j true)).2 ⟨i, hmem, by simp⟩
      omega
    · intro j hj hlj
      by_cases hji : j = i
      · subst hji; rw [upd_same]; exact hv
      · rw [upd_other _ _ hji]
        rw [getD_set_ne _ (Ne.symm hji)] at hlj
        exact hF _ _ _ _ (hk j hj hlj) hw'
/-- THE RULE. -/
theorem wp_region_facts {id : Nat} (hm : P.follows .mixedOrders = true) (hd : dstsApart l = true) (hb : edgesBack l 0 = true) (F : Nat → Value → World → Prop) (hF : ∀ i v w w', F i v w → Since w w' → F i v w')
    (hs : Steps1 P l.toArray Q F a0 w0 l 0)
    (he : ∀ vs w, Since w0 w → KnowsAll F vs w 0 l.length → Q .normal (putAll l 0 vs a0) w) : (Code.region id l.toArray true).wp P Q a0 w0 := by
  refine wp_region_any hm ?_
  have e := putAll_old (oldAt l a0) a0 l 0 (fun i o d hi hdst => by simp [oldAt, hi, hdst])
  have h := any_facts hF hd hb hs he l.length (Array.replicate l.length false) (oldAt l a0) { w0 with drawn := w0.drawn + 1 } (by simp) (Nat.le_trans (List.length_filter_le _ _) (by simp)) (Since.refl w0).drew
    (fun i hi hl => by simp [Array.getD_eq_getD_getElem?, hi] at hl)
  rw [e] at h
  simpa using h
end
/-- What is known, as a list: one word for each operation. -/
def nthF : List (Value → World → Prop) → Nat → Value → World → Prop
  | [], _ => fun _ _ => True
  | f :: _, 0 => f
  | _ :: r, i + 1 => nthF r i
def Stable (f : Value → World → Prop) : Prop := ∀ v w w', f v w → Since w w' → f v w'
def AllStable : List (Value → World → Prop) → Prop
  | [] => True
  | f :: r => Stable f ∧ AllStable r
theorem nthF_stable : ∀ (l : List (Value → World → Prop)), AllStable l → ∀ i v w w', nthF l i v w → Since w w' → nthF l i v w'
  | [], _, _, _, _, _, _, _ => trivial
  | _ :: _, h, 0, v, w, w', hv, hs => h.1 v w w' hv hs
  | _ :: r, h, i + 1, v, w, w', hv, hs => nthF_stable r h.2 i v w w' hv hs
def Is (x : Value) (v : Value) (_ : World) : Prop := v = x
def Any (_ : Value) (_ : World) : Prop := True
def IsNums (k : IntKind) (l : List Int) (v : Value) (w : World) : Prop := Nums k w v l
theorem Is.stable (x : Value) : Stable (Is x) := fun _ _ _ h _ => h
theorem Any.stable : Stable Any := fun _ _ _ h _ => h
theorem IsNums.stable (k : IntKind) (l : List Int) : Stable (IsNums k l) := fun _ _ _ h hs => Nums.keep h hs
theorem wp_region_list_facts {P : Program} {Q : Exit → Act → World → Prop} {l : List Oper} {a0 : Act} {w0 : World} {id : Nat} (hm : P.follows .mixedOrders = true) (hd : dstsApart l = true) (hb : edgesBack l 0 = true) (Fs : List (Value → World → Prop)) (hF : AllStable Fs)
    (hs : Steps1 P l.toArray Q (nthF Fs) a0 w0 l 0)
    (he : ∀ vs w, Since w0 w → KnowsAll (nthF Fs) vs w 0 l.length → Q .normal (putAll l 0 vs a0) w) : (Code.region id l.toArray true).wp P Q a0 w0 :=
  wp_region_facts hm hd hb (nthF Fs) (nthF_stable Fs hF) hs he
end Go.Proofs.YtmhojfpidedjeaaDoor
namespace Go.Proofs.YtmhojfpidedjeaaDoor
open Go.RowKit
theorem flat_at {α : Type} (f : α → List Value) (sz : Nat) (hf : ∀ x, (f x).length = sz) : ∀ (l : List α) (j t : Nat) (x : α), l[j]? = some x → t < sz → (l.flatMap f)[j * sz + t]? = (f x)[t]?
  | [], _, _, _, h, _ => by cases h
  | y :: r, 0, t, x, h, ht => by
    obtain rfl : y = x := by simpa using h
    rw [List.flatMap_cons, List.getElem?_append_left (by rw [hf]; omega)]
    simp
  | y :: r, j + 1, t, x, h, ht => by
    rw [List.flatMap_cons, List.getElem?_append_right (by rw [hf, Nat.succ_mul]; omega), hf, show (j + 1) * sz + t - sz = j * sz + t from by rw [Nat.succ_mul]; omega]
    exact flat_at f sz hf r j t x (by simpa using h) ht
theorem flat_len {α : Type} (f : α → List Value) (sz : Nat) (hf : ∀ x, (f x).length = sz) : ∀ (l : List α), (l.flatMap f).length = l.length * sz
  | [] => by simp
  | y :: r => by rw [List.flatMap_cons, List.length_append, hf, flat_len f sz hf r, List.length_cons, Nat.succ_mul]; omega
theorem own_keep {w w' : World} {base : Nat} {e : TypeId} {size n : Nat} {v : Value} {xs : List Value} (h : w.ownsRow base e size v n xs) (s : Since w w') : w'.ownsRow base e size v n xs := by
  obtain ⟨h0, h | ⟨g, cap, cur, h1, h2, h3, h4⟩⟩ := h
  · exact ⟨h0, .inl h⟩
  · exact ⟨h0, .inr ⟨g, cap, cur, h1, h2, (Below.block s g (Array.getElem?_eq_some_iff.1 h3).1).trans h3, h4⟩⟩
/-- A row of the call's own of data that take sz cells each. -/
def OwnRow {α : Type} (f : α → List Value) (sz : Nat) (e : TypeId) (base : Nat) (w : World) (v : Value) (l : List α) : Prop := w.ownsRow base e sz v l.length (l.flatMap f)
theorem OwnRow.keep {α : Type} {f : α → List Value} {sz : Nat} {e : TypeId} {base : Nat} {w w' : World} {v : Value} {l : List α} (h : OwnRow f sz e base w v l) (s : Since w w') : OwnRow f sz e base w' v l := own_keep h s
theorem OwnRow.nil {α : Type} (f : α → List Value) (sz : Nat) (e : TypeId) (base : Nat) (w : World) : OwnRow f sz e base w (.slice none 0 0) [] := ⟨by simp, .inl ⟨rfl, rfl⟩⟩
theorem OwnRow.shape {α : Type} {f : α → List Value} {sz : Nat} {e : TypeId} {base : Nat} {w : World} {v : Value} {l : List α} (h : OwnRow f sz e base w v l) : ∃ a cap, v = .slice a l.length cap := by
  obtain ⟨_, ⟨hv, hn⟩ | ⟨g, cap, cur, hv, _⟩⟩ := h
  · exact ⟨none, 0, by rw [hv, hn]⟩
  · exact ⟨_, cap, hv⟩
theorem OwnRow.cells {α : Type} {f : α → List Value} {sz : Nat} (hf : ∀ x, (f x).length = sz) {e : TypeId} {base : Nat} {w : World} {v : Value} {l : List α} (h : OwnRow f sz e base w v l) :
    (v = .slice none 0 0 ∧ l = []) ∨ ∃ g cap, v = .slice (some ⟨g, 0, none⟩) l.length cap ∧ l.length ≤ cap ∧ cap ≤ maxLen ∧ base ≤ g ∧ g < w.heap.size ∧ ∀ (j t : Nat) (x : α), l[j]? = some x → t < sz → w.cell? ⟨g, j * sz + t, none⟩ = (f x)[t]? := by
  obtain ⟨_, ⟨hv, hn⟩ | ⟨g, cap, cur, hv, hb, hg, hc, hm, hs, htake⟩⟩ := h
  · exact .inl ⟨hv, List.length_eq_zero_iff.1 hn⟩
  · refine .inr ⟨g, cap, hv, hc, hm, hb, (Array.getElem?_eq_some_iff.1 hg).1, fun j t x hj ht => ?_⟩
    have hlt : j < l.length := (List.getElem?_eq_some_iff.1 hj).1
    have hle : j * sz + t < l.length * sz := by
      have : (j + 1) * sz ≤ l.length * sz := Nat.mul_le_mul_right _ hlt
      rw [Nat.succ_mul] at this; omega
    have e1 := congrArg (fun x => x[j * sz + t]?) htake
    simp only [List.getElem?_take_of_lt hle, flat_at f sz hf l j t x hj ht] at e1
    simp only [World.cell?, hg]
    simpa using e1
end Go.Proofs.YtmhojfpidedjeaaDoor
namespace Go.Proofs.YtmhojfpidedjeaaDoor
open Go.RowKit
def predB (l : List Oper) (j i : Nat) : Bool := match l[i]? with
  | some o => o.after.toList.any fun e => e.on == j && Region.binds .any e
  | none => false
/-- Does k come ahead of i in every order? -/
def aheadB (l : List Oper) : Nat → Nat → Nat → Bool
  | 0, _, _ => false
  | f + 1, k, i => match l[i]? with
    | some o => o.after.toList.any fun e => Region.binds .any e && (e.on == k || aheadB l f k e.on)
    | none => false
/-- What is listed is closed under what comes ahead. -/
def Closed (l : List Oper) (listed : Array Bool) : Prop := ∀ (i : Nat) (o : Oper), l[i]? = some o → listed.getD i false = true → ∀ e ∈ o.after, Region.binds .any e = true → listed.getD e.on false = true
theorem ahead_listed {l : List Oper} {listed : Array Bool} (hc : Closed l listed) : ∀ (f k i : Nat), aheadB l f k i = true → ∀ o, l[i]? = some o → (∀ e ∈ o.after, Region.binds .any e = true → listed.getD e.on false = true) → listed.getD k false = true
  | 0, _, _, h, _, _, _ => by cases h
  | f + 1, k, i, h, o, ho, hp => by
    unfold aheadB at h
    rw [ho] at h
    simp only [List.any_eq_true, Bool.and_eq_true, Bool.or_eq_true, beq_iff_eq] at h
    obtain ⟨e, he, hb, h | h⟩ := h
    · subst h; exact hp e (by simpa using he) hb
    · have hl := hp e (by simpa using he) hb
      cases ho2 : l[e.on]? with
      | none =>
        cases f with
        | zero => cases h
        | succ f => unfold aheadB at h; rw [ho2] at h; cases h
      | some o2 => exact ahead_listed hc f k e.on h o2 ho2 (hc e.on o2 ho2 hl)
section
variable {P : Program} {Q : Exit → Act → World → Prop} {l : List Oper} {F : Nat → Value → World → Prop} {a0 : Act} {w0 : World} {fixed cons fin : List Bool}
end
/-- Under any turn of memory what is known stays. -/
def FixedF (f : Value → World → Prop) : Prop := ∀ v w w', f v w → f v w'
theorem Is.fixed (x : Value) : FixedF (Is x) := fun _ _ _ h => h
end Go.Proofs.YtmhojfpidedjeaaDoor
namespace Go.Proofs.YtmhojfpidedjeaaDoor
open Go.RowKit Go.ChangeShapes Go.WideShapes
set_option linter.unusedVariables false
section
variable {H : Type} {enc : TypeId × Value → H} {P : Program} {w : World} {base : Nat} {held : Bool}
theorem spot_none {a : Addr} {v : Value} (h : w.cell? (a.add 0) = some v) : a = ⟨a.block, a.off, none⟩ := by
  obtain ⟨b, o, s⟩ := a
  have h' : w.cell? ⟨b, o, s⟩ = some v := by simpa [Addr.add] using h
  have := World.cell?_spot h'
  simp at this
  simp [this]
theorem add_at {b o i : Nat} : (⟨b, o, none⟩ : Addr).add i = ⟨b, o + i, none⟩ := by
  unfold Addr.add
  split
  · rename_i h; subst h; rfl
  · rfl
theorem cell_lt {a : Addr} {v : Value} (h : w.cell? a = some v) : a.block < w.heap.size := by
  by_cases hlt : a.block < w.heap.size
  · exact hlt
  · exfalso
    unfold World.cell? at h
    rw [Array.getElem?_eq_none (by omega)] at h
    cases a.spot <;> simp at h
/-- A slice of numbers. -/
theorem nums_trod {t e : TypeId} {k : IntKind} {fuel : Nat} {v : Value} {x : DataW H × List MemPlace} (ht : P.underlying t = some (.slice e)) (he : P.underlying e = some (.int k)) (hc : P.cellsOf e = 1)
    (h : DataW.trod enc P w base (fun _ => true) held fuel t [v] = some x) : ∃ l : List Int, Nums k w v l ∧ ∀ n ∈ l, (Lit.int k n).wf = true := by
  rcases Go.Deep.open_slice1 ht hc h with ⟨hv, _⟩ | ⟨a, len, cap, m, n, V, D, Pl, hv, _, hl, hm, hmm, _, hx⟩
  · exact ⟨[], .inl ⟨none, by simpa using hv, rfl⟩, fun n hn => by cases hn⟩
  · have hv : v = .slice (some a) len cap := by simpa using hv
    obtain rfl : m = cap := by simpa using hmm
    have hnum : ∀ i, i < m → ∃ z : Int, V i = .int k z ∧ (Lit.int k z).wf = true := fun i hi => by
      obtain ⟨z, h1, _, h2⟩ := DataW.trod_int he (hx i hi).2
      exact ⟨z, by simpa using h1, h2⟩
    obtain ⟨Z, hZ⟩ := Go.Deep.choose_lt hnum
    by_cases h0 : m = 0
    · have hl0 : len = 0 := by omega
      subst hl0; subst h0
      exact ⟨[], .inl ⟨some a, hv, rfl⟩, fun n hn => by cases hn⟩
    · have h1 := (hx 0 (by omega)).1
      have hs := spot_none h1
      have hb := cell_lt h1
      have hb' : a.block < w.heap.size := by
        unfold Addr.add at hb; simpa using hb
      refine ⟨(List.range len).map Z, .inr ⟨a.block, a.off, m, ?_, by simpa using hl, hm, hb', ?_⟩, ?_⟩
      · rw [hv, ← hs]; simp
      · intro j z hj
        have hjl : j < len := by
          have := (List.getElem?_eq_some_iff.1 hj).1; simpa using this
        have hz : Z j = z := by simpa [hjl] using hj
        have := (hx j (by omega)).1
        rw [hs, add_at] at this
        rw [this, (hZ j (by omega)).1, hz]
      · intro z hz
        obtain ⟨i, hi, rfl⟩ := List.mem_map.1 hz
        have := List.mem_range.1 hi
        exact (hZ i (by omega)).2
end
theorem Tryd.cellsInt : Tryd.prog.cellsOf 3 = 1 := by kernel_rfl
section
variable {H : Type} {enc : TypeId × Value → H} {w : World} {base : Nat} {held : Bool}
theorem int_field {P : Program} {t : TypeId} {k : IntKind} {fuel : Nat} {v : Value} {x : Option (DataW H × List MemPlace)} (ht : P.underlying t = some (.int k)) (hx : DataW.trod enc P w base (fun _ => true) held fuel t [v] = x) (hs : x.isSome = true) :
    ∃ n, v = .int k n ∧ (Lit.int k n).wf = true := by
  obtain ⟨y, rfl⟩ := Option.isSome_iff_exists.1 hs
  obtain ⟨n, h1, _, h2⟩ := DataW.trod_int ht hx
  exact ⟨n, by simpa using h1, h2⟩
/-- One field of a struct. -/
theorem fld {P : Program} {fs : Array Field} {n : Nat} {cs : List Value} {xs : List (DataW H × List MemPlace)} (hf : ∀ (i : Nat) (f : Field), fs[i]? = some f → DataW.trod enc P w base (fun _ => true) held n f.type ((cs.drop f.offset).take (P.cellsOf f.type)) = xs[i]?)
    (i : Nat) (t : TypeId) (off c : Nat) (h : (fs[i]?).map (fun f => (f.type, f.offset)) = some (t, off)) (hc : P.cellsOf t = c) : DataW.trod enc P w base (fun _ => true) held n t ((cs.drop off).take c) = xs[i]? := by
  obtain ⟨f, h1, h2⟩ := Option.map_eq_some_iff.1 h
  simp only [Prod.mk.injEq] at h2
  obtain ⟨rfl, rfl⟩ := h2
  have := hf i f h1
  rwa [hc] at this
end
end Go.Proofs.YtmhojfpidedjeaaDoor
namespace Go.Proofs.YtmhojfpidedjeaaDoor
open Go.RowKit Go.ChangeShapes Go.WideShapes
set_option linter.unusedVariables false
/-- Data that take sz cells each, in a row: as they came in. -/
def RowIn {α : Type} (f : α → List Value) (sz : Nat) (p : World → α → Prop) (w : World) (v : Value) (l : List α) : Prop :=
  (∃ a, v = .slice a 0 0 ∧ l = []) ∨ ∃ b off cap, v = .slice (some ⟨b, off, none⟩) l.length cap ∧ l.length ≤ cap ∧ cap ≤ maxLen ∧ b < w.heap.size ∧ ∀ (j : Nat) (x : α), l[j]? = some x → (∀ t, t < sz → w.cell? ⟨b, off + j * sz + t, none⟩ = (f x)[t]?) ∧ p w x
theorem RowIn.keep {α : Type} {f : α → List Value} {sz : Nat} {p : World → α → Prop} (hp : ∀ w w' x, p w x → Since w w' → p w' x) {w w' : World} {v : Value} {l : List α} (h : RowIn f sz p w v l) (s : Since w w') : RowIn f sz p w' v l := by
  rcases h with h | ⟨b, off, cap, h1, h2, h3, h4, h5⟩
  · exact .inl h
  · exact .inr ⟨b, off, cap, h1, h2, h3, Nat.lt_of_lt_of_le h4 s.size, fun j x hj => ⟨fun t ht => by rw [s.cell (p := ⟨b, off + j * sz + t, none⟩) h4]; exact (h5 j x hj).1 t ht, hp _ _ _ (h5 j x hj).2 s⟩⟩
theorem RowIn.shape {α : Type} {f : α → List Value} {sz : Nat} {p : World → α → Prop} {w : World} {v : Value} {l : List α} (h : RowIn f sz p w v l) : ∃ a cap, v = .slice a l.length cap ∧ l.length ≤ maxLen := by
  rcases h with ⟨a, h1, h2⟩ | ⟨b, off, cap, h1, h2, h3, _⟩
  · subst h2; exact ⟨a, 0, h1, Nat.zero_le _⟩
  · exact ⟨_, cap, h1, by omega⟩
theorem RowIn.at {α : Type} {f : α → List Value} {sz : Nat} {p : World → α → Prop} {w : World} {a : Option Addr} {n cap : Nat} {l : List α} (h : RowIn f sz p w (.slice a n cap) l) {k : Nat} (hk : k < l.length) :
    ∃ b off x, a = some ⟨b, off, none⟩ ∧ b < w.heap.size ∧ l[k]? = some x ∧ (∀ t, t < sz → w.cell? ⟨b, off + k * sz + t, none⟩ = (f x)[t]?) ∧ p w x := by
  rcases h with ⟨_, _, h2⟩ | ⟨b, off, cap', h1, _, _, h4, h5⟩
  · subst h2; simp at hk
  · cases h1
    have hx : l[k]? = some l[k] := List.getElem?_eq_getElem hk
    exact ⟨b, off, _, rfl, h4, hx, h5 k _ hx⟩
section
variable {H : Type} {enc : TypeId × Value → H} {P : Program} {w : World} {base : Nat} {held : Bool}
/-- A slice of data, by how one of them is read. -/
theorem row_trod {α : Type} [Inhabited α] {f : α → List Value} {sz : Nat} {p : World → α → Prop} {t e : TypeId} {fuel : Nat} {v : Value} {x : DataW H × List MemPlace} (ht : P.underlying t = some (.slice e)) (hc : P.cellsOf e = sz) (hsz : 0 < sz) (hf : ∀ x, (f x).length = sz)
    (hone : ∀ (fuel : Nat) (cs : List Value) (y : DataW H × List MemPlace), DataW.trod enc P w base (fun _ => true) held fuel e cs = some y → ∃ x : α, cs = f x ∧ p w x)
    (h : DataW.trod enc P w base (fun _ => true) held fuel t [v] = some x) : ∃ l : List α, RowIn f sz p w v l := by
  rcases Go.Deep.open_slice ht h with ⟨hv, _⟩ | ⟨a, len, cap, m, n, D, Pl, hv, _, hl, hm, hmm, _, hx⟩
  · exact ⟨[], .inl ⟨none, by simpa using hv, rfl⟩⟩
  · have hv : v = .slice (some a) len cap := by simpa using hv
    obtain rfl : m = cap := by simpa using hmm
    rw [hc] at hx
    have hdat : ∀ i, i < m → ∃ y : α, (∀ t, t < sz → w.cell? ((a.add (i * sz)).add t) = (f y)[t]?) ∧ p w y := fun i hi => by
      obtain ⟨cs', h1, h2⟩ := hx i hi
      obtain ⟨y, rfl, hy⟩ := hone _ _ _ h2
      obtain ⟨_, _, hcell⟩ := World.cells?_some h1
      exact ⟨y, fun t ht => hcell t ht, hy⟩
    obtain ⟨Z, hZ⟩ := Go.Deep.choose_lt hdat
    by_cases h0 : m = 0
    · have hl0 : len = 0 := by omega
      subst hl0; subst h0
      exact ⟨[], .inl ⟨some a, hv, rfl⟩⟩
    · have h1 := (hZ 0 (by omega)).1 0 hsz
      rw [List.getElem?_eq_getElem (by rw [hf]; exact hsz)] at h1
      rw [Nat.zero_mul] at h1
      have h1' : w.cell? ((a.add 0).add 0) = some _ := h1
      have hs : a = ⟨a.block, a.off, none⟩ := by
        have : a.add 0 = a := by unfold Addr.add; simp
        rw [this] at h1'
        exact spot_none h1'
      have hb := cell_lt h1'
      have hb' : a.block < w.heap.size := by
        have e1 : ((a.add 0).add 0).block = a.block := by unfold Addr.add; simp
        rwa [e1] at hb
      refine ⟨(List.range len).map Z, .inr ⟨a.block, a.off, m, ?_, by simpa using hl, hm, hb', ?_⟩⟩
      · rw [hv, ← hs]; simp
      · intro j y hj
        have hjl : j < len := by
          have := (List.getElem?_eq_some_iff.1 hj).1; simpa using this
        have hz : Z j = y := by simpa [hjl] using hj
        obtain ⟨g1, g2⟩ := hZ j (by omega)
        rw [hz] at g1 g2
        refine ⟨fun t ht => ?_, g2⟩
        have := g1 t ht
        rw [hs, add_at, add_at] at this
        exact this
end
end Go.Proofs.YtmhojfpidedjeaaDoor
namespace Go.Proofs.YtmhojfpidedjeaaDoor
open Go.RowKit
def HeapIs (w : World) (q : Nat) (cs : Array Value) (T : TypeId) : Prop := w.heap[q]? = some (.cells cs T (0, 0))
theorem HeapIs.cell {w : World} {q : Nat} {cs : Array Value} {T : TypeId} (h : HeapIs w q cs T) (i : Nat) : w.cell? ⟨q, i, none⟩ = cs[i]? := by
  simp [World.cell?, show w.heap[q]? = _ from h]
theorem HeapIs.lt {w : World} {q : Nat} {cs : Array Value} {T : TypeId} (h : HeapIs w q cs T) : q < w.heap.size := (Array.getElem?_eq_some_iff.1 h).1
theorem HeapIs.keep {w w' : World} {q : Nat} {cs : Array Value} {T : TypeId} (h : HeapIs w q cs T) (s : Since w w') : HeapIs w' q cs T := (Below.block s q h.lt).trans h
theorem HeapIs.new (w : World) (cs : Array Value) (T : TypeId) : HeapIs (w.alloc (.cells cs T)) w.heap.size cs T := heap_last _ _
theorem HeapIs.set {w : World} {q : Nat} {cs : Array Value} {T : TypeId} (h : HeapIs w q cs T) (i : Nat) (x : Value) : HeapIs (w.setCell ⟨q, i, none⟩ x) q (cs.setIfInBounds i x) T := by
  unfold HeapIs at h ⊢
  simp [World.setCell, Array.getElem?_modify, h]
theorem HeapIs.frozen {w : World} {q : Nat} {cs : Array Value} {T : TypeId} (h : HeapIs w q cs T) (i : Nat) : w.frozen? ⟨q, i, none⟩ = false := by
  simp [World.frozen?, show w.heap[q]? = _ from h]
end Go.Proofs.YtmhojfpidedjeaaDoor
namespace Go.Proofs.YtmhojfpidedjeaaDoor
open Go.RowKit
set_option linter.unusedVariables false
structure Turn (S : Nat → Prop) (w w' : World) : Prop where
  os : w'.os = w.os
  tape : w'.tape = w.tape
  output : w'.output = w.output
  size : w.heap.size ≤ w'.heap.size
  block : ∀ k, k < w.heap.size → ¬ S k → w'.heap[k]? = w.heap[k]?
theorem Turn.refl (S : Nat → Prop) (w : World) : Turn S w w := ⟨rfl, rfl, rfl, Nat.le_refl _, fun _ _ _ => rfl⟩
theorem Turn.trans {S : Nat → Prop} {a b c : World} (h : Turn S a b) (k : Turn S b c) : Turn S a c :=
  ⟨k.os.trans h.os, k.tape.trans h.tape, k.output.trans h.output, Nat.le_trans h.size k.size, fun i hi hn => (k.block i (Nat.lt_of_lt_of_le hi h.size) hn).trans (h.block i hi hn)⟩
theorem Turn.mono {S S' : Nat → Prop} {a b : World} (h : Turn S a b) (hs : ∀ k, k < a.heap.size → S k → S' k) : Turn S' a b :=
  ⟨h.os, h.tape, h.output, h.size, fun i hi hn => h.block i hi fun hs' => hn (hs i hi hs')⟩
theorem Turn.since {S : Nat → Prop} {a b : World} (h : Since a b) : Turn S a b := ⟨h.os, h.tape, h.output, h.size, fun i hi _ => Below.block h i hi⟩
theorem Turn.setCell {S : Nat → Prop} {a b : World} (h : Turn S a b) {p : Addr} (hp : S p.block) (v : Value) : Turn S a (b.setCell p v) :=
  ⟨h.os, h.tape, h.output, by simpa [World.setCell] using h.size, fun i hi hn => by
    rw [Below.heap_setCell _ _ _ _ (fun e => hn (by rw [e]; exact hp))]; exact h.block i hi hn⟩
theorem Turn.alloc {S : Nat → Prop} {a b : World} (h : Turn S a b) (o : Obj) : Turn S a (b.alloc o) := h.trans (Turn.since ((Since.refl b).alloc o))
theorem Turn.toSince {S : Nat → Prop} {w0 a b : World} (h : Turn S a b) (h0 : Since w0 a) (hs : ∀ k, k < w0.heap.size → ¬ S k) : Since w0 b :=
  ⟨h.os.trans h0.os, h.tape.trans h0.tape, h.output.trans h0.output, Nat.le_trans h0.size h.size, fun i hi => (h.block i (Nat.lt_of_lt_of_le hi h0.size) (hs i hi)).trans (h0.block i hi)⟩
theorem Turn.cell {S : Nat → Prop} {a b : World} (h : Turn S a b) {p : Addr} (hp : p.block < a.heap.size) (hn : ¬ S p.block) : b.cell? p = a.cell? p := World.cell?_of_block (h.block p.block hp hn)
theorem Nums.turn {S : Nat → Prop} {k : IntKind} {w w' : World} {v : Value} {l : List Int} (h : Nums k w v l) (t : Turn S w w') (hn : ∀ q, v.ownBlock = some q → ¬ S q) : Nums k w' v l := by
  rcases h with h | ⟨b, off, cap, h1, h2, h3, h4, h5⟩
  · exact .inl h
  · exact .inr ⟨b, off, cap, h1, h2, h3, Nat.lt_of_lt_of_le h4 t.size, fun j n hj => by rw [t.cell (p := ⟨b, off + j, none⟩) h4 (hn b (by rw [h1]; rfl))]; exact h5 j n hj⟩
theorem turn_grown {w w' : World} {row : Option Nat} (h : w.grownBy w' row) : Turn (fun k => row = some k) w w' := ⟨h.os, h.tape, h.output, h.size, fun k hk hn => h.block k hk (fun e => hn e.symm)⟩
theorem own_turn {S : Nat → Prop} {w w' : World} {base : Nat} {e : TypeId} {size n : Nat} {v : Value} {xs : List Value} (h : w.ownsRow base e size v n xs) (t : Turn S w w') (hn : ∀ q, v.ownBlock = some q → ¬ S q) : w'.ownsRow base e size v n xs := by
  obtain ⟨h0, h | ⟨g, cap, cur, h1, h2, h3, h4⟩⟩ := h
  · exact ⟨h0, .inl h⟩
  · exact ⟨h0, .inr ⟨g, cap, cur, h1, h2, (t.block g (Array.getElem?_eq_some_iff.1 h3).1 (hn g (by rw [h1]; rfl))).trans h3, h4⟩⟩
theorem own_ne {w : World} {b1 b2 : Nat} {e1 e2 : TypeId} {s1 s2 n1 n2 : Nat} {v1 v2 : Value} {x1 x2 : List Value} (h1 : w.ownsRow b1 e1 s1 v1 n1 x1) (h2 : w.ownsRow b2 e2 s2 v2 n2 x2) (hne : e1 ≠ e2) (q : Nat) (hq : v1.ownBlock = some q) : ¬ v2.ownBlock = some q := by
  intro hq2
  obtain ⟨_, ⟨h, _⟩ | ⟨g, _, _, hv, _, hg, _⟩⟩ := h1
  · rw [h] at hq; cases hq
  obtain ⟨_, ⟨h, _⟩ | ⟨g', _, _, hv', _, hg', _⟩⟩ := h2
  · rw [h] at hq2; cases hq2
  rw [hv] at hq; rw [hv'] at hq2
  have a : g = q := Option.some.inj hq
  have b : g' = q := Option.some.inj hq2
  rw [a] at hg; rw [b] at hg'; rw [hg] at hg'
  simp only [Option.some.injEq, Obj.cells.injEq] at hg'
  exact hne hg'.2.1
theorem own_base {w : World} {b b' : Nat} {e : TypeId} {size n : Nat} {v : Value} {xs : List Value} (h : w.ownsRow b e size v n xs) (hb : b' ≤ b) : w.ownsRow b' e size v n xs := by
  obtain ⟨h0, h | ⟨g, cap, cur, h1, h2, h3⟩⟩ := h
  · exact ⟨h0, .inl h⟩
  · exact ⟨h0, .inr ⟨g, cap, cur, h1, Nat.le_trans hb h2, h3⟩⟩
theorem own_heap {w : World} {b : Nat} {e : TypeId} {size n : Nat} {v : Value} {xs : List Value} (h : w.ownsRow b e size v n xs) {q : Nat} (hq : v.ownBlock = some q) : ∃ cur, w.heap[q]? = some (.cells cur e (0, 0)) := by
  obtain ⟨_, ⟨hv, _⟩ | ⟨g, _, cur, hv, _, hg, _⟩⟩ := h
  · rw [hv] at hq; cases hq
  · rw [hv] at hq
    obtain rfl : g = q := Option.some.inj hq
    exact ⟨cur, hg⟩
theorem HeapIs.turn {S : Nat → Prop} {w w' : World} {q : Nat} {cs : Array Value} {T : TypeId} (h : HeapIs w q cs T) (t : Turn S w w') (hn : ¬ S q) : HeapIs w' q cs T := (t.block q h.lt hn).trans h
theorem own_not {w : World} {b : Nat} {e : TypeId} {size n : Nat} {v : Value} {xs : List Value} (h : w.ownsRow b e size v n xs) {q : Nat} {cs : Array Value} {T : TypeId} (hb : HeapIs w q cs T) (hT : e ≠ T) : ¬ v.ownBlock = some q := by
  intro hq
  obtain ⟨cur, hc⟩ := own_heap h hq
  rw [show w.heap[q]? = _ from hb] at hc
  simp only [Option.some.injEq, Obj.cells.injEq] at hc
  exact hT hc.2.1.symm
theorem row_of_own {α : Type} {f : α → List Value} {sz : Nat} {p : World → α → Prop} (hf : ∀ x, (f x).length = sz) {e : TypeId} {base : Nat} {w : World} {v : Value} {l : List α} (h : OwnRow f sz e base w v l) (hp : ∀ x ∈ l, p w x) : RowIn f sz p w v l := by
  rcases h.cells hf with ⟨h1, h2⟩ | ⟨g, cap, hv, hc, hm, _, hg, hcell⟩
  · exact .inl ⟨_, h1, h2⟩
  · exact .inr ⟨g, 0, cap, hv, hc, hm, hg, fun j x hj => ⟨fun t ht => by rw [Nat.zero_add]; exact hcell j t x hj ht, hp x (List.mem_of_getElem? hj)⟩⟩
def NewOr (w : World) (v v' : Value) : Prop := ∀ q, v'.ownBlock = some q → v.ownBlock = some q ∨ w.heap.size ≤ q
theorem run_append_own2 {P : Program} (w : World) (base : Nat) (t ty e : TypeId) (i : TypeInfo) (z : Value) (size bytes : Nat) (ht : P.underlying t = some (.slice e)) (hi : P.info? e = some i) (hz : i.zero = some z)
    (hsize : i.size = size) (hby : i.bytes = bytes) (hzs : z.cells.size = size) (hsz : 0 < size)
    (v : Value) (n : Nat) (xs : List Value) (hown : w.ownsRow base e size v n xs)
    (a : Addr) (m c : Nat) (news : List Value) (hl : news.length = m * size) (hnews : ∀ j u, news[j]? = some u → w.cell? (a.add j) = some u) (h1 : ∀ u ∈ news, u.oneCell' = true)
    (h63 : n + m ≤ maxLen) (hbytes : (n + m) * bytes ≤ 140737488355328) (hbase : base ≤ w.heap.size) :
    ∃ v' w', (Builtin.append_ #[t, t] ty #[v, .slice (some a) m c]).run P w = .ok v' w' ∧ w'.ownsRow base e size v' (n + m) (xs ++ news) ∧ w.grownBy w' v.ownBlock ∧ NewOr w v v' := by
  obtain ⟨v', w', hr, h2, h3, _⟩ := run_append_own w base t ty e i z size bytes ht hi hz hsize hby hzs hsz v n xs hown a m c news hl hnews h1 h63 hbytes hbase
  refine ⟨v', w', hr, h2, h3, ?_⟩
  obtain ⟨hx0, ⟨hv, hn⟩ | ⟨g, cap, cur, hv, hb, hg, hnc, hcm, hcs, htake⟩⟩ := hown
  · obtain ⟨v2, w2, hr2, h22, _, _⟩ := run_append_own (P := P) w w.heap.size t ty e i z size bytes ht hi hz hsize hby hzs hsz v n xs ⟨hx0, .inl ⟨hv, hn⟩⟩ a m c news hl hnews h1 h63 hbytes (Nat.le_refl _)
    rw [hr] at hr2
    cases hr2
    obtain ⟨_, ⟨hv2, _⟩ | ⟨g2, _, _, hv2, hb2, _⟩⟩ := h22
    · intro q hq; rw [hv2] at hq; cases hq
    · intro q hq; rw [hv2] at hq; cases hq; exact .inr hb2
  · subst hv
    subst hsize
    by_cases hroom : n + m ≤ cap
    · have hfit : n * i.size + news.length ≤ cur.size := by rw [hl, hcs, ← Nat.add_mul]; exact Nat.mul_le_mul_right _ hroom
      have hr2 := run_append_room (P := P) w t ty e i ht hi g n cap cur hg a m c news hl hnews h1 hroom hfit
      rw [hr] at hr2
      cases hr2
      exact fun q hq => .inl hq
    · have holds : ∀ j u, xs[j]? = some u → w.cell? ((⟨g, 0, none⟩ : Addr).add j) = some u := World.ownsRow.cells (show w.ownsRow base e i.size (.slice (some ⟨g, 0, none⟩) n cap) n xs from ⟨hx0, .inr ⟨g, cap, cur, rfl, hb, hg, hnc, hcm, hcs, htake⟩⟩) (g := g) rfl
      have hsmall : n + m ≤ 9223372036854775807 := by simp only [maxLen] at h63; omega
      have hr2 := run_append_grow (P := P) w t ty e i z ht hi hz ⟨g, 0, none⟩ n cap xs hx0 holds a m c news hl hnews (by omega) (by omega) (growslice_fits (by omega) (by rw [hby]; exact hbytes))
      rw [hr] at hr2
      cases hr2
      intro q hq
      cases hq
      exact .inr (Nat.le_refl _)
theorem wpList_append_own2 {P : Program} {w : World} {ops : Array Oper} {rest : List Oper} {o : Oper} {a : Act} {Q : Exit → Act → World → Prop} (hgd : o.guard = none) (s x : Operand) (t : TypeId)
    (ho : o.op = .call { callee := .builtin .append, args := #[s, x], argTypes := #[t, t] })
    (base : Nat) (e : TypeId) (i : TypeInfo) (z : Value) (size bytes : Nat) (ht : P.underlying t = some (.slice e)) (hi : P.info? e = some i) (hz : i.zero = some z)
    (hsize : i.size = size) (hby : i.bytes = bytes) (hzs : z.cells.size = size) (hsz : 0 < size)
    (v : Value) (n : Nat) (xs : List Value) (hs : a.eval s = v) (hown : w.ownsRow base e size v n xs)
    (ad : Addr) (m c : Nat) (news : List Value) (hx : a.eval x = .slice (some ad) m c) (hl : news.length = m * size) (hnews : ∀ j u, news[j]? = some u → w.cell? (ad.add j) = some u) (h1 : ∀ u ∈ news, u.oneCell' = true)
    (h63 : n + m ≤ maxLen) (hbytes : (n + m) * bytes ≤ 140737488355328) (hbase : base ≤ w.heap.size)
    (h : ∀ v' w', w'.ownsRow base e size v' (n + m) (xs ++ news) → Turn (fun q => v.ownBlock = some q) w w' → NewOr w v v' → wpList P ops Q rest (a.put o.dst v') w') : wpList P ops Q (o :: rest) a w := by
  refine wpList_plain hgd fun _ hK => ?_
  obtain ⟨v', w', hr, h2, h3, h4⟩ := run_append_own2 (P := P) w base t o.type e i z size bytes ht hi hz hsize hby hzs hsz v n xs hown ad m c news hl hnews h1 h63 hbytes hbase
  unfold Oper.wp execOp
  simp only [ho, resolve, invoke, builtin, Sem.run_bind, Sem.run_pure, Result.andThen_ok, List.map_toArray, List.map_cons, List.map_nil, hs, hx, hr]
  exact hK _ _ (h v' w' h2 (turn_grown h3) h4)
theorem wpList_append_one2 {α : Type} {P : Program} {base : Nat} {w : World} {ops : Array Oper} {rest : List Oper} {o : Oper} {a : Act} {Q : Exit → Act → World → Prop} (f : α → List Value) (sz : Nat) (hf : ∀ x, (f x).length = sz) (hsz : 0 < sz) (hgd : o.guard = none) (s x : Operand) (t : TypeId)
    (ho : o.op = .call { callee := .builtin .append, args := #[s, x], argTypes := #[t, t] })
    (e : TypeId) (z : Value) (bytes : Nat) (ht : P.underlying t = some (.slice e)) (hinfo : (P.info? e).map (fun i => (i.zero, i.size, i.bytes)) = some (some z, sz, bytes)) (hz : z.cells.size = sz)
    (v : Value) (l : List α) (y : α) (b cap : Nat) (t2 : TypeId) (hs : a.eval s = v) (hx : a.eval x = .slice (some ⟨b, 0, none⟩) 1 cap) (hown : OwnRow f sz e base w v l) (hb : w.heap[b]? = some (.cells (f y).toArray t2 (0, 0))) (h1 : ∀ u ∈ f y, u.oneCell' = true)
    (hm : l.length + 1 ≤ maxLen) (hlen : (l.length + 1) * bytes ≤ 140737488355328) (hbase : base ≤ w.heap.size)
    (h : ∀ v' w', OwnRow f sz e base w' v' (l ++ [y]) → Turn (fun k => v.ownBlock = some k) w w' → NewOr w v v' → wpList P ops Q rest (a.put o.dst v') w') : wpList P ops Q (o :: rest) a w := by
  obtain ⟨i, hi, hz0, hz1, hz2⟩ := info_parts hinfo
  refine wpList_append_own2 hgd s x t ho base e i z sz bytes ht hi hz0 hz1 hz2 hz hsz v _ _ hs hown ⟨b, 0, none⟩ 1 cap (f y) hx (by rw [hf, Nat.one_mul]) ?_ h1 hm hlen hbase ?_
  · intro j u hu
    have e2 : (⟨b, 0, none⟩ : Addr).add j = ⟨b, j, none⟩ := by
      unfold Addr.add; split
      · rename_i h0; subst h0; rfl
      · simp
    rw [e2]
    simp [World.cell?, hb, hu]
  · intro v' w' hown' t h4
    refine h v' w' ?_ t h4
    unfold OwnRow
    rw [List.length_append, List.flatMap_append]
    simpa using hown'
theorem wpList_append_nums2 {P : Program} {base : Nat} {w : World} {ops : Array Oper} {rest : List Oper} {o : Oper} {a : Act} {Q : Exit → Act → World → Prop} (k : IntKind) (hgd : o.guard = none) (s x : Operand) (t : TypeId)
    (ho : o.op = .call { callee := .builtin .append, args := #[s, x], argTypes := #[t, t] })
    (e : TypeId) (z : Value) (bytes : Nat) (ht : P.underlying t = some (.slice e)) (hinfo : (P.info? e).map (fun i => (i.zero, i.size, i.bytes)) = some (some z, 1, bytes)) (hz : z.cells.size = 1) (hby : bytes ≤ 8)
    (v xv : Value) (l1 l2 : List Int) (hs : a.eval s = v) (hx : a.eval x = xv) (hown : w.ownsRow base e 1 v l1.length (l1.map (Value.int k))) (hl2 : Nums k w xv l2)
    (hlen : l1.length + l2.length ≤ 1000000) (hbase : base ≤ w.heap.size)
    (h : ∀ v' w', w'.ownsRow base e 1 v' (l1 ++ l2).length ((l1 ++ l2).map (Value.int k)) → Turn (fun q => v.ownBlock = some q) w w' → NewOr w v v' → wpList P ops Q rest (a.put o.dst v') w') : wpList P ops Q (o :: rest) a w := by
  obtain ⟨i, hi, hz0, hz1, hz2⟩ := info_parts hinfo
  rcases hl2 with ⟨ad, hv, rfl⟩ | ⟨b, off, cap, hv, hcap, _, hb, hcell⟩
  · subst hv
    cases ad with
    | none =>
      refine wpList_append_own_none hgd s x t ho base e i 1 ht hi v _ _ hs hown hx (h v w ?_ (Turn.refl _ _) fun q hq => .inl hq)
      simpa using hown
    | some ad =>
      refine wpList_append_own2 hgd s x t ho base e i z 1 bytes ht hi hz0 hz1 hz2 hz (by decide) v _ _ hs hown ad 0 0 [] hx rfl (fun j u hu => by cases hu) (fun u hu => by cases hu) (by unfold maxLen; simp at hlen; omega) ?_ hbase ?_
      · have : (l1.length + 0) * bytes ≤ 1000000 * 8 := Nat.mul_le_mul (by simpa using hlen) hby
        omega
      · intro v' w' hown' t h4
        exact h v' w' (by simpa using hown') t h4
  · subst hv
    refine wpList_append_own2 hgd s x t ho base e i z 1 bytes ht hi hz0 hz1 hz2 hz (by decide) v _ _ hs hown ⟨b, off, none⟩ l2.length cap (l2.map (Value.int k)) hx (by simp) ?_ ?_ (by unfold maxLen; omega) ?_ hbase ?_
    · intro j u hu
      rw [List.getElem?_map] at hu
      obtain ⟨n, hn, rfl⟩ := Option.map_eq_some_iff.1 hu
      have := hcell j n hn
      unfold Addr.add
      split
      · rename_i h0; subst h0; simpa using this
      · exact this
    · intro u hu
      obtain ⟨n, _, rfl⟩ := List.mem_map.1 hu
      rfl
    · have : (l1.length + l2.length) * bytes ≤ 1000000 * 8 := Nat.mul_le_mul hlen hby
      omega
    · intro v' w' hown' t h4
      exact h v' w' (by simpa using hown') t h4
theorem RowIn.turn {α : Type} {f : α → List Value} {sz : Nat} {p : World → α → Prop} {S : Nat → Prop} {w w' : World} {v : Value} {l : List α} (h : RowIn f sz p w v l) (t : Turn S w w') (hn : ∀ q, v.ownBlock = some q → ¬ S q) (hp : ∀ x ∈ l, p w x → p w' x) : RowIn f sz p w' v l := by
  rcases h with h | ⟨b, off, cap, h1, h2, h3, h4, h5⟩
  · exact .inl h
  · exact .inr ⟨b, off, cap, h1, h2, h3, Nat.lt_of_lt_of_le h4 t.size, fun j x hj => ⟨fun t2 ht => by rw [t.cell (p := ⟨b, off + j * sz + t2, none⟩) h4 (hn b (by rw [h1]; rfl))]; exact (h5 j x hj).1 t2 ht, hp x (List.mem_of_getElem? hj) (h5 j x hj).2⟩⟩
theorem own_setCell {w : World} {base : Nat} {e : TypeId} {sz n g cap : Nat} {xs : List Value} (h : w.ownsRow base e sz (.slice (some ⟨g, 0, none⟩) n cap) n xs) (j : Nat) (y : Value) : (w.setCell ⟨g, j, none⟩ y).ownsRow base e sz (.slice (some ⟨g, 0, none⟩) n cap) n (xs.set j y) := by
  obtain ⟨h0, ⟨hv, _⟩ | ⟨g2, cap2, cur, hv, h2, hg, h4, h5, h6, h7⟩⟩ := h
  · cases hv
  · cases hv
    have h1 := HeapIs.set (show HeapIs w g cur e from hg) j y
    refine ⟨by rw [List.length_set]; exact h0, .inr ⟨g, cap, cur.setIfInBounds j y, rfl, h2, h1, h4, h5, by rw [Array.size_setIfInBounds]; exact h6, ?_⟩⟩
    rw [Array.toList_setIfInBounds, List.take_set, h7]
def Stays (S : Nat → Prop) (w : World) (v : Value) : Prop := ∀ q, v.ownBlock = some q → ¬ S q ∧ q < w.heap.size
theorem Stays.mono {S S' : Nat → Prop} {w w' : World} {v : Value} (h : Stays S w v) (hs : ∀ q, S' q → S q ∨ w.heap.size ≤ q) (hz : w.heap.size ≤ w'.heap.size) : Stays S' w' v := fun q hq => by
  obtain ⟨h1, h2⟩ := h q hq
  refine ⟨fun h3 => ?_, by omega⟩
  rcases hs q h3 with h4 | h4
  · exact h1 h4
  · omega
theorem Stays.nil (S : Nat → Prop) (w : World) : Stays S w (.slice none 0 0) := fun q hq => by cases hq
theorem heap_ne {w : World} {a b : Nat} {cs ds : Array Value} {T U : TypeId} (h1 : HeapIs w a cs T) (h2 : HeapIs w b ds U) (hT : T ≠ U) : a ≠ b := by
  rintro rfl
  unfold HeapIs at h1 h2
  rw [h1] at h2
  simp only [Option.some.injEq, Obj.cells.injEq] at h2
  exact hT h2.2.1
end Go.Proofs.YtmhojfpidedjeaaDoor
