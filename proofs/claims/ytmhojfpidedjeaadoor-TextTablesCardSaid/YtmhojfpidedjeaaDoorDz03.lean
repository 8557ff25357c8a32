/- TxPa RefParse TxFnR TxRPa TxTPa TxD TxAll TxNames -/
import Derived.Test.YtmhojfpidedjeaaDoorDz02
import Derived.Laws.BytesString
namespace Go.Proofs.YtmhojfpidedjeaaDoor
open Go.RowKit
set_option linter.unusedVariables false
theorem flat_set {α : Type} (f : α → List Value) (sz : Nat) (hf : ∀ x, (f x).length = sz) : ∀ (l : List α) (i t : Nat) (x x' : α) (y : Value), l[i]? = some x → t < sz → f x' = (f x).set t y → (l.flatMap f).set (i * sz + t) y = (l.set i x').flatMap f
  | [], i, t, x, x', y, h, _, _ => by simp at h
  | z :: r, 0, t, x, x', y, h, ht, e => by
    simp at h
    subst h
    rw [List.flatMap_cons, Nat.zero_mul, Nat.zero_add, List.set_append_left _ _ (by rw [hf]; exact ht), ← e, List.set_cons_zero, List.flatMap_cons]
  | z :: r, i + 1, t, x, x', y, h, ht, e => by
    have ih := flat_set f sz hf r i t x x' y (by simpa using h) ht e
    rw [List.flatMap_cons, List.set_append_right _ _ (by rw [hf, Nat.succ_mul]; omega), hf, show (i + 1) * sz + t - sz = i * sz + t from by rw [Nat.succ_mul]; omega, ih, List.set_cons_succ, List.flatMap_cons]
theorem Turn.later {S R : Nat → Prop} {a b c : World} (h : Turn S a b) (t : Turn R b c) (hR : ∀ q, R q → S q ∨ a.heap.size ≤ q) : Turn S a c :=
  ((h.mono fun _ _ hs => Or.inl hs : Turn (fun q => S q ∨ a.heap.size ≤ q) a b).trans (t.mono fun q _ hq => hR q hq)).mono fun q hq hs => by
    rcases hs with hs | hs
    · exact hs
    · omega
theorem RowIn.turn2 {α : Type} {f : α → List Value} {sz : Nat} {p p' : World → α → Prop} {R : Nat → Prop} {w w' : World} {v : Value} {l : List α} (h : RowIn f sz p w v l) (t : Turn R w w') (hn : ∀ q, v.ownBlock = some q → ¬ R q) (hp : ∀ x ∈ l, p w x → p' w' x) : RowIn f sz p' w' v l := by
  rcases h with h | ⟨b, off, cap, h1, h2, h3, h4, h5⟩
  · exact .inl h
  · exact .inr ⟨b, off, cap, h1, h2, h3, Nat.lt_of_lt_of_le h4 t.size, fun j x hj => ⟨fun u hu => by rw [t.cell (p := ⟨b, off + j * sz + u, none⟩) h4 (hn b (by rw [h1]; rfl))]; exact (h5 j x hj).1 u hu, hp x (List.mem_of_getElem? hj) (h5 j x hj).2⟩⟩
def PhiOk (S : Nat → Prop) (w : World) (p : FPhi) : Prop := PairsIn w p.inv p.ins ∧ Stays S w p.inv
def InsOk (S : Nat → Prop) (w : World) (x : FIns) : Prop := Ints w x.av x.args ∧ Stays S w x.av
structure TermOk (S : Nat → Prop) (w : World) (t : FTerm) : Prop where
  read : FTermIn w t
  ar : Stays S w t.argsv
  tg : Stays S w t.tov
structure BkStay (S : Nat → Prop) (w : World) (b : FBlk) : Prop where
  phis : RowIn fpcells 2 (PhiOk S) w b.phv b.phis
  phs : Stays S w b.phv
  ins : RowIn ficells 5 (InsOk S) w b.inv b.ins
  inss : Stays S w b.inv
  term : TermOk S w b.term
structure BkLast (S : Nat → Prop) (w : World) (b : FBlk) : Prop where
  phis : OwnRow fpcells 2 76 0 w b.phv b.phis
  phi : ∀ p ∈ b.phis, PhiOk S w p
  ins : OwnRow ficells 5 46 0 w b.inv b.ins
  inx : ∀ x ∈ b.ins, InsOk S w x
  term : TermOk S w b.term
section
variable {S S' R : Nat → Prop} {w w' : World}
theorem PhiOk.turn {p : FPhi} (h : PhiOk S w p) (t : Turn R w w') (hR : ∀ q, R q → S q) (hS : ∀ q, S' q → S q ∨ w.heap.size ≤ q) : PhiOk S' w' p :=
  ⟨RowIn.turn h.1 t (fun q hq hr => (h.2 q hq).1 (hR q hr)) (fun _ _ _ => trivial), h.2.mono hS t.size⟩
theorem InsOk.turn {x : FIns} (h : InsOk S w x) (t : Turn R w w') (hR : ∀ q, R q → S q) (hS : ∀ q, S' q → S q ∨ w.heap.size ≤ q) : InsOk S' w' x :=
  ⟨Nums.turn h.1 t fun q hq hr => (h.2 q hq).1 (hR q hr), h.2.mono hS t.size⟩
theorem TermOk.turn {x : FTerm} (h : TermOk S w x) (t : Turn R w w') (hR : ∀ q, R q → S q) (hS : ∀ q, S' q → S q ∨ w.heap.size ≤ q) : TermOk S' w' x :=
  ⟨⟨Nums.turn h.read.1 t fun q hq hr => (h.ar q hq).1 (hR q hr), Nums.turn h.read.2 t fun q hq hr => (h.tg q hq).1 (hR q hr)⟩, h.ar.mono hS t.size, h.tg.mono hS t.size⟩
theorem BkStay.turn {b : FBlk} (h : BkStay S w b) (t : Turn R w w') (hR : ∀ q, R q → S q) (hS : ∀ q, S' q → S q ∨ w.heap.size ≤ q) : BkStay S' w' b :=
  ⟨RowIn.turn2 h.phis t (fun q hq hr => (h.phs q hq).1 (hR q hr)) (fun p _ hp => hp.turn t hR hS), h.phs.mono hS t.size,
   RowIn.turn2 h.ins t (fun q hq hr => (h.inss q hq).1 (hR q hr)) (fun x _ hx => hx.turn t hR hS), h.inss.mono hS t.size, h.term.turn t hR hS⟩
end
/-- The blocks of memory that turn. -/
def PaOwn (pb : Nat) (bv : Value) (bl : List FBlk) (q : Nat) : Prop := q = pb ∨ bv.ownBlock = some q ∨ ∃ b, bl[bl.length - 1]? = some b ∧ (b.phv.ownBlock = some q ∨ b.inv.ownBlock = some q)
/-- Where no row of a parser lies that stays: what turns, and what was there ahead of the parser. -/
def PaS (w0 : World) (pb : Nat) (bv : Value) (bl : List FBlk) (q : Nat) : Prop := PaOwn pb bv bl q ∨ q < w0.heap.size
structure PaM (T : TypeId) (w0 : World) (pb : Nat) (tl : List Value) (params pl e : Int) (bv : Value) (bl : List FBlk) (w : World) : Prop where
  box : HeapIs w pb (.int .i64 params :: bv :: .int .i64 pl :: .int .i64 e :: tl).toArray T
  row : OwnRow fbcells 6 52 0 w bv bl
  early : ∀ i b, bl[i]? = some b → i + 1 < bl.length → BkStay (PaS w0 pb bv bl) w b
  last : ∀ b, bl[bl.length - 1]? = some b → BkLast (PaS w0 pb bv bl) w b
  old : Since w0 w
  new : ∀ q, PaOwn pb bv bl q → w0.heap.size ≤ q
  kind : T ≠ 52 ∧ T ≠ 76 ∧ T ≠ 46
section
variable {T : TypeId} {w0 w w' : World} {pb : Nat} {tl : List Value} {params pl e : Int} {bv : Value} {bl : List FBlk}
theorem PaM.cell (h : PaM T w0 pb tl params pl e bv bl w) (i : Nat) : w.cell? ⟨pb, i, none⟩ = (.int .i64 params :: bv :: .int .i64 pl :: .int .i64 e :: tl)[i]? := by rw [h.box.cell, List.getElem?_toArray]
theorem BkLast.since {S : Nat → Prop} {b : FBlk} (h : BkLast S w b) (s : Since w w') (hS : ∀ q, S q → q < w.heap.size) : BkLast S w' b :=
  have hs : ∀ q, S q → S q ∨ w.heap.size ≤ q := fun q hq => .inl hq
  have t : Turn (fun _ => False) w w' := Turn.since s
  ⟨OwnRow.keep h.phis s, fun p hp => (h.phi p hp).turn t (fun _ h => h.elim) hs, OwnRow.keep h.ins s, fun x hx => (h.inx x hx).turn t (fun _ h => h.elim) hs, h.term.turn t (fun _ h => h.elim) hs⟩
theorem PaM.lt (h : PaM T w0 pb tl params pl e bv bl w) : ∀ q, PaOwn pb bv bl q → q < w.heap.size := by
  rintro q (rfl | hq | ⟨b, hb, hq | hq⟩)
  · exact h.box.lt
  · exact (World.ownsRow.lt h.row q hq).2
  · exact (World.ownsRow.lt (h.last b hb).phis q hq).2
  · exact (World.ownsRow.lt (h.last b hb).ins q hq).2
theorem PaM.ltS (h : PaM T w0 pb tl params pl e bv bl w) : ∀ q, PaS w0 pb bv bl q → q < w.heap.size := by
  rintro q (hq | hq)
  · exact h.lt q hq
  · exact Nat.lt_of_lt_of_le hq h.old.size
theorem PaM.keep (h : PaM T w0 pb tl params pl e bv bl w) (s : Since w w') : PaM T w0 pb tl params pl e bv bl w' :=
  ⟨h.box.keep s, OwnRow.keep h.row s, fun i b hb hi => (h.early i b hb hi).turn (R := fun _ => False) (Turn.since s) (fun _ h => h.elim) (fun q hq => .inl hq), fun b hb => (h.last b hb).since s h.ltS, h.old.trans s, h.new, h.kind⟩
/-- Of the box a cell turns that is not the row of blocks. -/
theorem PaM.put (h : PaM T w0 pb tl params pl e bv bl w) (i : Nat) (x : Value) {params' pl' e' : Int} {tl' : List Value} (hx : (.int .i64 params :: bv :: .int .i64 pl :: .int .i64 e :: tl).set i x = .int .i64 params' :: bv :: .int .i64 pl' :: .int .i64 e' :: tl') : PaM T w0 pb tl' params' pl' e' bv bl (w.setCell ⟨pb, i, none⟩ x) := by
  have t : Turn (fun q => q = pb) w (w.setCell ⟨pb, i, none⟩ x) := (Turn.refl (fun q => q = pb) w).setCell (p := ⟨pb, i, none⟩) rfl x
  have hR : ∀ q, q = pb → PaS w0 pb bv bl q := fun q hq => .inl (.inl hq)
  have hS : ∀ q, PaS w0 pb bv bl q → PaS w0 pb bv bl q ∨ w.heap.size ≤ q := fun q hq => .inl hq
  have hb := h.box.set i x
  rw [List.setIfInBounds_toArray, hx] at hb
  refine ⟨hb, own_turn h.row t fun q hq hr => ?_, fun j b hj hi => (h.early j b hj hi).turn t hR hS, fun b hl => ?_, t.toSince h.old fun q hq hr => ?_, h.new, h.kind⟩
  · subst hr; exact own_not h.row h.box (Ne.symm h.kind.1) hq
  · have hl2 := h.last b hl
    exact ⟨own_turn hl2.phis t fun q hq hr => by subst hr; exact own_not hl2.phis h.box (Ne.symm h.kind.2.1) hq, fun p hp => (hl2.phi p hp).turn t hR hS, own_turn hl2.ins t fun q hq hr => by subst hr; exact own_not hl2.ins h.box (Ne.symm h.kind.2.2) hq, fun y hy => (hl2.inx y hy).turn t hR hS, hl2.term.turn t hR hS⟩
  · have := h.new q (.inl hr); omega
/-- Another box, of the same blocks. -/
theorem PaM.reBox (h : PaM T w0 pb tl params pl e bv bl w) (t : Turn (fun q => q = pb) w w') {params' pl' e' : Int} {tl' : List Value} (hb : HeapIs w' pb (.int .i64 params' :: bv :: .int .i64 pl' :: .int .i64 e' :: tl').toArray T) : PaM T w0 pb tl' params' pl' e' bv bl w' := by
  have hR : ∀ q, q = pb → PaS w0 pb bv bl q := fun q hq => .inl (.inl hq)
  have hS : ∀ q, PaS w0 pb bv bl q → PaS w0 pb bv bl q ∨ w.heap.size ≤ q := fun q hq => .inl hq
  refine ⟨hb, own_turn h.row t fun q hq hr => ?_, fun j b hj hi => (h.early j b hj hi).turn t hR hS, fun b hl => ?_, t.toSince h.old fun q hq hr => ?_, h.new, h.kind⟩
  · subst hr; exact own_not h.row h.box (Ne.symm h.kind.1) hq
  · have hl2 := h.last b hl
    exact ⟨own_turn hl2.phis t fun q hq hr => by subst hr; exact own_not hl2.phis h.box (Ne.symm h.kind.2.1) hq, fun p hp => (hl2.phi p hp).turn t hR hS, own_turn hl2.ins t fun q hq hr => by subst hr; exact own_not hl2.ins h.box (Ne.symm h.kind.2.2) hq, fun y hy => (hl2.inx y hy).turn t hR hS, hl2.term.turn t hR hS⟩
  · have := h.new q (.inl hr); omega
theorem PaM.updG (h : PaM T w0 pb tl params pl e bv bl w) {b b' : FBlk} (hb : bl[bl.length - 1]? = some b) {bb cap : Nat} (hbv : bv = .slice (some ⟨bb, 0, none⟩) bl.length cap) {w1 w2 : World} (t : Turn (fun q => b.phv.ownBlock = some q ∨ b.inv.ownBlock = some q) w w1) (t2 : Turn (fun q => q = bb) w1 w2) (hset : OwnRow fbcells 6 52 0 w1 bv bl → OwnRow fbcells 6 52 0 w2 bv (bl.set (bl.length - 1) b'))
    (hp : OwnRow fpcells 2 76 0 w1 b'.phv b'.phis) (hi : OwnRow ficells 5 46 0 w1 b'.inv b'.ins) (np : NewOr w b.phv b'.phv) (ni : NewOr w b.inv b'.inv) (hphi : ∀ p ∈ b'.phis, PhiOk (PaS w0 pb bv bl) w p) (hins : ∀ x ∈ b'.ins, InsOk (PaS w0 pb bv bl) w x) (hterm : TermOk (PaS w0 pb bv bl) w b'.term) :
    PaM T w0 pb tl params pl e bv (bl.set (bl.length - 1) b') w2 := by
  subst hbv
  have hn : 0 < bl.length := by
    rcases Nat.eq_zero_or_pos bl.length with h0 | h0
    · rw [List.length_eq_zero_iff.1 h0] at hb; simp at hb
    · exact h0
  have hlast := h.last b hb
  have hb' : (bl.set (bl.length - 1) b')[bl.length - 1]? = some b' := by rw [List.getElem?_set_self (by omega)]
  have hlen : (bl.set (bl.length - 1) b').length = bl.length := List.length_set ..
  obtain ⟨cur, hbb⟩ := own_heap h.row (q := bb) rfl
  have hRS : ∀ q, (b.phv.ownBlock = some q ∨ b.inv.ownBlock = some q) → PaOwn pb (.slice (some ⟨bb, 0, none⟩) bl.length cap) bl q := fun q hq => .inr (.inr ⟨b, hb, hq⟩)
  have hrow1 : OwnRow fbcells 6 52 0 w1 (.slice (some ⟨bb, 0, none⟩) bl.length cap) bl := own_turn h.row t fun q hq hr => by
    rcases hr with hr | hr
    · exact own_ne h.row hlast.phis (by decide) q hq hr
    · exact own_ne h.row hlast.ins (by decide) q hq hr
  obtain ⟨cur1, hbb1⟩ := own_heap hrow1 (q := bb) rfl
  have t3 : Turn (fun q => (b.phv.ownBlock = some q ∨ b.inv.ownBlock = some q) ∨ q = bb) w w2 := (t.mono fun _ _ h => .inl h).trans (t2.mono fun _ _ h => .inr h)
  have hR3 : ∀ q, ((b.phv.ownBlock = some q ∨ b.inv.ownBlock = some q) ∨ q = bb) → PaOwn pb (.slice (some ⟨bb, 0, none⟩) bl.length cap) bl q := fun q hq => by
    rcases hq with hq | rfl
    · exact hRS q hq
    · exact .inr (.inl rfl)
  have hS : ∀ q, PaOwn pb (.slice (some ⟨bb, 0, none⟩) bl.length cap) (bl.set (bl.length - 1) b') q → PaOwn pb (.slice (some ⟨bb, 0, none⟩) bl.length cap) bl q ∨ w.heap.size ≤ q := by
    rintro q (rfl | hq | ⟨c, hcc, hq⟩)
    · exact .inl (.inl rfl)
    · exact .inl (.inr (.inl hq))
    · rw [hlen, hb'] at hcc
      obtain rfl := Option.some.inj hcc
      rcases hq with hq | hq
      · rcases np q hq with h1 | h1
        · exact .inl (hRS q (.inl h1))
        · exact .inr h1
      · rcases ni q hq with h1 | h1
        · exact .inl (hRS q (.inr h1))
        · exact .inr h1
  have hS2 : ∀ q, PaS w0 pb (.slice (some ⟨bb, 0, none⟩) bl.length cap) (bl.set (bl.length - 1) b') q → PaS w0 pb (.slice (some ⟨bb, 0, none⟩) bl.length cap) bl q ∨ w.heap.size ≤ q := fun q hq => by
    rcases hq with hq | hq
    · rcases hS q hq with h1 | h1
      · exact .inl (.inl h1)
      · exact .inr h1
    · exact .inl (.inr hq)
  have hR4 : ∀ q, ((b.phv.ownBlock = some q ∨ b.inv.ownBlock = some q) ∨ q = bb) → PaS w0 pb (.slice (some ⟨bb, 0, none⟩) bl.length cap) bl q := fun q hq => .inl (hR3 q hq)
  have hpb : ∀ q, ((b.phv.ownBlock = some q ∨ b.inv.ownBlock = some q) ∨ q = bb) → q ≠ pb := by
    rintro q ((hq | hq) | rfl) rfl
    · exact own_not hlast.phis h.box (Ne.symm h.kind.2.1) hq
    · exact own_not hlast.ins h.box (Ne.symm h.kind.2.2) hq
    · exact own_not h.row h.box (Ne.symm h.kind.1) rfl
  refine ⟨h.box.turn t3 fun hq => hpb pb hq rfl, ?_, fun i c hcc hi => ?_, fun c hcc => ?_, t3.toSince h.old fun q hq hr => ?_, fun q hq => ?_, h.kind⟩
  · exact hset hrow1
  · rw [hlen] at hi
    rw [List.getElem?_set_ne (by omega)] at hcc
    exact (h.early i c hcc hi).turn t3 hR4 hS2
  · rw [hlen, hb'] at hcc
    obtain rfl := Option.some.inj hcc
    exact ⟨own_turn hp t2 fun q hq hr => by subst hr; exact own_not hp hbb1 (by decide) hq, fun p hpp => (hphi p hpp).turn t3 hR4 hS2, own_turn hi t2 fun q hq hr => by subst hr; exact own_not hi hbb1 (by decide) hq, fun x hx => (hins x hx).turn t3 hR4 hS2, hterm.turn t3 hR4 hS2⟩
  · have := h.new q (hR3 q hr); omega
  · rcases hS q hq with h1 | h1
    · exact h.new q h1
    · have := h.old.size; omega
theorem PaM.upd (h : PaM T w0 pb tl params pl e bv bl w) {b b' : FBlk} (hb : bl[bl.length - 1]? = some b) {bb cap : Nat} (hbv : bv = .slice (some ⟨bb, 0, none⟩) bl.length cap) {w1 : World} (t : Turn (fun q => b.phv.ownBlock = some q ∨ b.inv.ownBlock = some q) w w1) (u : Nat) (hu : u < 6) (v : Value) (hc : fbcells b' = (fbcells b).set u v)
    (hp : OwnRow fpcells 2 76 0 w1 b'.phv b'.phis) (hi : OwnRow ficells 5 46 0 w1 b'.inv b'.ins) (np : NewOr w b.phv b'.phv) (ni : NewOr w b.inv b'.inv) (hphi : ∀ p ∈ b'.phis, PhiOk (PaS w0 pb bv bl) w p) (hins : ∀ x ∈ b'.ins, InsOk (PaS w0 pb bv bl) w x) (hterm : TermOk (PaS w0 pb bv bl) w b'.term) :
    PaM T w0 pb tl params pl e bv (bl.set (bl.length - 1) b') (w1.setCell ⟨bb, (bl.length - 1) * 6 + u, none⟩ v) := by
  subst hbv
  refine h.updG hb rfl t ((Turn.refl (fun q => q = bb) w1).setCell (p := ⟨bb, (bl.length - 1) * 6 + u, none⟩) rfl v) (fun hrow1 => ?_) hp hi np ni hphi hins hterm
  have h9 := own_setCell hrow1 ((bl.length - 1) * 6 + u) v
  rw [flat_set fbcells 6 fbcells_len bl (bl.length - 1) u b b' v hb hu hc] at h9
  unfold OwnRow
  rw [List.length_set]
  exact h9
theorem BkLast.stay {S S' R : Nat → Prop} {b : FBlk} (h : BkLast S w b) (t : Turn R w w') (hR : ∀ q, R q → S q) (hS : ∀ q, S' q → S q ∨ w.heap.size ≤ q) (h1 : ∀ q, b.phv.ownBlock = some q → ¬ R q ∧ ¬ S' q) (h2 : ∀ q, b.inv.ownBlock = some q → ¬ R q ∧ ¬ S' q) : BkStay S' w' b := by
  have k1 := own_turn h.phis t fun q hq => (h1 q hq).1
  have k2 := own_turn h.ins t fun q hq => (h2 q hq).1
  exact ⟨row_of_own fpcells_len k1 fun p hp => (h.phi p hp).turn t hR hS, fun q hq => ⟨(h1 q hq).2, (World.ownsRow.lt k1 q hq).2⟩, row_of_own ficells_len k2 fun x hx => (h.inx x hx).turn t hR hS, fun q hq => ⟨(h2 q hq).2, (World.ownsRow.lt k2 q hq).2⟩, h.term.turn t hR hS⟩
def fbZero : FBlk := ⟨[], .slice none 0 0, [], .slice none 0 0, ⟨0, [], .slice none 0 0, [], .slice none 0 0, 0⟩⟩
/-- A new block behind the others: the row of blocks has grown, and its value goes into the box. -/
theorem PaM.addBlock (h : PaM T w0 pb tl params pl e bv bl w) {bv' : Value} {w1 : World} (hown : OwnRow fbcells 6 52 0 w1 bv' (bl ++ [fbZero])) (t : Turn (fun q => bv.ownBlock = some q) w w1) (hn : NewOr w bv bv') :
    PaM T w0 pb tl params pl e bv' (bl ++ [fbZero]) (w1.setCell ⟨pb, 1, none⟩ bv') := by
  have hbox1 := h.box.turn t fun hq => own_not h.row h.box (Ne.symm h.kind.1) hq
  have t2 : Turn (fun q => q = pb) w1 (w1.setCell ⟨pb, 1, none⟩ bv') := (Turn.refl (fun q => q = pb) w1).setCell (p := ⟨pb, 1, none⟩) rfl bv'
  have t3 : Turn (fun q => bv.ownBlock = some q ∨ q = pb) w (w1.setCell ⟨pb, 1, none⟩ bv') := (t.mono fun _ _ h => .inl h).trans (t2.mono fun _ _ h => .inr h)
  have hR3 : ∀ q, (bv.ownBlock = some q ∨ q = pb) → PaOwn pb bv bl q := fun q hq => by
    rcases hq with hq | rfl
    · exact .inr (.inl hq)
    · exact .inl rfl
  have hl : (bl ++ [fbZero]).length = bl.length + 1 := by simp
  have hlz : (bl ++ [fbZero])[(bl ++ [fbZero]).length - 1]? = some fbZero := by simp
  have hS : ∀ q, PaOwn pb bv' (bl ++ [fbZero]) q → PaOwn pb bv bl q ∨ w.heap.size ≤ q := by
    rintro q (rfl | hq | ⟨c, hcc, hq⟩)
    · exact .inl (.inl rfl)
    · rcases hn q hq with h1 | h1
      · exact .inl (.inr (.inl h1))
      · exact .inr h1
    · rw [hlz] at hcc
      obtain rfl := Option.some.inj hcc
      rcases hq with hq | hq <;> cases hq
  have hapart : ∀ (f : Value) (U : TypeId) (sz n : Nat) (xs : List Value), w.ownsRow 0 U sz f n xs → U ≠ 52 → U ≠ T → ∀ q, f.ownBlock = some q → ¬ (bv.ownBlock = some q ∨ q = pb) ∧ ¬ PaOwn pb bv' (bl ++ [fbZero]) q := by
    intro f U sz n xs hf hU1 hU2 q hq
    have a1 : ¬ (bv.ownBlock = some q ∨ q = pb) := by
      rintro (hr | rfl)
      · exact own_ne hf h.row hU1 q hq hr
      · exact own_not hf h.box hU2 hq
    refine ⟨a1, ?_⟩
    rintro (rfl | hr | ⟨c, hcc, hr⟩)
    · exact a1 (.inr rfl)
    · rcases hn q hr with h1 | h1
      · exact a1 (.inl h1)
      · have := (World.ownsRow.lt hf q hq).2; omega
    · rw [hlz] at hcc
      obtain rfl := Option.some.inj hcc
      rcases hr with hr | hr <;> cases hr
  have hS2 : ∀ q, PaS w0 pb bv' (bl ++ [fbZero]) q → PaS w0 pb bv bl q ∨ w.heap.size ≤ q := fun q hq => by
    rcases hq with hq | hq
    · rcases hS q hq with h1 | h1
      · exact .inl (.inl h1)
      · exact .inr h1
    · exact .inl (.inr hq)
  have hR4 : ∀ q, (bv.ownBlock = some q ∨ q = pb) → PaS w0 pb bv bl q := fun q hq => .inl (hR3 q hq)
  have hap2 : ∀ {q : Nat} {x : Prop}, x ∧ ¬ PaOwn pb bv' (bl ++ [fbZero]) q → PaOwn pb bv bl q → x ∧ ¬ PaS w0 pb bv' (bl ++ [fbZero]) q := fun h1 h2 => ⟨h1.1, fun h3 => by
    rcases h3 with h3 | h3
    · exact h1.2 h3
    · have := h.new _ h2; omega⟩
  have hbx := hbox1.set 1 bv'
  rw [List.setIfInBounds_toArray] at hbx
  refine ⟨hbx, own_turn hown t2 fun q hq hr => by subst hr; exact own_not hown hbox1 (Ne.symm h.kind.1) hq, fun i c hcc hi => ?_, fun c hcc => ?_, t3.toSince h.old fun q hq hr => ?_, fun q hq => ?_, h.kind⟩
  · rw [hl] at hi
    rw [List.getElem?_append_left (by omega)] at hcc
    by_cases hi2 : i + 1 < bl.length
    · exact (h.early i c hcc hi2).turn t3 hR4 hS2
    · obtain rfl : i = bl.length - 1 := by omega
      have hc := h.last c hcc
      exact hc.stay t3 hR4 hS2 (fun q hq => hap2 (hapart _ _ _ _ _ hc.phis (by decide) (Ne.symm h.kind.2.1) q hq) (.inr (.inr ⟨c, hcc, .inl hq⟩))) (fun q hq => hap2 (hapart _ _ _ _ _ hc.ins (by decide) (Ne.symm h.kind.2.2) q hq) (.inr (.inr ⟨c, hcc, .inr hq⟩)))
  · rw [hlz] at hcc
    obtain rfl := Option.some.inj hcc
    exact ⟨OwnRow.nil _ _ _ _ _, fun p hp => (by cases hp), OwnRow.nil _ _ _ _ _, fun x hx => (by cases hx), ⟨⟨.nil _ _, .nil _ _⟩, Stays.nil _ _, Stays.nil _ _⟩⟩
  · have := h.new q (hR3 q hr); omega
  · rcases hS q hq with h1 | h1
    · exact h.new q h1
    · have := h.old.size; omega
end
end Go.Proofs.YtmhojfpidedjeaaDoor
namespace Go.Proofs.YtmhojfpidedjeaaDoor
open Go.RowKit
set_option linter.unusedVariables false
/-- The number of the first eleven digits, or fewer. -/
def signed (neg : Bool) (x : Nat) : Int := if neg then -(x : Int) else x
end Go.Proofs.YtmhojfpidedjeaaDoor
namespace Go.Proofs.YtmhojfpidedjeaaDoor
open Go.RowKit
set_option linter.unusedVariables false
structure PhiR (p : FPhi) : Prop where
  dst : In64 p.dst
  ins : ∀ y ∈ p.ins, In64 y.1 ∧ In64 y.2
structure TermR (t : FTerm) : Prop where
  kd : In64 t.kind
  ar : ∀ y ∈ t.args, In64 y
  tg : ∀ y ∈ t.to, In64 y
  im : In32W t.imm
structure BlkR (b : FBlk) : Prop where
  phis : ∀ p ∈ b.phis, PhiR p
  ins : ∀ i ∈ b.ins, InsR i
  term : TermR b.term
structure FnR (f : FnV) : Prop where
  params : In64 f.params
  blocks : ∀ b ∈ f.blocks, BlkR b
/-- A new row that stays. -/
def NewRow (cs : Array Value) (T : TypeId) (n : Nat) (v : Value) (w : World) : Prop := ∃ g, v = .slice (some ⟨g, 0, none⟩) n n ∧ HeapIs w g cs T
theorem NewRow.stable (cs : Array Value) (T : TypeId) (n : Nat) : Stable (NewRow cs T n) := fun _ _ _ h hs => by
  obtain ⟨g, h1, h2⟩ := h
  exact ⟨g, h1, h2.keep hs⟩
/-- append(own row, another row...). -/
theorem wpList_append_row {α : Type} {P : Program} {w0 w : World} {ops : Array Oper} {rest : List Oper} {o : Oper} {a : Act} {Q : Exit → Act → World → Prop} (f : α → List Value) (hf1 : ∀ x, (f x).length = 1) (hone : ∀ x, ∀ u ∈ f x, u.oneCell' = true) (hgd : o.guard = none) (s x : Operand) (t : TypeId)
    (ho : o.op = .call { callee := .builtin .append, args := #[s, x], argTypes := #[t, t] })
    (e : TypeId) (z : Value) (bytes : Nat) (ht : P.underlying t = some (.slice e)) (hinfo : (P.info? e).map (fun i => (i.zero, i.size, i.bytes)) = some (some z, 1, bytes)) (hz : z.cells.size = 1) (hby : bytes ≤ 16)
    (v xv : Value) (l1 l2 : List α) (hs : a.eval s = v) (hx : a.eval x = xv) (hown : OwnRow f 1 e w0.heap.size w v l1) {p : World → α → Prop} (hl2 : RowIn f 1 p w xv l2)
    (hlen : l1.length + l2.length ≤ 1000000) (hsince : Since w0 w)
    (h : ∀ v' w', OwnRow f 1 e w0.heap.size w' v' (l1 ++ l2) → Since w0 w' → wpList P ops Q rest (a.put o.dst v') w') : wpList P ops Q (o :: rest) a w := by
  obtain ⟨i, hi, hz0, hz1, hz2⟩ := info_parts hinfo
  have hgr : ∀ (w' : World), w.grownBy w' v.ownBlock → Since w0 w' := by
    intro w' hgrow
    refine Below.grown hsince hgrow hsince.size ?_
    intro r hr
    obtain ⟨_, ⟨hv, _⟩ | ⟨g, cap, cur, hv, hg, _⟩⟩ := hown
    · subst hv; cases hr
    · subst hv; cases hr; exact hg
  unfold OwnRow at hown
  rcases hl2 with ⟨ad, hv, rfl⟩ | ⟨b, off, cap, hv, hcap, _, hb, hcell⟩
  · subst hv
    cases ad with
    | none =>
      refine wpList_append_own_none hgd s x t ho w0.heap.size e i 1 ht hi v _ _ hs hown hx (h v w ?_ hsince)
      unfold OwnRow; simpa using hown
    | some ad =>
      refine wpList_append_own _ hgd s x t ho w0.heap.size e i z 1 bytes ht hi hz0 hz1 hz2 hz (by decide) v _ _ hs hown ad 0 0 [] hx rfl (fun j u hu => by cases hu) (fun u hu => by cases hu) (by unfold maxLen; simp at hlen; omega) ?_ hsince.size ?_
      · have : (l1.length + 0) * bytes ≤ 1000000 * 16 := Nat.mul_le_mul (by simpa using hlen) hby
        omega
      · intro v' w' hown' hgrow _
        exact h v' w' (by unfold OwnRow; simpa using hown') (hgr w' hgrow)
  · subst hv
    refine wpList_append_own _ hgd s x t ho w0.heap.size e i z 1 bytes ht hi hz0 hz1 hz2 hz (by decide) v _ _ hs hown ⟨b, off, none⟩ l2.length cap (l2.flatMap f) hx (by rw [flat_len f 1 hf1]) ?_ ?_ (by unfold maxLen; omega) ?_ hsince.size ?_
    · intro j u hu
      have hj : j < l2.length := by have := (List.getElem?_eq_some_iff.1 hu).1; rw [flat_len f 1 hf1] at this; omega
      obtain ⟨y, hy⟩ : ∃ y, l2[j]? = some y := ⟨_, List.getElem?_eq_getElem hj⟩
      have h2 := (hcell j y hy).1 0 (by decide)
      rw [Nat.mul_one, Nat.add_zero] at h2
      have h3 := flat_at f 1 hf1 l2 j 0 y hy (by decide)
      rw [Nat.mul_one, Nat.add_zero, hu] at h3
      rw [← h3] at h2
      unfold Addr.add
      split
      · rename_i h0; subst h0; simpa using h2
      · exact h2
    · intro u hu
      obtain ⟨y, _, hy⟩ := List.mem_flatMap.1 hu
      exact hone y u hy
    · have : (l1.length + l2.length) * bytes ≤ 1000000 * 16 := Nat.mul_le_mul hlen hby
      omega
    · intro v' w' hown' hgrow _
      exact h v' w' (by unfold OwnRow; simpa using hown') (hgr w' hgrow)
theorem itc_len (x : It) : (itc x).length = 1 := by cases x <;> rfl
theorem itc_one (x : It) : ∀ u ∈ itc x, u.oneCell' = true := by cases x <;> (intro u hu; simp [itc] at hu; subst hu; rfl)
/-- A row of the call's own, read whatever is written. -/
theorem its_own {B b base : Nat} {w : World} {v : Value} {its : List It} (h : OwnRow itc 1 20 base w v its) (hlt : ∀ q, v.ownBlock = some q → q ≠ b) (hw : ∀ x ∈ its, ∀ w', Kept B b w w' → ItIn w' x) :
    ∀ w', Kept B b w w' → ItsIn w' v its := by
  intro w' hk
  obtain ⟨h0, ⟨rfl, hn⟩ | ⟨g, cap, cur, hv, hg, hb, hc, hm, hs, htake⟩⟩ := h
  · exact .inl ⟨none, rfl, List.length_eq_zero_iff.1 hn⟩
  · subst hv
    have hb2 := hk.heap hb (hlt g rfl) (by decide)
    refine .inr ⟨g, 0, cap, rfl, hc, hm, (Array.getElem?_eq_some_iff.1 hb2).1, fun j x hx => ⟨fun t ht => ?_, hw x (List.mem_of_getElem? hx) w' hk⟩⟩
    obtain rfl : t = 0 := by omega
    have h3 := flat_at itc 1 itc_len its j 0 x hx (by decide)
    have hj : j < its.length := (List.getElem?_eq_some_iff.1 hx).1
    rw [← h3, ← htake]
    simp only [World.cell?, hb2, Nat.mul_one, Nat.add_zero, Nat.zero_add]
    rw [List.getElem?_take_of_lt (by omega)]
    simp
theorem blks_next {l : List DBlk} {k : Nat} {x : DBlk} (h : l[k]? = some x) : blksS l (k + 1) = blksS l k ++ blkS k x := by
  unfold blksS
  rw [List.range_succ, List.flatMap_append]
  simp [blkAt, h]
theorem blks_le (l : List DBlk) : ∀ (n k : Nat), k ≤ n → (blksS l k).length ≤ (blksS l n).length
  | 0, k, h => by rw [show k = 0 from by omega]; exact Nat.le_refl _
  | n + 1, k, h => by
    by_cases hk : k = n + 1
    · rw [hk]; exact Nat.le_refl _
    · have h1 := blks_le l n k (by omega)
      have h2 : blksS l (n + 1) = blksS l n ++ blkAt l n := by unfold blksS; rw [List.range_succ, List.flatMap_append]; simp
      rw [h2, List.length_append]; omega
theorem blk_len (k : Nat) (x : DBlk) : (blkS k x).length = 6 + (dS k).length + ((x.phis.flatMap fun p => phiS p ++ [10]).length + ((x.ins.flatMap fun i => insS i ++ [10]).length + ((termS x.term).length + 1))) := by
  unfold blkS bodyS
  simp only [List.length_append, List.length_cons, List.length_nil]; omega
theorem bu_new (w : World) (o : Obj) : Bu w.heap.size (w.heap.size + 1) [] ((w.alloc o).alloc (.cells #[.pointer none, .slice none 0 0] 71)) := by
  refine .inl ⟨by omega, .slice none 0 0, ?_, ⟨rfl, .inl ⟨rfl, rfl⟩⟩, by simp [Value.ownBlock]⟩
  have h := heap_last (w.alloc o) (.cells #[.pointer none, .slice none 0 0] 71)
  rw [show (w.alloc o).heap.size = w.heap.size + 1 from by simp] at h
  exact h
theorem own_new {α : Type} (f : α → List Value) (sz : Nat) (e : TypeId) (w : World) (l : List α) (n : Nat) (hf : ∀ x, (f x).length = sz) (hn : n = l.length) (hm : n ≤ 1000) (cs : Array Value) (hcs : cs = (l.flatMap f).toArray) : OwnRow f sz e w.heap.size (w.alloc (.cells cs e)) (.slice (some ⟨w.heap.size, 0, none⟩) n n) l := by
  subst hn; subst hcs
  have h := flat_len f sz hf l
  refine ⟨h, .inr ⟨w.heap.size, l.length, _, rfl, Nat.le_refl _, heap_last _ _, Nat.le_refl _, by unfold maxLen; omega, by rw [List.size_toArray]; exact h, ?_⟩⟩
  rw [← h]
  exact List.take_length
end Go.Proofs.YtmhojfpidedjeaaDoor
namespace Go.Proofs.YtmhojfpidedjeaaDoor
open Go.RowKit
set_option linter.unusedVariables false
def stc (b : ByteArray) : List Value := [.string b]
theorem stc_len (b : ByteArray) : (stc b).length = 1 := rfl
/-- Texts in a row that stays. -/
abbrev StrsIn (w : World) (v : Value) (l : List ByteArray) : Prop := RowIn stc 1 (fun _ b => b.size ≤ 1000000) w v l
theorem StrsIn.keep {w w' : World} {v : Value} {l : List ByteArray} (h : StrsIn w v l) (s : Since w w') : StrsIn w' v l := RowIn.keep (fun _ _ _ h _ => h) h s
theorem StrsIn.at {w : World} {a : Option Addr} {n c : Nat} {l : List ByteArray} (h : StrsIn w (.slice a n c) l) {k : Nat} (hk : k < l.length) : ∃ b off x, a = some ⟨b, off, none⟩ ∧ b < w.heap.size ∧ l[k]? = some x ∧ w.cell? ⟨b, off + k, none⟩ = some (.string x) ∧ x.size ≤ 1000000 := by
  obtain ⟨b, off, x, h1, h2, h3, h4, h5⟩ := RowIn.at h hk
  have := h4 0 (by decide)
  rw [Nat.mul_one, Nat.add_zero] at this
  exact ⟨b, off, x, h1, h2, h3, this, h5⟩
def failE (e : Int) (b : Bool) (n : Int) : Int := if b = true ∧ e = 0 then n else e
section
variable {w0 : World} {pb : Nat} {params pl e : Int} {bv : Value} {bl : List FBlk}
end
def numsE (e : Int) (l : List ByteArray) : Int := if e = 0 ∧ areNums l = false then 71 else e
theorem numsE_next (e : Int) {l : List ByteArray} {k : Nat} {x : ByteArray} (h : l[k]? = some x) : failE (numsE e (l.take k)) (!isNum x) 71 = numsE e (l.take (k + 1)) := by
  have ht : l.take (k + 1) = l.take k ++ [x] := by rw [List.take_add_one, h]; rfl
  unfold numsE failE areNums
  rw [ht, List.all_append]
  cases h1 : (l.take k).all isNum <;> cases h2 : isNum x <;> by_cases he : e = 0 <;> simp [h2, he]
theorem numsE_nil (e : Int) : numsE e [] = e := by unfold numsE areNums; simp
theorem numsW_next {l : List ByteArray} {k : Nat} {x : ByteArray} (h : l[k]? = some x) : numsW (l.take (k + 1)) = numsW (l.take k) ++ [numW x] := by
  unfold numsW; rw [List.take_add_one, h]; simp
theorem numW_32 (x : ByteArray) : In32W (numW x) := by
  unfold numW
  cases h : wparse x.data.toList with
  | none => exact ⟨by decide, by decide⟩
  | some v => exact wparse_32 h
theorem Tryd.infoInt : (Tryd.prog.info? 3).map (fun i => (i.zero, i.size, i.bytes)) = some (some (.int .i64 0), 1, 8) := by kernel_rfl
section
variable {w0 : World} {pb : Nat} {params pl e : Int} {bv : Value} {bl : List FBlk}
end
end Go.Proofs.YtmhojfpidedjeaaDoor
namespace Go.Proofs.YtmhojfpidedjeaaDoor
open Go.RowKit
set_option linter.unusedVariables false
abbrev TPa (w0 : World) (pb : Nat) (tv : Value) (params pl e : Int) (bv : Value) (bl : List FBlk) (w : World) : Prop := PaM 57 w0 pb [tv] params pl e bv bl w
def MustQ (w0 : World) (pb : Nat) (tv : Value) (params pl e : Int) (bv : Value) (bl : List FBlk) (w : World) (x : Ending) (w' : World) : Prop := x = .returned (.bool (e == 0)) ∧ TPa w0 pb tv params pl e bv bl w' ∧ Turn (fun q => q = pb) w w'
section
variable {w0 : World} {pb : Nat} {tv : Value} {params pl e : Int} {bv : Value} {bl : List FBlk}
set_option maxHeartbeats 1000000 in
set_option maxRecDepth 100000 in
theorem must_any (w : World) (h : TPa w0 pb tv params pl e bv bl w) (b : Bool) (n : Int) (hn : n ≠ 0) : Calls Tryd.prog 35 #[.pointer (some ⟨pb, 0, none⟩), .bool b, .int .i64 n] w (MustQ w0 pb tv params pl (failE e (!b) n) bv bl w) := by
  have c3 : w.cell? ⟨pb, 3, none⟩ = some (.int .i64 e) := h.cell 3
  have hl := h.box.lt
  have hz := h.box.frozen 3
  have H := Lib.hid h
  clear h
  cases b with
  | true =>
    have he : failE e (!true) n = e := by unfold failE; rw [if_neg (by simp)]
    rw [he]
    clear he
    go_enter Tryd.func35, Tryd.ntmps35
    go_wp2
    go_ret
    exact ⟨rfl, H.out, Turn.refl _ _⟩
  | false =>
    by_cases he : e = 0
    · subst he
      have e1 : failE 0 (!false) n = n := by unfold failE; rw [if_pos ⟨rfl, rfl⟩]
      rw [e1]
      have HP := Lib.hid (H.out.put 3 (.int .i64 n) (params' := params) (pl' := pl) (e' := n) (tl' := [tv]) rfl)
      have hn2 : (n == 0) = false := by simpa using hn
      have h9 := HP.out.cell 3
      have h9 : (w.setCell ⟨pb, 3, none⟩ (.int .i64 n)).cell? ⟨pb, 3, none⟩ = some (.int .i64 n) := h9
      clear e1 hn
      go_enter Tryd.func35, Tryd.ntmps35
      go_wp2
      go_ret
      exact ⟨by rw [hn2]; rfl, HP.out, (Turn.refl (fun q => q = pb) w).setCell (p := ⟨pb, 3, none⟩) rfl _⟩
    · have h1 : (e == 0) = false := by simpa using he
      have e1 : failE e (!false) n = e := by unfold failE; rw [if_neg (fun h => he h.2)]
      rw [e1]
      clear he e1
      go_enter Tryd.func35, Tryd.ntmps35
      go_wp2
      go_ret
      exact ⟨by rw [h1]; rfl, H.out, Turn.refl _ _⟩
end
def NumsTQ (w0 : World) (pb : Nat) (tv : Value) (params pl e : Int) (bv : Value) (bl : List FBlk) (l : List ByteArray) (w : World) (x : Ending) (w' : World) : Prop :=
  ∃ rv, x = .returned rv ∧ w'.ownsRow w.heap.size 3 1 rv (numsW l).length ((numsW l).map (Value.int .i64)) ∧ TPa w0 pb tv params pl (numsE e l) bv bl w' ∧ Turn (fun q => q = pb) w w'
section
variable {w0 : World} {pb : Nat} {tv : Value} {params pl e : Int} {bv : Value} {bl : List FBlk}
set_option maxHeartbeats 2000000 in
set_option maxRecDepth 100000 in
theorem nums_any (w : World) (h : TPa w0 pb tv params pl e bv bl w) (hL : LaidT w0) (v : Value) (l : List ByteArray) (hl : StrsIn w v l) (hs : Stays (fun q => q = pb) w v) (hn : l.length ≤ 500000) : Calls Tryd.prog 36 #[.pointer (some ⟨pb, 0, none⟩), v] w (NumsTQ w0 pb tv params pl e bv bl l w) := by
  obtain ⟨a, c, e1, _⟩ := RowIn.shape hl
  obtain rfl : v = .slice a l.length c := e1
  have H := Lib.hid h
  have HL := Lib.hid (fun w' (t : Turn (fun q => q = pb) w w') => (RowIn.turn hl t (fun q hq hr => (hs q hq).1 hr) (fun _ _ h => h) : StrsIn w' _ l))
  have HLT := Lib.hid hL
  clear h hl hs hL
  go_enter Tryd.func36, Tryd.ntmps36
  go_wp2_with fail
  go_loopw [5, 13] (fun oo io wr => ∃ (k : Nat) (out : Value), out = oo ∧ io = .int .i64 k ∧ k ≤ l.length ∧ wr.ownsRow w.heap.size 3 1 out (numsW (l.take k)).length ((numsW (l.take k)).map (Value.int .i64)) ∧ TPa w0 pb tv params pl (numsE e (l.take k)) bv bl wr ∧ Turn (fun q => q = pb) w wr) (fun _ io _ => l.length - (intOf io).toNat)
  case atStart =>
    refine ⟨0, _, rfl, rfl, Nat.zero_le _, ?_, ?_, (Turn.refl _ _).alloc _⟩
    · exact own_new (fun x : Int => [Value.int .i64 x]) 1 3 w [] 0 (fun _ => rfl) rfl (by decide) _ rfl
    · rw [List.take_zero, numsE_nil]; exact H.out.keep ((Since.refl _).alloc _)
  case round =>
    obtain ⟨k, out, rfl, rfl, hk, ho, hp, ht⟩ := hrel
    by_cases hlt : k < l.length
    · obtain ⟨b, off, x, rfl, hb, hx, hc, hxs⟩ := StrsIn.at (HL.out wr ht) hlt
      obtain ⟨nv, hnv⟩ : ∃ n, numW x = n := ⟨_, rfl⟩
      obtain ⟨ok, hok⟩ : ∃ b, isNum x = b := ⟨_, rfl⟩
      have hpar : Calls Tryd.prog 50 #[.string x] wr fun e w' => e = .returned (.tuple #[.int .i32 (numW x), .bool (isNum x)]) ∧ Since wr w' := wparse_any x wr (by omega) (HLT.out.keep hp.old).s
      rw [hnv, hok] at hpar
      have hn1 := (numW_32 x).1
      have hn2 := (numW_32 x).2
      rw [hnv] at hn1 hn2
      have hfe := numsE_next e hx
      rw [hok] at hfe
      have hnw := numsW_next hx
      rw [hnv] at hnw
      have HFE := Lib.hid hfe
      have HNW := Lib.hid hnw
      have HPAR := Lib.hid hpar
      have HP := Lib.hid hp
      have HO := Lib.hid ho
      have HT := Lib.hid ht
      have hpbl := H.out.box.lt
      have HPB := Lib.hid hpbl
      clear hfe hnw hpar hp ho ht hpbl hnv hok hx hxs
      go_wp2_with fail
      refine HPAR.out.mono ?_
      rintro e2 w2 ⟨rfl, hs2⟩
      have HP2 := Lib.hid (HP.out.keep hs2)
      have HS2 := Lib.hid hs2
      clear hs2 hc hb
      go_wp2_with fail
      refine (must_any w2 HP2.out ok 71 (by decide)).mono ?_
      rintro e3 w3 ⟨rfl, hp3, ht3⟩
      rw [HFE.out] at hp3
      have ho3 := own_turn (own_keep HO.out HS2.out) ht3 fun q hq hr => by have := (World.ownsRow.lt HO.out q hq).1; have := HPB.out; omega
      have HB3 := Lib.hid (hp3.box.keep ((Since.refl w3).alloc (.cells #[.int .i64 nv] 3)))
      have HO3 := Lib.hid (own_keep ho3 ((Since.refl w3).alloc (.cells #[.int .i64 nv] 3)))
      have HT3 := Lib.hid ((HT.out.later (Turn.since (S := fun q => q = pb) HS2.out) (fun _ h => .inl h)).trans ht3 |>.alloc (.cells #[.int .i64 nv] 3))
      have HNN := Lib.hid (nums_new (k := .i64) (w := w3.alloc (.cells #[.int .i64 nv] 3)) (b := w3.heap.size) [nv] 3 1 (by simp) (by decide) (cs := [.int .i64 nv]) (heap_last w3 _) (fun j n hj => by match j, hj with | 0, hj => simp at hj; subst hj; rfl))
      have HW3 := Lib.hid (show w.heap.size ≤ (w3.alloc (.cells #[.int .i64 nv] 3)).heap.size from HT3.out.size)
      have HLEN := Lib.hid (show (numsW (l.take k)).length + [nv].length ≤ 1000000 from by unfold numsW; simp only [List.length_map, List.length_take, List.length_cons, List.length_nil]; omega)
      clear hp3 ht3 ho3 HP HP2 HO HPAR
      go_wp2_with (at_builtin; refine wpList_append_nums2 .i64 rfl _ _ 33 rfl 3 (.int .i64 0) 8 Tryd.underlying33 Tryd.infoInt rfl (by decide) _ _ (numsW (l.take k)) [nv] rfl rfl HO3.out HNN.out HLEN.out HW3.out ?_; intro v2 w4 ho4 ht4 hn4; have HO4 := Lib.hid ho4; have HT4 := Lib.hid ht4; clear ho4 ht4 hn4)
      have hlow : ∀ q, out.ownBlock = some q → w.heap.size ≤ q := fun q hq => (World.ownsRow.lt HO3.out q hq).1
      have HB4 := Lib.hid (HB3.out.turn HT4.out fun hq => by have := hlow pb hq; have := HPB.out; omega)
      have HT5 := Lib.hid (HT3.out.later HT4.out fun q hq => .inr (hlow q hq))
      have HP5 := Lib.hid (H.out.reBox HT5.out HB4.out)
      rw [← HNW.out] at HO4
      clear hlow
      go_roundw
      case rel => exact ⟨k + 1, _, rfl, by go_num, by omega, HO4.out, HP5.out, HT5.out⟩
      case measure => simp [intOf]; omega
    · obtain rfl : l.length = k := by omega
      rw [List.take_length] at ho hp
      have HP := Lib.hid hp
      have HO := Lib.hid ho
      have HT := Lib.hid ht
      clear hp ho ht
      go_wp2
      go_ret
      exact ⟨_, rfl, HO.out, HP.out, HT.out⟩
end
end Go.Proofs.YtmhojfpidedjeaaDoor
namespace Go.Proofs.YtmhojfpidedjeaaDoor
open Go.RowKit
set_option linter.unusedVariables false
theorem conv_one (w : World) (c : Int) : (convert 67 9 (.slice (some ⟨w.heap.size, 0, none⟩) 1 1)).run Tryd.prog (w.alloc (.cells #[.int .u8 c] 5)) = .ok (.string ⟨#[UInt8.ofNat c.toNat]⟩) (w.alloc (.cells #[.int .u8 c] 5)) := by
  rw [run_convert_bytes_string _ _ _ _ _ _ _ Tryd.underlying67 Tryd.underlying5 Tryd.underlying9]
  rw [run_bytesToString _ _ 1 1 [c] (by simp [go_sem])]
  rfl
theorem dig_u8 (u : Nat) : (⟨#[UInt8.ofNat (48 + (u : Int) % 10).toNat]⟩ : ByteArray) = digB (u % 10) := by
  unfold digB
  rw [show (48 + (u : Int) % 10).toNat = 48 + u % 10 from by omega]
theorem bytes_empty (b : ByteArray) : b ++ ⟨#[]⟩ = b := by
  apply bytes_ext; rw [bytes_app]; simp
theorem behind_len {U u : Nat} {out : ByteArray} (h : Behind U u out) (hU : U ≤ 9223372036854775808) : out.size ≤ 22 := by
  have h1 := Lib.itoa_length_le (-(U : Int)) (by omega) (by omega)
  have h2 : out.data.toList.length = out.size := Array.length_toList
  have h3 : (Lib.decDigits U).length ≤ 22 := by
    by_cases h0 : U = 0
    · subst h0; rw [decDigits_small (by decide)]; simp
    · rw [itoa_neg (by omega)] at h1
      simp only [List.length_cons, Int.natAbs_neg, Int.natAbs_natCast] at h1
      omega
  unfold Behind at h
  split at h
  · rw [h] at h2
    have h4 : (decB U).data.toList.length = (Lib.decDigits U).length := rfl
    rw [h]; omega
  · rw [← h, List.length_append] at h3; omega
end Go.Proofs.YtmhojfpidedjeaaDoor
namespace Go.Proofs.YtmhojfpidedjeaaDoor
open Go.RowKit
set_option linter.unusedVariables false
theorem bs_app (a b : Bs) : (⟨a.toArray⟩ : ByteArray) ++ ⟨b.toArray⟩ = ⟨(a ++ b).toArray⟩ := by apply bytes_ext; rw [bytes_app]
theorem bs_size (a : Bs) : (⟨a.toArray⟩ : ByteArray).size = a.length := by rw [← bytes_len]
end Go.Proofs.YtmhojfpidedjeaaDoor
namespace Go.Proofs.YtmhojfpidedjeaaDoor
open Go.RowKit
set_option linter.unusedVariables false
def termsText : ByteArray := ⟨#[106, 117, 109, 112, 32, 98, 114, 97, 110, 99, 104, 32, 115, 119, 105, 116, 99, 104, 32, 114, 101, 116, 32, 116, 114, 97, 112]⟩
def tilesText : ByteArray := ⟨(([108, 105] ++ (patNames.drop 1).flatMap (fun b => 32 :: b.data.toList)) : Bs).toArray⟩
/-- Texts in a row. -/
def StrsAt (w : World) (b : Nat) (l : List ByteArray) : Prop := b < w.heap.size ∧ ∀ j, j < l.length → w.cell? ⟨b, 0 + j, none⟩ = some (.string (l.getD j ByteArray.empty))
theorem strs_block (w : World) (l : List ByteArray) (T : TypeId) : StrsAt (w.alloc (.cells (l.map Value.string).toArray T)) w.heap.size l := by
  refine ⟨by simp, fun j hj => ?_⟩
  have h : (l.map Value.string)[j]? = some (.string (l.getD j ByteArray.empty)) := by
    rw [List.getElem?_map, List.getElem?_eq_getElem hj, List.getD_eq_getElem?_getD, List.getElem?_eq_getElem hj]
    rfl
  simp only [World.cell?, heap_last, Nat.zero_add]
  simpa using h
theorem StrsAt.keep {w w' : World} {b : Nat} {l : List ByteArray} (h : StrsAt w b l) (s : Since w w') : StrsAt w' b l := ⟨Nat.lt_of_lt_of_le h.1 s.size, fun j hj => (s.cell (p := ⟨b, 0 + j, none⟩) h.1).trans (h.2 j hj)⟩
def FieldsQ (n : Nat) (l : List ByteArray) (w : World) (e : Ending) (w' : World) : Prop := e = .returned (.slice (some ⟨w.heap.size, 0, none⟩) n n) ∧ StrsAt w' w.heap.size l ∧ Since w w'
theorem fields_const (s : ByteArray) (n : Nat) (l : List ByteArray) (hn : l.length = n) (h : Lib.fields s.data.toList = l.map fun b => b.data.toList) (ha : s.data.toList.all (fun b => decide (b.toNat < 128)) = true) (hs : s.size < 4294967281) (w : World) (htab : Lib.TabIs Tryd.prog w "strings.asciiSpace" .u8 Lib.asciiSpaceTab) :
    Calls Tryd.prog 18 #[.string s] w (FieldsQ n l w) := by
  subst hn
  refine (Tryd.strings_Fields s w hs (fun j b hb => by have := List.all_eq_true.1 ha b (List.mem_of_getElem? hb); simpa using this) htab).mono ?_
  rintro e w' ⟨rfl, rfl⟩
  have e1 : ((Lib.fields s.data.toList).map fun l => Value.string ⟨l.toArray⟩) = l.map Value.string := by
    rw [h, List.map_map]
    refine List.map_congr_left fun s _ => ?_
    obtain ⟨⟨l⟩⟩ := s
    rfl
  rw [e1, h, List.length_map]
  exact ⟨rfl, strs_block w _ _, (Since.refl _).alloc _⟩
theorem fields_terms (w : World) (htab : Lib.TabIs Tryd.prog w "strings.asciiSpace" .u8 Lib.asciiSpaceTab) : Calls Tryd.prog 18 #[.string termsText] w (FieldsQ 5 termNames w) := fields_const termsText 5 termNames rfl (by decide +kernel) (by decide +kernel) (by decide +kernel) w htab
theorem fields_tiles (w : World) (htab : Lib.TabIs Tryd.prog w "strings.asciiSpace" .u8 Lib.asciiSpaceTab) : Calls Tryd.prog 18 #[.string tilesText] w (FieldsQ 37 patNames w) := fields_const tilesText 37 patNames rfl (by decide +kernel) (by decide +kernel) (by decide +kernel) w htab
set_option maxHeartbeats 1000000 in
set_option maxRecDepth 100000 in
theorem nth_any (n : Int) (w : World) (ho : In64 n) (htab : Lib.TabIs Tryd.prog w "strings.asciiSpace" .u8 Lib.asciiSpaceTab) :
    Calls Tryd.prog 24 #[.string termsText, .int .i64 n] w (StrQ (termB n) w) := by
  unfold In64 at ho
  obtain ⟨t, ht⟩ : ∃ t, termsText = t := ⟨_, rfl⟩
  have HF := Lib.hid (fields_terms w htab)
  rw [ht] at HF ⊢
  obtain ⟨y, hy⟩ : ∃ y, termB n = y := ⟨_, rfl⟩
  have HY := Lib.hid hy
  rw [hy]
  clear hy htab ht
  by_cases h1 : n < 1
  · obtain rfl : ⟨#[63]⟩ = y := by rw [← HY.out]; unfold termB; rw [if_pos (.inl h1)]
    go_enter Tryd.func24, Tryd.ntmps24
    go_wp2_with fail
    refine HF.out.mono ?_
    rintro e w1 ⟨rfl, hn, hb⟩
    have HB := Lib.hid hb
    clear hn hb
    go_wp2
    go_ret
    exact ⟨rfl, HB.out⟩
  · by_cases h2 : 5 < n
    · obtain rfl : ⟨#[63]⟩ = y := by rw [← HY.out]; unfold termB; rw [if_pos (.inr h2)]
      go_enter Tryd.func24, Tryd.ntmps24
      go_wp2_with fail
      refine HF.out.mono ?_
      rintro e w1 ⟨rfl, hn, hb⟩
      have HB := Lib.hid hb
      clear hn hb
      go_wp2
      go_ret
      exact ⟨rfl, HB.out⟩
    · obtain ⟨k, rfl⟩ : ∃ k : Nat, n = (k : Int) + 1 := ⟨(n - 1).toNat, by omega⟩
      have hk : k < 5 := by omega
      have he : termB ((k : Int) + 1) = termNames.getD k ByteArray.empty := by unfold termB; rw [if_neg (by omega), show ((k : Int) + 1 - 1).toNat = k from by omega]
      rw [he] at HY
      clear he
      go_enter Tryd.func24, Tryd.ntmps24
      go_wp2_with fail
      refine HF.out.mono ?_
      rintro e w1 ⟨rfl, hn, hb⟩
      have hc : w1.cell? ⟨w.heap.size, 0 + k, none⟩ = some (.string y) := by rw [← HY.out]; exact hn.2 k hk
      rw [Nat.zero_add] at hc
      have hl := hn.1
      have HB := Lib.hid hb
      clear hn hb
      go_wp2
      go_ret
      exact ⟨rfl, HB.out⟩
set_option maxHeartbeats 1000000 in
set_option maxRecDepth 100000 in
theorem tname_any (n : Int) (w : World) (ho : In64 n) (htab : Lib.TabIs Tryd.prog w "strings.asciiSpace" .u8 Lib.asciiSpaceTab) :
    Calls Tryd.prog 8 #[.int .i64 n] w (StrQ (patB n) w) := by
  unfold In64 at ho
  have HF := Lib.hid (fields_tiles w htab)
  obtain ⟨y, hy⟩ : ∃ y, patB n = y := ⟨_, rfl⟩
  have HY := Lib.hid hy
  rw [hy]
  clear hy htab
  by_cases h1 : n < 1
  · obtain rfl : ByteArray.empty = y := by rw [← HY.out]; unfold patB; rw [if_pos (.inl h1)]
    go_enter Tryd.func8, Tryd.ntmps8
    go_wp2_with fail
    refine HF.out.mono ?_
    rintro e w1 ⟨rfl, hn, hb⟩
    have HB := Lib.hid hb
    clear hn hb
    go_wp2
    go_ret
    exact ⟨rfl, HB.out⟩
  · by_cases h2 : 37 < n
    · obtain rfl : ByteArray.empty = y := by rw [← HY.out]; unfold patB; rw [if_pos (.inr h2)]
      go_enter Tryd.func8, Tryd.ntmps8
      go_wp2_with fail
      refine HF.out.mono ?_
      rintro e w1 ⟨rfl, hn, hb⟩
      have HB := Lib.hid hb
      clear hn hb
      go_wp2
      go_ret
      exact ⟨rfl, HB.out⟩
    · obtain ⟨k, rfl⟩ : ∃ k : Nat, n = (k : Int) + 1 := ⟨(n - 1).toNat, by omega⟩
      have hk : k < 37 := by omega
      have he : patB ((k : Int) + 1) = patNames.getD k ByteArray.empty := by unfold patB; rw [if_neg (by omega), show ((k : Int) + 1 - 1).toNat = k from by omega]
      rw [he] at HY
      clear he
      go_enter Tryd.func8, Tryd.ntmps8
      go_wp2_with fail
      refine HF.out.mono ?_
      rintro e w1 ⟨rfl, hn, hb⟩
      have hc : w1.cell? ⟨w.heap.size, 0 + k, none⟩ = some (.string y) := by rw [← HY.out]; exact hn.2 k hk
      rw [Nat.zero_add] at hc
      have hl := hn.1
      have HB := Lib.hid hb
      clear hn hb
      go_wp2
      go_ret
      exact ⟨rfl, HB.out⟩
theorem since_setRow {w0 w : World} (s : Since w0 w) {g : Nat} (hg : w0.heap.size ≤ g) (cs : Array Value) : Since w0 (w.setRow g cs) :=
  Below.trans s ⟨rfl, rfl, rfl, by simp [World.setRow], fun i hi => setRow_other w g i cs (by omega)⟩
end Go.Proofs.YtmhojfpidedjeaaDoor
