/- Rows of instructions and of blocks of the call's own. jacquardlaw12.few: a program of the call's own. -/
import Derived.Test.YtkpbmbhejpmboaaRefFunc
import Derived.Test.YtkpbmbhejpmboaaCallsMore
import Derived.Deep.CutBlock
namespace Go.Proofs.Ytkpbmbhejpmboaa
open Go.RowKit
abbrev PlR (base : Nat) (w : World) (v : Value) (l : List PlV) : Prop := OwnRow plcells 9 58 base w v l
abbrev BkR (base : Nat) (w : World) (v : Value) (l : List BlkV) : Prop := OwnRow blcells 6 56 base w v l
theorem Try.infoPl2 : (Try.prog.info? 58).map (fun i => (i.zero, i.size, i.bytes)) = some (some (.agg #[.int .i64 0, .int .i64 0, .int .i64 0, .int .i64 0, .int .i64 0, .int .i64 0, .int .i32 0, .slice none 0 0, .int .i64 0]), 9, 88) := by kernel_rfl
theorem Try.infoBk : (Try.prog.info? 56).map (fun i => (i.zero, i.size, i.bytes)) = some (some (.agg #[.slice none 0 0, .int .i64 0, .int .i64 0, .int .i64 0, .slice none 0 0, .int .i32 0]), 6, 80) := by kernel_rfl
def plZ2 : Value := .agg #[.int .i64 0, .int .i64 0, .int .i64 0, .int .i64 0, .int .i64 0, .int .i64 0, .int .i32 0, .slice none 0 0, .int .i64 0]
def bkZ : Value := .agg #[.slice none 0 0, .int .i64 0, .int .i64 0, .int .i64 0, .slice none 0 0, .int .i32 0]
end Go.Proofs.Ytkpbmbhejpmboaa

namespace Go.Proofs.Ytkpbmbhejpmboaa
open Go.RowKit
set_option linter.unusedVariables false

abbrev ArR (base : Nat) (w : World) (v : Value) (l : List Int) : Prop := w.ownsRow base 3 1 v l.length (l.map (Value.int .i64))
def PlOwn (base : Nat) (w : World) (x : PlV) : Prop := ArR base w x.av x.m.args ∧ Fine x.m
def BkOwn (base : Nat) (w : World) (b : BlkV) : Prop := PlR base w b.insv b.ins ∧ (∀ x ∈ b.ins, PlOwn base w x) ∧ ArR base w b.fin.tov b.fin.to ∧ b.ins.length ≤ 12
theorem PlOwn.turn {S : Nat → Prop} {base : Nat} {w w' : World} {x : PlV} (h : PlOwn base w x) (t : Turn S w w') (hS : ∀ q, x.av.ownBlock = some q → ¬ S q) : PlOwn base w' x := ⟨own_turn h.1 t hS, h.2⟩
theorem PlOwn.keep {base : Nat} {w w' : World} {x : PlV} (h : PlOwn base w x) (s : Since w w') : PlOwn base w' x := ⟨own_keep h.1 s, h.2⟩
theorem BkOwn.keep {base : Nat} {w w' : World} {b : BlkV} (h : BkOwn base w b) (s : Since w w') : BkOwn base w' b := ⟨OwnRow.keep h.1 s, fun x hx => (h.2.1 x hx).keep s, own_keep h.2.2.1 s, h.2.2.2⟩
theorem BkOwn.turnRow {base b2 : Nat} {w w' : World} {b : BlkV} {v : Value} {l : List BlkV} (h : BkOwn base w b) (hv : BkR b2 w v l) (t : Turn (fun q => v.ownBlock = some q) w w') : BkOwn base w' b :=
  ⟨own_turn h.1 t fun q hq => own_ne h.1 hv (by decide) q hq, fun x hx => (h.2.1 x hx).turn t fun q hq => own_ne (h.2.1 x hx).1 hv (by decide) q hq, own_turn h.2.2.1 t fun q hq => own_ne h.2.2.1 hv (by decide) q hq, h.2.2.2⟩
theorem BkOwn.turnBox {base q0 : Nat} {w w' : World} {b : BlkV} {cs : Array Value} (h : BkOwn base w b) (hb : HeapIs w q0 cs 24) (t : Turn (fun q => q = q0) w w') : BkOwn base w' b :=
  ⟨own_turn h.1 t fun q hq e => by subst e; exact own_not h.1 hb (by decide) hq, fun x hx => (h.2.1 x hx).turn t fun q hq e => by subst e; exact own_not (h.2.1 x hx).1 hb (by decide) hq, own_turn h.2.2.1 t fun q hq e => by subst e; exact own_not h.2.2.1 hb (by decide) hq, h.2.2.2⟩
theorem BkOwn.low {base b' : Nat} {w : World} {b : BlkV} (h : BkOwn base w b) (hb : b' ≤ base) : BkOwn b' w b := ⟨own_base h.1 hb, fun x hx => ⟨own_base (h.2.1 x hx).1 hb, (h.2.1 x hx).2⟩, own_base h.2.2.1 hb, h.2.2.2⟩
theorem few_ok {base : Nat} {w : World} {v : Value} {bl : List BlkV} {a b c : Int} (h : BkR base w v bl) (hb : ∀ b ∈ bl, BkOwn base w b) (hl : bl.length ≤ 6) : PrgOk w ⟨a, b, c, bl, v⟩ := by
  refine ⟨row_of_own blcells_len h fun y hy => ?_, by show bl.length ≤ 100000; omega⟩
  obtain ⟨h1, h2, h3, h4⟩ := hb y hy
  refine ⟨row_of_own plcells_len h1 fun z hz => ?_, nums_of_own h3, by omega⟩
  exact ⟨nums_of_own (h2 z hz).1, (h2 z hz).2, fun q hq => (World.ownsRow.lt (h2 z hz).1 q hq).2⟩
/-- A program as it came in. -/
def PlIn (w : World) (x : PlV) : Prop := Ints w x.av x.m.args ∧ -2147483648 ≤ x.m.imm ∧ x.m.imm ≤ 2147483647
def BlkIn (w : World) (b : BlkV) : Prop := RowIn plcells 9 PlIn w b.insv b.ins ∧ Ints w b.fin.tov b.fin.to
def PrgIn (w : World) (p : PrgV) : Prop := RowIn blcells 6 BlkIn w p.bv p.blocks
theorem PlIn.keep (w w' : World) (x : PlV) (h : PlIn w x) (s : Since w w') : PlIn w' x := ⟨h.1.keep s, h.2⟩
theorem BlkIn.keep (w w' : World) (x : BlkV) (h : BlkIn w x) (s : Since w w') : BlkIn w' x := ⟨RowIn.keep PlIn.keep h.1 s, h.2.keep s⟩
theorem PrgIn.keep {w w' : World} {p : PrgV} (h : PrgIn w p) (s : Since w w') : PrgIn w' p := RowIn.keep BlkIn.keep h s
theorem BkOwn.turnLow {S : Nat → Prop} {base : Nat} {w w' : World} {b : BlkV} (h : BkOwn base w b) (t : Turn S w w') (hS : ∀ q, S q → q < base) : BkOwn base w' b :=
  ⟨own_turn h.1 t fun q hq e => (by have := hS q e; have := (World.ownsRow.lt h.1 q hq).1; omega), fun x hx => (h.2.1 x hx).turn t fun q hq e => (by have := hS q e; have := (World.ownsRow.lt (h.2.1 x hx).1 q hq).1; omega), own_turn h.2.2.1 t fun q hq e => (by have := hS q e; have := (World.ownsRow.lt h.2.2.1 q hq).1; omega), h.2.2.2⟩
/-- A program that reads, whatever turns of what was there. -/
def FewQ (w : World) (e : Ending) (w' : World) : Prop := ∃ p : PrgV, e = .returned (pv p) ∧ (∀ (w2 : World) (S : Nat → Prop), Turn S w' w2 → (∀ q, S q → q < w.heap.size) → PrgOk w2 p) ∧ Since w w'
/-- The rows of a block as it is made. -/
structure InsAt (wo : World) (B1 : Nat) (xs ys : Array Value) (v : Value) (il : List PlV) (w : World) : Prop where
  x : HeapIs w wo.heap.size xs 56
  y : HeapIs w (wo.heap.size + 1) ys 56
  row : PlR B1 w v il
  all : ∀ x ∈ il, PlOwn B1 w x
  old : Since wo w
  above : B1 ≤ w.heap.size ∧ wo.heap.size + 2 ≤ B1
theorem InsAt.keep {wo w w' : World} {B1 : Nat} {xs ys : Array Value} {v : Value} {il : List PlV} (h : InsAt wo B1 xs ys v il w) (s : Since w w') : InsAt wo B1 xs ys v il w' :=
  ⟨h.x.keep s, h.y.keep s, OwnRow.keep h.row s, fun x hx => (h.all x hx).keep s, h.old.trans s, Nat.le_trans h.above.1 s.size, h.above.2⟩
theorem InsAt.turn {S : Nat → Prop} {wo w w' : World} {B1 : Nat} {xs ys : Array Value} {v : Value} {il : List PlV} (h : InsAt wo B1 xs ys v il w) (t : Turn S w w') (hS : ∀ q, S q → ∃ cs, HeapIs w q cs 58) (hr : ∀ q, v.ownBlock = some q → ¬ S q) (hb : ∀ q, S q → B1 ≤ q) : InsAt wo B1 xs ys v il w' := by
  have h2 := h.above
  refine ⟨h.x.turn t fun e => ?_, h.y.turn t fun e => ?_, own_turn h.row t hr, fun x hx => (h.all x hx).turn t fun q hq e => ?_, t.toSince h.old fun q hq e => ?_, Nat.le_trans h.above.1 t.size, h.above.2⟩
  · have := hb _ e; omega
  · have := hb _ e; omega
  · obtain ⟨cs, hc⟩ := hS q e
    exact own_not (h.all x hx).1 hc (by decide) hq
  · have := hb _ e; omega
/-- One more instruction. -/
theorem InsAt.more {wo w w' : World} {B1 : Nat} {xs ys : Array Value} {v v' : Value} {il : List PlV} {x : PlV} (h : InsAt wo B1 xs ys v il w) (hx : PlOwn B1 w x) (hown : PlR B1 w' v' (il ++ [x])) (t : Turn (fun q => v.ownBlock = some q) w w') : InsAt wo B1 xs (ys.setIfInBounds 0 v') v' (il ++ [x]) (w'.setCell ⟨wo.heap.size + 1, 0, none⟩ v') := by
  have h2 := h.above
  have hv : ∀ q, v.ownBlock = some q → B1 ≤ q := fun q hq => (World.ownsRow.lt h.row q hq).1
  have t2 : Turn (fun q => q = wo.heap.size + 1) w' (w'.setCell ⟨wo.heap.size + 1, 0, none⟩ v') := (Turn.refl (fun q => q = wo.heap.size + 1) w').setCell (p := ⟨wo.heap.size + 1, 0, none⟩) rfl _
  have hall : ∀ z ∈ il ++ [x], PlOwn B1 w' z := by
    intro z hz
    have h3 : PlOwn B1 w z := by
      rcases List.mem_append.1 hz with hz | hz
      · exact h.all z hz
      · obtain rfl := List.mem_singleton.1 hz; exact hx
    exact h3.turn t fun q hq e => own_ne h3.1 h.row (by decide) q hq e
  have hy := h.y.turn t fun e => by have := hv _ e; omega
  refine ⟨(h.x.turn t fun e => ?_).turn t2 (by omega), hy.set 0 v', own_turn hown t2 fun q hq e => ?_, fun z hz => (hall z hz).turn t2 fun q hq e => ?_, t2.toSince (t.toSince h.old fun q hq e => ?_) fun q hq e => by omega, Nat.le_trans h2.1 (Nat.le_trans t.size t2.size), h2.2⟩
  · have := hv _ e; omega
  · have := (World.ownsRow.lt hown q hq).1; omega
  · have := (World.ownsRow.lt (hall z hz).1 q hq).1; omega
  · have := hv _ e; omega
/-- The blocks made so far. -/
structure BksAt (w0 : World) (pb B0 : Nat) (ps : Array Value) (os : Array Value) (v : Value) (bl : List BlkV) (w : World) : Prop where
  p : HeapIs w pb ps 24
  r : HeapIs w (pb + 1) #[.int .i64 0, .int .i64 0, .int .i64 0, .slice none 0 0] 24
  o : HeapIs w (pb + 2) os 24
  row : BkR B0 w v bl
  all : ∀ b ∈ bl, BkOwn B0 w b
  old : Since w0 w
  above : B0 ≤ w.heap.size ∧ w0.heap.size ≤ pb ∧ pb + 3 ≤ B0
theorem BksAt.keep {w0 w w' : World} {pb B0 : Nat} {ps os : Array Value} {v : Value} {bl : List BlkV} (h : BksAt w0 pb B0 ps os v bl w) (s : Since w w') : BksAt w0 pb B0 ps os v bl w' :=
  ⟨h.p.keep s, h.r.keep s, h.o.keep s, OwnRow.keep h.row s, fun b hb => (h.all b hb).keep s, h.old.trans s, Nat.le_trans h.above.1 s.size, h.above.2⟩
/-- One more block. -/
theorem BksAt.more {w0 w w' : World} {pb B0 : Nat} {ps os : Array Value} {v v' : Value} {bl : List BlkV} {b : BlkV} (h : BksAt w0 pb B0 ps os v bl w) (hx : BkOwn B0 w b) (hown : BkR B0 w' v' (bl ++ [b])) (t : Turn (fun q => v.ownBlock = some q) w w') : BksAt w0 pb B0 ps (os.setIfInBounds 3 v') v' (bl ++ [b]) (w'.setCell ⟨pb + 2, 3, none⟩ v') := by
  have h2 := h.above
  have hv : ∀ q, v.ownBlock = some q → B0 ≤ q := fun q hq => (World.ownsRow.lt h.row q hq).1
  have t2 : Turn (fun q => q = pb + 2) w' (w'.setCell ⟨pb + 2, 3, none⟩ v') := (Turn.refl (fun q => q = pb + 2) w').setCell (p := ⟨pb + 2, 3, none⟩) rfl _
  have ho := h.o.turn t fun e => by have := hv _ e; omega
  have hall : ∀ z ∈ bl ++ [b], BkOwn B0 w' z := by
    intro z hz
    rcases List.mem_append.1 hz with hz | hz
    · exact (h.all z hz).turnRow h.row t
    · obtain rfl := List.mem_singleton.1 hz; exact hx.turnRow h.row t
  refine ⟨(h.p.turn t fun e => ?_).turn t2 (by omega), (h.r.turn t fun e => ?_).turn t2 (by omega), ho.set 3 v', own_turn hown t2 fun q hq e => ?_, fun z hz => (hall z hz).turnBox ho t2, t2.toSince (t.toSince h.old fun q hq e => ?_) fun q hq e => by omega, Nat.le_trans h2.1 (Nat.le_trans t.size t2.size), h2.2⟩
  · have := hv _ e; omega
  · have := hv _ e; omega
  · have := (World.ownsRow.lt hown q hq).1; omega
  · have := hv _ e; omega

set_option maxHeartbeats 4000000 in
set_option maxRecDepth 100000 in
theorem few_any (p : PrgV) (w : World) (h : PrgIn w p) : Calls Try.prog 12 #[pv p] w (FewQ w) := by
  obtain ⟨params, kk, slots, blocks, bv⟩ := p
  obtain ⟨ba, bc, hbv, hbmax⟩ := RowIn.shape h
  dsimp only at hbv hbmax
  subst hbv
  have HP := Lib.hid h
  clear h
  unfold maxLen at hbmax
  unfold pv
  dsimp only
  obtain ⟨w3, hw3⟩ : ∃ x, x = ((w.alloc (.cells #[.int .i64 params, .int .i64 kk, .int .i64 slots, .slice ba blocks.length bc] 24)).alloc (.cells #[.int .i64 0, .int .i64 0, .int .i64 0, .slice none 0 0] 24)).alloc (.cells #[.int .i64 params, .int .i64 kk, .int .i64 slots, .slice none 0 0] 24) := ⟨_, rfl⟩
  obtain ⟨B0, hB0⟩ : ∃ n, n = w3.heap.size := ⟨_, rfl⟩
  have hB0' : w.heap.size + 3 ≤ B0 ∧ B0 ≤ w.heap.size + 3 := by rw [hB0, hw3]; simp
  have hst : BksAt w w.heap.size B0 #[.int .i64 params, .int .i64 kk, .int .i64 slots, .slice ba blocks.length bc] #[.int .i64 params, .int .i64 kk, .int .i64 slots, .slice none 0 0] (.slice none 0 0) [] w3 := by
    refine ⟨?_, ?_, ?_, OwnRow.nil _ _ _ _ _, fun x hx => (by cases hx), ?_, by omega⟩
    · rw [hw3]; exact ((HeapIs.new _ _ _).keep ((Since.refl _).alloc _)).keep ((Since.refl _).alloc _)
    · have h1 := HeapIs.new (w.alloc (.cells #[.int .i64 params, .int .i64 kk, .int .i64 slots, .slice ba blocks.length bc] 24)) #[.int .i64 0, .int .i64 0, .int .i64 0, .slice none 0 0] 24
      rw [show (w.alloc (.cells #[.int .i64 params, .int .i64 kk, .int .i64 slots, .slice ba blocks.length bc] 24)).heap.size = w.heap.size + 1 from by simp] at h1
      rw [hw3]
      exact h1.keep ((Since.refl _).alloc _)
    · have h1 := HeapIs.new ((w.alloc (.cells #[.int .i64 params, .int .i64 kk, .int .i64 slots, .slice ba blocks.length bc] 24)).alloc (.cells #[.int .i64 0, .int .i64 0, .int .i64 0, .slice none 0 0] 24)) #[.int .i64 params, .int .i64 kk, .int .i64 slots, .slice none 0 0] 24
      rw [show ((w.alloc (.cells #[.int .i64 params, .int .i64 kk, .int .i64 slots, .slice ba blocks.length bc] 24)).alloc (.cells #[.int .i64 0, .int .i64 0, .int .i64 0, .slice none 0 0] 24)).heap.size = w.heap.size + 2 from by simp] at h1
      rw [hw3]
      exact h1
    · rw [hw3]; exact (((Since.refl w).alloc _).alloc _).alloc _
  have HB0 := Lib.hid hst
  have HW3 := Lib.hid hw3
  clear hst hB0 hw3
  go_enter Try.func12, Try.ntmps12
  go_wp2_with fail
  rw [← HW3.out]
  clear HW3
  go_loopw [4] (fun i wr => ∃ (k : Nat) (v : Value) (bl : List BlkV), (k ≤ blocks.length ∧ k ≤ 6) ∧ i = .int .i64 k ∧ bl.length = k ∧ BksAt w w.heap.size B0 #[.int .i64 params, .int .i64 kk, .int .i64 slots, .slice ba blocks.length bc] #[.int .i64 params, .int .i64 kk, .int .i64 slots, v] v bl wr) (fun i _ => 6 - (intOf i).toNat)
  case atStart => exact ⟨0, _, [], ⟨Nat.zero_le _, Nat.zero_le _⟩, rfl, rfl, HB0.out⟩
  case round =>
    obtain ⟨k, v, bl, hk, rfl, hbl, hst⟩ := hrel
    obtain ⟨ka, kc, hv⟩ := OwnRow.shape hst.row
    rw [hbl] at hv
    subst hv
    have p3 : wr.cell? ⟨w.heap.size, 3, none⟩ = some (.slice ba blocks.length bc) := hst.p.cell 3
    have pl := hst.p.lt
    have HB := Lib.hid hst
    have HBLN := Lib.hid hbl
    clear hst hbl
    by_cases hlt1 : k < blocks.length
    rotate_right
    · have hb := HB.out
      have o0 : wr.cell? ⟨w.heap.size + 1 + 1, 0, none⟩ = some (.int .i64 params) := hb.o.cell 0
      have o1 : wr.cell? ⟨w.heap.size + 1 + 1, 1, none⟩ = some (.int .i64 kk) := hb.o.cell 1
      have o2 : wr.cell? ⟨w.heap.size + 1 + 1, 2, none⟩ = some (.int .i64 slots) := hb.o.cell 2
      have o3 : wr.cell? ⟨w.heap.size + 1 + 1, 3, none⟩ = some (.slice ka k kc) := hb.o.cell 3
      have ol : w.heap.size + 1 + 1 < wr.heap.size := hb.o.lt
      clear hb
      go_wp2_with (refine wpList_store_row rfl 24 _ _ rfl (w.heap.size + 1) #[.int .i64 params, .int .i64 kk, .int .i64 slots, .slice ka k kc] rfl rfl 24 _ HB.out.r (by kernel_rfl) rfl (by rw [← Array.all_toList]; rfl) ?_)
      have hb5 := setRow_block HB.out.r #[.int .i64 params, .int .i64 kk, .int .i64 slots, .slice ka k kc]
      have t5 : Turn (fun q => q = w.heap.size + 1) wr (wr.setRow (w.heap.size + 1) #[.int .i64 params, .int .i64 kk, .int .i64 slots, .slice ka k kc]) := setRow_turn (S := fun q => q = w.heap.size + 1) rfl _
      generalize wr.setRow (w.heap.size + 1) #[.int .i64 params, .int .i64 kk, .int .i64 slots, .slice ka k kc] = w5 at *
      have hb5 : HeapIs w5 (w.heap.size + 1) #[.int .i64 params, .int .i64 kk, .int .i64 slots, .slice ka k kc] 24 := hb5
      have e0 := hb5.cell 0
      have e1 := hb5.cell 1
      have e2 := hb5.cell 2
      have e3 := hb5.cell 3
      have hl5 := hb5.lt
      have hrow5 : BkR B0 w5 (.slice ka k kc) bl := own_turn HB.out.row t5 fun q hq e => by subst e; exact own_not HB.out.row HB.out.r (by decide) hq
      have hok : ∀ (w6 : World) (S : Nat → Prop), Turn S w5 w6 → (∀ q, S q → q < w.heap.size) → PrgOk w6 ⟨params, kk, slots, bl, .slice ka k kc⟩ := fun w6 S t6 hS => few_ok (own_turn hrow5 t6 fun q hq e => (by have := hS q e; have := (World.ownsRow.lt hrow5 q hq).1; omega)) (fun z hz => ((HB.out.all z hz).turnBox HB.out.r t5).turnLow t6 fun q e => by have := hS q e; omega) (by rw [HBLN.out]; omega)
      have hs5 : Since w w5 := t5.toSince HB.out.old fun q hq e => by omega
      have HO := Lib.hid (And.intro hok hs5)
      clear hb5 t5 hok hs5 hrow5
      go_wp2
      exact bodyPost_ret (v := .agg #[.int .i64 params, .int .i64 kk, .int .i64 slots, .slice ka k kc]) (by simp [results, Try.results12, go_sem, e0, e1, e2, e3]) rfl ⟨⟨params, kk, slots, bl, .slice ka k kc⟩, rfl, HO.out.1, HO.out.2⟩
    by_cases hlt2 : k < 6
    rotate_right
    · have hb := HB.out
      have o0 : wr.cell? ⟨w.heap.size + 1 + 1, 0, none⟩ = some (.int .i64 params) := hb.o.cell 0
      have o1 : wr.cell? ⟨w.heap.size + 1 + 1, 1, none⟩ = some (.int .i64 kk) := hb.o.cell 1
      have o2 : wr.cell? ⟨w.heap.size + 1 + 1, 2, none⟩ = some (.int .i64 slots) := hb.o.cell 2
      have o3 : wr.cell? ⟨w.heap.size + 1 + 1, 3, none⟩ = some (.slice ka k kc) := hb.o.cell 3
      have ol : w.heap.size + 1 + 1 < wr.heap.size := hb.o.lt
      clear hb
      go_wp2_with (refine wpList_store_row rfl 24 _ _ rfl (w.heap.size + 1) #[.int .i64 params, .int .i64 kk, .int .i64 slots, .slice ka k kc] rfl rfl 24 _ HB.out.r (by kernel_rfl) rfl (by rw [← Array.all_toList]; rfl) ?_)
      have hb5 := setRow_block HB.out.r #[.int .i64 params, .int .i64 kk, .int .i64 slots, .slice ka k kc]
      have t5 : Turn (fun q => q = w.heap.size + 1) wr (wr.setRow (w.heap.size + 1) #[.int .i64 params, .int .i64 kk, .int .i64 slots, .slice ka k kc]) := setRow_turn (S := fun q => q = w.heap.size + 1) rfl _
      generalize wr.setRow (w.heap.size + 1) #[.int .i64 params, .int .i64 kk, .int .i64 slots, .slice ka k kc] = w5 at *
      have hb5 : HeapIs w5 (w.heap.size + 1) #[.int .i64 params, .int .i64 kk, .int .i64 slots, .slice ka k kc] 24 := hb5
      have e0 := hb5.cell 0
      have e1 := hb5.cell 1
      have e2 := hb5.cell 2
      have e3 := hb5.cell 3
      have hl5 := hb5.lt
      have hrow5 : BkR B0 w5 (.slice ka k kc) bl := own_turn HB.out.row t5 fun q hq e => by subst e; exact own_not HB.out.row HB.out.r (by decide) hq
      have hok : ∀ (w6 : World) (S : Nat → Prop), Turn S w5 w6 → (∀ q, S q → q < w.heap.size) → PrgOk w6 ⟨params, kk, slots, bl, .slice ka k kc⟩ := fun w6 S t6 hS => few_ok (own_turn hrow5 t6 fun q hq e => (by have := hS q e; have := (World.ownsRow.lt hrow5 q hq).1; omega)) (fun z hz => ((HB.out.all z hz).turnBox HB.out.r t5).turnLow t6 fun q e => by have := hS q e; omega) (by rw [HBLN.out]; omega)
      have hs5 : Since w w5 := t5.toSince HB.out.old fun q hq e => by omega
      have HO := Lib.hid (And.intro hok hs5)
      clear hb5 t5 hok hs5 hrow5
      go_wp2
      exact bodyPost_ret (v := .agg #[.int .i64 params, .int .i64 kk, .int .i64 slots, .slice ka k kc]) (by simp [results, Try.results12, go_sem, e0, e1, e2, e3]) rfl ⟨⟨params, kk, slots, bl, .slice ka k kc⟩, rfl, HO.out.1, HO.out.2⟩
    · have hd1 : decide ((k : Int) < (blocks.length : Int)) = true := decide_eq_true (by omega)
      have hd2 : decide ((k : Int) < 6) = true := decide_eq_true (by omega)
      obtain ⟨B, off, x, rfl, hB, hx, hcB, hok⟩ := RowIn.at HP.out hlt1
      obtain ⟨xl, xv, ⟨eop, ea, eb, eto, etov, eimm⟩⟩ := x
      obtain ⟨hok1, hok2⟩ := hok
      dsimp only at hok1 hok2
      obtain ⟨ia, ic, rfl, hil⟩ := hok1.shape
      obtain ⟨ta, tc, rfl⟩ := nums_lenI hok2
      have htc : eto.length ≤ tc := (nums_caps hok2).2.1
      have htc2 : tc ≤ 9223372036854775807 := (nums_caps hok2).2.2
      unfold maxLen at hil
      have hcw := fun t' ht' => (HB.out.old.cell (p := ⟨B, off + k * 6 + t', none⟩) hB).trans (hcB t' ht')
      have c0 : wr.cell? ⟨B, off + k * 6, none⟩ = some (.slice ia xl.length ic) := hcw 0 (by decide)
      have c1 : wr.cell? ⟨B, off + k * 6 + 1, none⟩ = some (.int .i64 eop) := hcw 1 (by decide)
      have c2 : wr.cell? ⟨B, off + k * 6 + 2, none⟩ = some (.int .i64 ea) := hcw 2 (by decide)
      have c3 : wr.cell? ⟨B, off + k * 6 + 3, none⟩ = some (.int .i64 eb) := hcw 3 (by decide)
      have c4 : wr.cell? ⟨B, off + k * 6 + 4, none⟩ = some (.slice ta eto.length tc) := hcw 4 (by decide)
      have c5 : wr.cell? ⟨B, off + k * 6 + 5, none⟩ = some (.int .i32 eimm) := hcw 5 (by decide)
      have hB2 : B < wr.heap.size := Nat.lt_of_lt_of_le hB HB.out.old.size
      have HXI := Lib.hid (RowIn.keep PlIn.keep hok1 HB.out.old)
      have HTO := Lib.hid (hok2.keep HB.out.old)
      clear hcw hB hx hcB hok1 hok2
      obtain ⟨tn, htn⟩ : ∃ n, eto.length = n := ⟨_, rfl⟩
      rw [htn] at c4 htc HTO
      have HTN := Lib.hid htn
      clear htn
      obtain ⟨wo, rfl⟩ : ∃ wo : World, wo = wr := ⟨_, rfl⟩
      go_wp2_with fail
      obtain ⟨wb, hwb⟩ : ∃ x, x = (wo.alloc (.cells #[.slice ia xl.length ic, .int .i64 eop, .int .i64 ea, .int .i64 eb, .slice ta tn tc, .int .i32 eimm] 56)).alloc (.cells #[.slice none 0 0, .int .i64 eop, .int .i64 ea, .int .i64 eb, .slice ta tn tc, .int .i32 eimm] 56) := ⟨_, rfl⟩
      obtain ⟨B1, hB1⟩ : ∃ n, n = wb.heap.size := ⟨_, rfl⟩
      have hB1' : wo.heap.size + 2 ≤ B1 ∧ B1 ≤ wo.heap.size + 2 := by rw [hB1, hwb]; simp
      have hs0 : InsAt wo B1 #[.slice ia xl.length ic, .int .i64 eop, .int .i64 ea, .int .i64 eb, .slice ta tn tc, .int .i32 eimm] #[.slice none 0 0, .int .i64 eop, .int .i64 ea, .int .i64 eb, .slice ta tn tc, .int .i32 eimm] (.slice none 0 0) [] wb := by
        refine ⟨?_, ?_, OwnRow.nil _ _ _ _ _, fun x hx => (by cases hx), ?_, by omega⟩
        · rw [hwb]; exact (HeapIs.new _ _ _).keep ((Since.refl _).alloc _)
        · have h1 := HeapIs.new (wo.alloc (.cells #[.slice ia xl.length ic, .int .i64 eop, .int .i64 ea, .int .i64 eb, .slice ta tn tc, .int .i32 eimm] 56)) #[.slice none 0 0, .int .i64 eop, .int .i64 ea, .int .i64 eb, .slice ta tn tc, .int .i32 eimm] 56
          rw [show (wo.alloc (.cells #[.slice ia xl.length ic, .int .i64 eop, .int .i64 ea, .int .i64 eb, .slice ta tn tc, .int .i32 eimm] 56)).heap.size = wo.heap.size + 1 from by simp] at h1
          rw [hwb]
          exact h1
        · rw [hwb]; exact ((Since.refl _).alloc _).alloc _
      rw [← hwb]
      have HS0 := Lib.hid hs0
      clear hwb hB1 hs0 c0 c1 c2 c3 c4 c5 hB2 p3 pl
      go_loopw [7] (fun i wr => ∃ (t : Nat) (v : Value) (il : List PlV), (t ≤ xl.length ∧ t ≤ 12) ∧ i = .int .i64 t ∧ il.length = t ∧ InsAt wo B1 #[.slice ia xl.length ic, .int .i64 eop, .int .i64 ea, .int .i64 eb, .slice ta tn tc, .int .i32 eimm] #[v, .int .i64 eop, .int .i64 ea, .int .i64 eb, .slice ta tn tc, .int .i32 eimm] v il wr) (fun i _ => 12 - (intOf i).toNat)
      case atStart => exact ⟨0, _, [], ⟨Nat.zero_le _, Nat.zero_le _⟩, rfl, rfl, HS0.out⟩
      case round =>
        obtain ⟨t, v, il, ht, rfl, hil, hst⟩ := hrel
        obtain ⟨va, vc, hv⟩ := OwnRow.shape hst.row
        rw [hil] at hv
        subst hv
        have x0 := hst.x.cell 0
        have xl0 := hst.x.lt
        have HS := Lib.hid hst
        have HIL := Lib.hid hil
        clear hst hil
        by_cases hlt1 : t < xl.length
        rotate_right
        · have y4 := HS.out.x.cell 4
          by_cases h7 : tn ≤ 70
          · have hnm := nums_take (show Ints wr (.slice ta eto.length tc) eto from by rw [HTN.out]; exact HTO.out.keep HS.out.old) tn (by have := HTN.out; omega)
            have HNM := Lib.hid hnm
            clear hnm
            go_upto_region 15 with (
              at_builtin
              refine wpList_append_nums_turn (base := wr.heap.size) .i64 rfl _ _ 25 rfl 3 (.int .i64 0) 8 Try.underlying25 Try.info3 rfl (by decide) _ _ [] (eto.take tn) rfl rfl (own_empty (by simp) (by simp) _ _) (HNM.out.keep ((Since.refl _).alloc _)) (by rw [List.length_take]; simp; omega) (by simp) ?_
              intro v5 w5 hown5 ht5
              have hs5 : Since wr w5 := ht5.toSince ((Since.refl wr).alloc (.cells #[] 3)) fun q hq e => (by have := Option.some.inj e; simp at this; omega)
              rw [List.nil_append] at hown5
              obtain ⟨a5, c5, hv5⟩ := own_shape hown5
              rw [List.length_take, Nat.min_eq_left (by have := HTN.out; omega)] at hv5
              subst hv5
              have hi5 := HS.out.keep hs5
              have k7 := hi5.y.cell 4
              have kl := hi5.y.lt
              have kf := hi5.y.frozen
              have HP5 := Lib.hid (And.intro hi5 (And.intro hown5 hs5))
              clear hs5 hown5 ht5 hi5)
            obtain ⟨hi5, hown5, hs5⟩ := HP5.out
            have s5 : Turn (fun q => q = wo.heap.size + 1) w5 (w5.setCell ⟨wo.heap.size + 1, 4, none⟩ (.slice a5 tn c5)) := (Turn.refl (fun q => q = wo.heap.size + 1) w5).setCell (p := ⟨wo.heap.size + 1, 4, none⟩) rfl _
            have hy6 := hi5.y.set 4 (.slice a5 tn c5)
            have hab := HS.out.above
            have hown6 : ArR (wr.heap.size) (w5.setCell ⟨wo.heap.size + 1, 4, none⟩ (.slice a5 tn c5)) (.slice a5 tn c5) (eto.take tn) := own_turn hown5 s5 fun q hq e => (by have := (World.ownsRow.lt hown5 q hq).1; omega)
            have hrow6 := own_turn hi5.row s5 fun q hq e => (by have := (World.ownsRow.lt hi5.row q hq).1; omega)
            have hall6 : ∀ z ∈ il, PlOwn B1 (w5.setCell ⟨wo.heap.size + 1, 4, none⟩ (.slice a5 tn c5)) z := fun z hz => (hi5.all z hz).turn s5 fun q hq e => (by have := (World.ownsRow.lt (hi5.all z hz).1 q hq).1; omega)
            have hso6 := s5.toSince hi5.old fun q hq e => by omega
            generalize w5.setCell ⟨wo.heap.size + 1, 4, none⟩ (.slice a5 tn c5) = w6 at *
            have hy6 : HeapIs w6 (wo.heap.size + 1) #[.slice va t vc, .int .i64 eop, .int .i64 ea, .int .i64 eb, .slice a5 tn c5, .int .i32 eimm] 56 := hy6
            have hbk : BkOwn B0 w6 ⟨il, .slice va t vc, ⟨eop, ea, eb, eto.take tn, .slice a5 tn c5, eimm⟩⟩ := ⟨own_base hrow6 (by have := HB.out.above; omega), fun z hz => ⟨own_base (hall6 z hz).1 (by have := HB.out.above; omega), (hall6 z hz).2⟩, own_base hown6 (by have := HB.out.above; omega), by show il.length ≤ 12; rw [HIL.out]; omega⟩
            have hB6 := HB.out.keep hso6
            have y0 := hy6.cell 0
            have y1 := hy6.cell 1
            have y2 := hy6.cell 2
            have y3 := hy6.cell 3
            have y4 := hy6.cell 4
            have y5 := hy6.cell 5
            have yl := hy6.lt
            have o3 : w6.cell? ⟨w.heap.size + 1 + 1, 3, none⟩ = some (.slice ka k kc) := hB6.o.cell 3
            have ol : w.heap.size + 1 + 1 < w6.heap.size := hB6.o.lt
            have HB6 := Lib.hid hB6
            have HBK := Lib.hid hbk
            clear HP5 hi5 hown5 hs5 s5 hy6 hab hown6 hrow6 hall6 hso6 hbk hB6 k7 kl kf
            have HPN := Lib.hid (HeapIs.new w6 #[.slice va t vc, .int .i64 eop, .int .i64 ea, .int .i64 eb, .slice a5 tn c5, .int .i32 eimm] 56)
            go_wp2_with (
              at_builtin
              go_loud (
                refine wpList_append_turn (base := B0) blcells 6 blcells_len (by decide) rfl _ _ 22 rfl 56 bkZ 80 Try.underlying22 Try.infoBk rfl (.slice ka k kc) bl ⟨il, .slice va t vc, ⟨eop, ea, eb, eto.take tn, .slice a5 tn c5, eimm⟩⟩ w6.heap.size 1 56 rfl rfl (OwnRow.keep HB6.out.row ((Since.refl w6).alloc _)) HPN.out (by simp [blcells, Value.oneCell']) (by rw [HBLN.out]; unfold maxLen; omega) (by rw [HBLN.out]; omega) (by have := HB6.out.above.1; simp; omega) ?_
                intro v7 w7 hown7 ht7
                have hal := (Since.refl w6).alloc (.cells #[.slice va t vc, .int .i64 eop, .int .i64 ea, .int .i64 eb, .slice a5 tn c5, .int .i32 eimm] 56)
                have hi7 := (HB6.out.keep hal).more (HBK.out.keep hal) hown7 ht7
                have hy7 := (HB6.out.o.keep hal).turn ht7 (own_not (OwnRow.keep HB6.out.row hal) (HB6.out.o.keep hal) (by decide))
                obtain ⟨a7, c7, hv7⟩ := own_shape hown7
                rw [List.length_append, HBLN.out, List.length_singleton] at hv7
                subst hv7
                have q0 : w7.cell? ⟨w.heap.size + 1 + 1, 3, none⟩ = some (.slice ka k kc) := hy7.cell 3
                have ql : w.heap.size + 1 + 1 < w7.heap.size := hy7.lt
                have qf : ∀ i, w7.frozen? ⟨w.heap.size + 1 + 1, i, none⟩ = false := hy7.frozen
                have HI7 := Lib.hid hi7
                clear hi7 hy7 hown7 ht7 hal))
            go_roundw
            case rel =>
              have hl8 : (bl ++ [(⟨il, .slice va t vc, ⟨eop, ea, eb, eto.take tn, .slice a5 tn c5, eimm⟩⟩ : BlkV)]).length = k + 1 := by rw [List.length_append, HBLN.out]; rfl
              have hi9 : BksAt w w.heap.size B0 #[.int .i64 params, .int .i64 kk, .int .i64 slots, .slice (some ⟨B, off, none⟩) blocks.length bc] #[.int .i64 params, .int .i64 kk, .int .i64 slots, .slice a7 (k + 1) c7] (.slice a7 (k + 1) c7) (bl ++ [(⟨il, .slice va t vc, ⟨eop, ea, eb, eto.take tn, .slice a5 tn c5, eimm⟩⟩ : BlkV)]) (w7.setCell ⟨w.heap.size + 2, 3, none⟩ (.slice a7 (k + 1) c7)) := HI7.out
              have hle9 : k + 1 ≤ blocks.length ∧ k + 1 ≤ 6 := by omega
              have hn9 : Value.int .i64 ((k : Int) + 1) = .int .i64 ((k + 1 : Nat) : Int) := by go_num
              have hm9 : (k : Int) + 1 = ((k + 1 : Nat) : Int) := by omega
              first
              | exact ⟨k + 1, .slice a7 (k + 1) c7, _, hle9, hn9, hl8, hi9⟩
              | exact ⟨k + 1, hle9, hm9, .slice a7 (k + 1) c7, _, hl8, hi9⟩
              | ((repeat apply Exists.intro); exact ⟨⟨k + 1, .slice a7 (k + 1) c7, _, hle9, hn9, hl8, hi9⟩, rfl⟩)
            case measure => simp [intOf]; omega
          · have hnm := nums_take (show Ints wr (.slice ta eto.length tc) eto from by rw [HTN.out]; exact HTO.out.keep HS.out.old) 70 (by have := HTN.out; omega)
            have HNM := Lib.hid hnm
            clear hnm
            go_upto_region 15 with (
              at_builtin
              refine wpList_append_nums_turn (base := wr.heap.size) .i64 rfl _ _ 25 rfl 3 (.int .i64 0) 8 Try.underlying25 Try.info3 rfl (by decide) _ _ [] (eto.take 70) rfl rfl (own_empty (by simp) (by simp) _ _) (HNM.out.keep ((Since.refl _).alloc _)) (by rw [List.length_take]; simp; omega) (by simp) ?_
              intro v5 w5 hown5 ht5
              have hs5 : Since wr w5 := ht5.toSince ((Since.refl wr).alloc (.cells #[] 3)) fun q hq e => (by have := Option.some.inj e; simp at this; omega)
              rw [List.nil_append] at hown5
              obtain ⟨a5, c5, hv5⟩ := own_shape hown5
              rw [List.length_take, Nat.min_eq_left (by have := HTN.out; omega)] at hv5
              subst hv5
              have hi5 := HS.out.keep hs5
              have k7 := hi5.y.cell 4
              have kl := hi5.y.lt
              have kf := hi5.y.frozen
              have HP5 := Lib.hid (And.intro hi5 (And.intro hown5 hs5))
              clear hs5 hown5 ht5 hi5)
            obtain ⟨hi5, hown5, hs5⟩ := HP5.out
            have s5 : Turn (fun q => q = wo.heap.size + 1) w5 (w5.setCell ⟨wo.heap.size + 1, 4, none⟩ (.slice a5 70 c5)) := (Turn.refl (fun q => q = wo.heap.size + 1) w5).setCell (p := ⟨wo.heap.size + 1, 4, none⟩) rfl _
            have hy6 := hi5.y.set 4 (.slice a5 70 c5)
            have hab := HS.out.above
            have hown6 : ArR (wr.heap.size) (w5.setCell ⟨wo.heap.size + 1, 4, none⟩ (.slice a5 70 c5)) (.slice a5 70 c5) (eto.take 70) := own_turn hown5 s5 fun q hq e => (by have := (World.ownsRow.lt hown5 q hq).1; omega)
            have hrow6 := own_turn hi5.row s5 fun q hq e => (by have := (World.ownsRow.lt hi5.row q hq).1; omega)
            have hall6 : ∀ z ∈ il, PlOwn B1 (w5.setCell ⟨wo.heap.size + 1, 4, none⟩ (.slice a5 70 c5)) z := fun z hz => (hi5.all z hz).turn s5 fun q hq e => (by have := (World.ownsRow.lt (hi5.all z hz).1 q hq).1; omega)
            have hso6 := s5.toSince hi5.old fun q hq e => by omega
            generalize w5.setCell ⟨wo.heap.size + 1, 4, none⟩ (.slice a5 70 c5) = w6 at *
            have hy6 : HeapIs w6 (wo.heap.size + 1) #[.slice va t vc, .int .i64 eop, .int .i64 ea, .int .i64 eb, .slice a5 70 c5, .int .i32 eimm] 56 := hy6
            have hbk : BkOwn B0 w6 ⟨il, .slice va t vc, ⟨eop, ea, eb, eto.take 70, .slice a5 70 c5, eimm⟩⟩ := ⟨own_base hrow6 (by have := HB.out.above; omega), fun z hz => ⟨own_base (hall6 z hz).1 (by have := HB.out.above; omega), (hall6 z hz).2⟩, own_base hown6 (by have := HB.out.above; omega), by show il.length ≤ 12; rw [HIL.out]; omega⟩
            have hB6 := HB.out.keep hso6
            have y0 := hy6.cell 0
            have y1 := hy6.cell 1
            have y2 := hy6.cell 2
            have y3 := hy6.cell 3
            have y4 := hy6.cell 4
            have y5 := hy6.cell 5
            have yl := hy6.lt
            have o3 : w6.cell? ⟨w.heap.size + 1 + 1, 3, none⟩ = some (.slice ka k kc) := hB6.o.cell 3
            have ol : w.heap.size + 1 + 1 < w6.heap.size := hB6.o.lt
            have HB6 := Lib.hid hB6
            have HBK := Lib.hid hbk
            clear HP5 hi5 hown5 hs5 s5 hy6 hab hown6 hrow6 hall6 hso6 hbk hB6 k7 kl kf
            have HPN := Lib.hid (HeapIs.new w6 #[.slice va t vc, .int .i64 eop, .int .i64 ea, .int .i64 eb, .slice a5 70 c5, .int .i32 eimm] 56)
            go_wp2_with (
              at_builtin
              go_loud (
                refine wpList_append_turn (base := B0) blcells 6 blcells_len (by decide) rfl _ _ 22 rfl 56 bkZ 80 Try.underlying22 Try.infoBk rfl (.slice ka k kc) bl ⟨il, .slice va t vc, ⟨eop, ea, eb, eto.take 70, .slice a5 70 c5, eimm⟩⟩ w6.heap.size 1 56 rfl rfl (OwnRow.keep HB6.out.row ((Since.refl w6).alloc _)) HPN.out (by simp [blcells, Value.oneCell']) (by rw [HBLN.out]; unfold maxLen; omega) (by rw [HBLN.out]; omega) (by have := HB6.out.above.1; simp; omega) ?_
                intro v7 w7 hown7 ht7
                have hal := (Since.refl w6).alloc (.cells #[.slice va t vc, .int .i64 eop, .int .i64 ea, .int .i64 eb, .slice a5 70 c5, .int .i32 eimm] 56)
                have hi7 := (HB6.out.keep hal).more (HBK.out.keep hal) hown7 ht7
                have hy7 := (HB6.out.o.keep hal).turn ht7 (own_not (OwnRow.keep HB6.out.row hal) (HB6.out.o.keep hal) (by decide))
                obtain ⟨a7, c7, hv7⟩ := own_shape hown7
                rw [List.length_append, HBLN.out, List.length_singleton] at hv7
                subst hv7
                have q0 : w7.cell? ⟨w.heap.size + 1 + 1, 3, none⟩ = some (.slice ka k kc) := hy7.cell 3
                have ql : w.heap.size + 1 + 1 < w7.heap.size := hy7.lt
                have qf : ∀ i, w7.frozen? ⟨w.heap.size + 1 + 1, i, none⟩ = false := hy7.frozen
                have HI7 := Lib.hid hi7
                clear hi7 hy7 hown7 ht7 hal))
            go_roundw
            case rel =>
              have hl8 : (bl ++ [(⟨il, .slice va t vc, ⟨eop, ea, eb, eto.take 70, .slice a5 70 c5, eimm⟩⟩ : BlkV)]).length = k + 1 := by rw [List.length_append, HBLN.out]; rfl
              have hi9 : BksAt w w.heap.size B0 #[.int .i64 params, .int .i64 kk, .int .i64 slots, .slice (some ⟨B, off, none⟩) blocks.length bc] #[.int .i64 params, .int .i64 kk, .int .i64 slots, .slice a7 (k + 1) c7] (.slice a7 (k + 1) c7) (bl ++ [(⟨il, .slice va t vc, ⟨eop, ea, eb, eto.take 70, .slice a5 70 c5, eimm⟩⟩ : BlkV)]) (w7.setCell ⟨w.heap.size + 2, 3, none⟩ (.slice a7 (k + 1) c7)) := HI7.out
              have hle9 : k + 1 ≤ blocks.length ∧ k + 1 ≤ 6 := by omega
              have hn9 : Value.int .i64 ((k : Int) + 1) = .int .i64 ((k + 1 : Nat) : Int) := by go_num
              have hm9 : (k : Int) + 1 = ((k + 1 : Nat) : Int) := by omega
              first
              | exact ⟨k + 1, .slice a7 (k + 1) c7, _, hle9, hn9, hl8, hi9⟩
              | exact ⟨k + 1, hle9, hm9, .slice a7 (k + 1) c7, _, hl8, hi9⟩
              | ((repeat apply Exists.intro); exact ⟨⟨k + 1, .slice a7 (k + 1) c7, _, hle9, hn9, hl8, hi9⟩, rfl⟩)
            case measure => simp [intOf]; omega
        by_cases hlt2 : t < 12
        rotate_right
        · have y4 := HS.out.x.cell 4
          by_cases h7 : tn ≤ 70
          · have hnm := nums_take (show Ints wr (.slice ta eto.length tc) eto from by rw [HTN.out]; exact HTO.out.keep HS.out.old) tn (by have := HTN.out; omega)
            have HNM := Lib.hid hnm
            clear hnm
            go_upto_region 15 with (
              at_builtin
              refine wpList_append_nums_turn (base := wr.heap.size) .i64 rfl _ _ 25 rfl 3 (.int .i64 0) 8 Try.underlying25 Try.info3 rfl (by decide) _ _ [] (eto.take tn) rfl rfl (own_empty (by simp) (by simp) _ _) (HNM.out.keep ((Since.refl _).alloc _)) (by rw [List.length_take]; simp; omega) (by simp) ?_
              intro v5 w5 hown5 ht5
              have hs5 : Since wr w5 := ht5.toSince ((Since.refl wr).alloc (.cells #[] 3)) fun q hq e => (by have := Option.some.inj e; simp at this; omega)
              rw [List.nil_append] at hown5
              obtain ⟨a5, c5, hv5⟩ := own_shape hown5
              rw [List.length_take, Nat.min_eq_left (by have := HTN.out; omega)] at hv5
              subst hv5
              have hi5 := HS.out.keep hs5
              have k7 := hi5.y.cell 4
              have kl := hi5.y.lt
              have kf := hi5.y.frozen
              have HP5 := Lib.hid (And.intro hi5 (And.intro hown5 hs5))
              clear hs5 hown5 ht5 hi5)
            obtain ⟨hi5, hown5, hs5⟩ := HP5.out
            have s5 : Turn (fun q => q = wo.heap.size + 1) w5 (w5.setCell ⟨wo.heap.size + 1, 4, none⟩ (.slice a5 tn c5)) := (Turn.refl (fun q => q = wo.heap.size + 1) w5).setCell (p := ⟨wo.heap.size + 1, 4, none⟩) rfl _
            have hy6 := hi5.y.set 4 (.slice a5 tn c5)
            have hab := HS.out.above
            have hown6 : ArR (wr.heap.size) (w5.setCell ⟨wo.heap.size + 1, 4, none⟩ (.slice a5 tn c5)) (.slice a5 tn c5) (eto.take tn) := own_turn hown5 s5 fun q hq e => (by have := (World.ownsRow.lt hown5 q hq).1; omega)
            have hrow6 := own_turn hi5.row s5 fun q hq e => (by have := (World.ownsRow.lt hi5.row q hq).1; omega)
            have hall6 : ∀ z ∈ il, PlOwn B1 (w5.setCell ⟨wo.heap.size + 1, 4, none⟩ (.slice a5 tn c5)) z := fun z hz => (hi5.all z hz).turn s5 fun q hq e => (by have := (World.ownsRow.lt (hi5.all z hz).1 q hq).1; omega)
            have hso6 := s5.toSince hi5.old fun q hq e => by omega
            generalize w5.setCell ⟨wo.heap.size + 1, 4, none⟩ (.slice a5 tn c5) = w6 at *
            have hy6 : HeapIs w6 (wo.heap.size + 1) #[.slice va t vc, .int .i64 eop, .int .i64 ea, .int .i64 eb, .slice a5 tn c5, .int .i32 eimm] 56 := hy6
            have hbk : BkOwn B0 w6 ⟨il, .slice va t vc, ⟨eop, ea, eb, eto.take tn, .slice a5 tn c5, eimm⟩⟩ := ⟨own_base hrow6 (by have := HB.out.above; omega), fun z hz => ⟨own_base (hall6 z hz).1 (by have := HB.out.above; omega), (hall6 z hz).2⟩, own_base hown6 (by have := HB.out.above; omega), by show il.length ≤ 12; rw [HIL.out]; omega⟩
            have hB6 := HB.out.keep hso6
            have y0 := hy6.cell 0
            have y1 := hy6.cell 1
            have y2 := hy6.cell 2
            have y3 := hy6.cell 3
            have y4 := hy6.cell 4
            have y5 := hy6.cell 5
            have yl := hy6.lt
            have o3 : w6.cell? ⟨w.heap.size + 1 + 1, 3, none⟩ = some (.slice ka k kc) := hB6.o.cell 3
            have ol : w.heap.size + 1 + 1 < w6.heap.size := hB6.o.lt
            have HB6 := Lib.hid hB6
            have HBK := Lib.hid hbk
            clear HP5 hi5 hown5 hs5 s5 hy6 hab hown6 hrow6 hall6 hso6 hbk hB6 k7 kl kf
            have HPN := Lib.hid (HeapIs.new w6 #[.slice va t vc, .int .i64 eop, .int .i64 ea, .int .i64 eb, .slice a5 tn c5, .int .i32 eimm] 56)
            go_wp2_with (
              at_builtin
              go_loud (
                refine wpList_append_turn (base := B0) blcells 6 blcells_len (by decide) rfl _ _ 22 rfl 56 bkZ 80 Try.underlying22 Try.infoBk rfl (.slice ka k kc) bl ⟨il, .slice va t vc, ⟨eop, ea, eb, eto.take tn, .slice a5 tn c5, eimm⟩⟩ w6.heap.size 1 56 rfl rfl (OwnRow.keep HB6.out.row ((Since.refl w6).alloc _)) HPN.out (by simp [blcells, Value.oneCell']) (by rw [HBLN.out]; unfold maxLen; omega) (by rw [HBLN.out]; omega) (by have := HB6.out.above.1; simp; omega) ?_
                intro v7 w7 hown7 ht7
                have hal := (Since.refl w6).alloc (.cells #[.slice va t vc, .int .i64 eop, .int .i64 ea, .int .i64 eb, .slice a5 tn c5, .int .i32 eimm] 56)
                have hi7 := (HB6.out.keep hal).more (HBK.out.keep hal) hown7 ht7
                have hy7 := (HB6.out.o.keep hal).turn ht7 (own_not (OwnRow.keep HB6.out.row hal) (HB6.out.o.keep hal) (by decide))
                obtain ⟨a7, c7, hv7⟩ := own_shape hown7
                rw [List.length_append, HBLN.out, List.length_singleton] at hv7
                subst hv7
                have q0 : w7.cell? ⟨w.heap.size + 1 + 1, 3, none⟩ = some (.slice ka k kc) := hy7.cell 3
                have ql : w.heap.size + 1 + 1 < w7.heap.size := hy7.lt
                have qf : ∀ i, w7.frozen? ⟨w.heap.size + 1 + 1, i, none⟩ = false := hy7.frozen
                have HI7 := Lib.hid hi7
                clear hi7 hy7 hown7 ht7 hal))
            go_roundw
            case rel =>
              have hl8 : (bl ++ [(⟨il, .slice va t vc, ⟨eop, ea, eb, eto.take tn, .slice a5 tn c5, eimm⟩⟩ : BlkV)]).length = k + 1 := by rw [List.length_append, HBLN.out]; rfl
              have hi9 : BksAt w w.heap.size B0 #[.int .i64 params, .int .i64 kk, .int .i64 slots, .slice (some ⟨B, off, none⟩) blocks.length bc] #[.int .i64 params, .int .i64 kk, .int .i64 slots, .slice a7 (k + 1) c7] (.slice a7 (k + 1) c7) (bl ++ [(⟨il, .slice va t vc, ⟨eop, ea, eb, eto.take tn, .slice a5 tn c5, eimm⟩⟩ : BlkV)]) (w7.setCell ⟨w.heap.size + 2, 3, none⟩ (.slice a7 (k + 1) c7)) := HI7.out
              have hle9 : k + 1 ≤ blocks.length ∧ k + 1 ≤ 6 := by omega
              have hn9 : Value.int .i64 ((k : Int) + 1) = .int .i64 ((k + 1 : Nat) : Int) := by go_num
              have hm9 : (k : Int) + 1 = ((k + 1 : Nat) : Int) := by omega
              first
              | exact ⟨k + 1, .slice a7 (k + 1) c7, _, hle9, hn9, hl8, hi9⟩
              | exact ⟨k + 1, hle9, hm9, .slice a7 (k + 1) c7, _, hl8, hi9⟩
              | ((repeat apply Exists.intro); exact ⟨⟨k + 1, .slice a7 (k + 1) c7, _, hle9, hn9, hl8, hi9⟩, rfl⟩)
            case measure => simp [intOf]; omega
          · have hnm := nums_take (show Ints wr (.slice ta eto.length tc) eto from by rw [HTN.out]; exact HTO.out.keep HS.out.old) 70 (by have := HTN.out; omega)
            have HNM := Lib.hid hnm
            clear hnm
            go_upto_region 15 with (
              at_builtin
              refine wpList_append_nums_turn (base := wr.heap.size) .i64 rfl _ _ 25 rfl 3 (.int .i64 0) 8 Try.underlying25 Try.info3 rfl (by decide) _ _ [] (eto.take 70) rfl rfl (own_empty (by simp) (by simp) _ _) (HNM.out.keep ((Since.refl _).alloc _)) (by rw [List.length_take]; simp; omega) (by simp) ?_
              intro v5 w5 hown5 ht5
              have hs5 : Since wr w5 := ht5.toSince ((Since.refl wr).alloc (.cells #[] 3)) fun q hq e => (by have := Option.some.inj e; simp at this; omega)
              rw [List.nil_append] at hown5
              obtain ⟨a5, c5, hv5⟩ := own_shape hown5
              rw [List.length_take, Nat.min_eq_left (by have := HTN.out; omega)] at hv5
              subst hv5
              have hi5 := HS.out.keep hs5
              have k7 := hi5.y.cell 4
              have kl := hi5.y.lt
              have kf := hi5.y.frozen
              have HP5 := Lib.hid (And.intro hi5 (And.intro hown5 hs5))
              clear hs5 hown5 ht5 hi5)
            obtain ⟨hi5, hown5, hs5⟩ := HP5.out
            have s5 : Turn (fun q => q = wo.heap.size + 1) w5 (w5.setCell ⟨wo.heap.size + 1, 4, none⟩ (.slice a5 70 c5)) := (Turn.refl (fun q => q = wo.heap.size + 1) w5).setCell (p := ⟨wo.heap.size + 1, 4, none⟩) rfl _
            have hy6 := hi5.y.set 4 (.slice a5 70 c5)
            have hab := HS.out.above
            have hown6 : ArR (wr.heap.size) (w5.setCell ⟨wo.heap.size + 1, 4, none⟩ (.slice a5 70 c5)) (.slice a5 70 c5) (eto.take 70) := own_turn hown5 s5 fun q hq e => (by have := (World.ownsRow.lt hown5 q hq).1; omega)
            have hrow6 := own_turn hi5.row s5 fun q hq e => (by have := (World.ownsRow.lt hi5.row q hq).1; omega)
            have hall6 : ∀ z ∈ il, PlOwn B1 (w5.setCell ⟨wo.heap.size + 1, 4, none⟩ (.slice a5 70 c5)) z := fun z hz => (hi5.all z hz).turn s5 fun q hq e => (by have := (World.ownsRow.lt (hi5.all z hz).1 q hq).1; omega)
            have hso6 := s5.toSince hi5.old fun q hq e => by omega
            generalize w5.setCell ⟨wo.heap.size + 1, 4, none⟩ (.slice a5 70 c5) = w6 at *
            have hy6 : HeapIs w6 (wo.heap.size + 1) #[.slice va t vc, .int .i64 eop, .int .i64 ea, .int .i64 eb, .slice a5 70 c5, .int .i32 eimm] 56 := hy6
            have hbk : BkOwn B0 w6 ⟨il, .slice va t vc, ⟨eop, ea, eb, eto.take 70, .slice a5 70 c5, eimm⟩⟩ := ⟨own_base hrow6 (by have := HB.out.above; omega), fun z hz => ⟨own_base (hall6 z hz).1 (by have := HB.out.above; omega), (hall6 z hz).2⟩, own_base hown6 (by have := HB.out.above; omega), by show il.length ≤ 12; rw [HIL.out]; omega⟩
            have hB6 := HB.out.keep hso6
            have y0 := hy6.cell 0
            have y1 := hy6.cell 1
            have y2 := hy6.cell 2
            have y3 := hy6.cell 3
            have y4 := hy6.cell 4
            have y5 := hy6.cell 5
            have yl := hy6.lt
            have o3 : w6.cell? ⟨w.heap.size + 1 + 1, 3, none⟩ = some (.slice ka k kc) := hB6.o.cell 3
            have ol : w.heap.size + 1 + 1 < w6.heap.size := hB6.o.lt
            have HB6 := Lib.hid hB6
            have HBK := Lib.hid hbk
            clear HP5 hi5 hown5 hs5 s5 hy6 hab hown6 hrow6 hall6 hso6 hbk hB6 k7 kl kf
            have HPN := Lib.hid (HeapIs.new w6 #[.slice va t vc, .int .i64 eop, .int .i64 ea, .int .i64 eb, .slice a5 70 c5, .int .i32 eimm] 56)
            go_wp2_with (
              at_builtin
              go_loud (
                refine wpList_append_turn (base := B0) blcells 6 blcells_len (by decide) rfl _ _ 22 rfl 56 bkZ 80 Try.underlying22 Try.infoBk rfl (.slice ka k kc) bl ⟨il, .slice va t vc, ⟨eop, ea, eb, eto.take 70, .slice a5 70 c5, eimm⟩⟩ w6.heap.size 1 56 rfl rfl (OwnRow.keep HB6.out.row ((Since.refl w6).alloc _)) HPN.out (by simp [blcells, Value.oneCell']) (by rw [HBLN.out]; unfold maxLen; omega) (by rw [HBLN.out]; omega) (by have := HB6.out.above.1; simp; omega) ?_
                intro v7 w7 hown7 ht7
                have hal := (Since.refl w6).alloc (.cells #[.slice va t vc, .int .i64 eop, .int .i64 ea, .int .i64 eb, .slice a5 70 c5, .int .i32 eimm] 56)
                have hi7 := (HB6.out.keep hal).more (HBK.out.keep hal) hown7 ht7
                have hy7 := (HB6.out.o.keep hal).turn ht7 (own_not (OwnRow.keep HB6.out.row hal) (HB6.out.o.keep hal) (by decide))
                obtain ⟨a7, c7, hv7⟩ := own_shape hown7
                rw [List.length_append, HBLN.out, List.length_singleton] at hv7
                subst hv7
                have q0 : w7.cell? ⟨w.heap.size + 1 + 1, 3, none⟩ = some (.slice ka k kc) := hy7.cell 3
                have ql : w.heap.size + 1 + 1 < w7.heap.size := hy7.lt
                have qf : ∀ i, w7.frozen? ⟨w.heap.size + 1 + 1, i, none⟩ = false := hy7.frozen
                have HI7 := Lib.hid hi7
                clear hi7 hy7 hown7 ht7 hal))
            go_roundw
            case rel =>
              have hl8 : (bl ++ [(⟨il, .slice va t vc, ⟨eop, ea, eb, eto.take 70, .slice a5 70 c5, eimm⟩⟩ : BlkV)]).length = k + 1 := by rw [List.length_append, HBLN.out]; rfl
              have hi9 : BksAt w w.heap.size B0 #[.int .i64 params, .int .i64 kk, .int .i64 slots, .slice (some ⟨B, off, none⟩) blocks.length bc] #[.int .i64 params, .int .i64 kk, .int .i64 slots, .slice a7 (k + 1) c7] (.slice a7 (k + 1) c7) (bl ++ [(⟨il, .slice va t vc, ⟨eop, ea, eb, eto.take 70, .slice a5 70 c5, eimm⟩⟩ : BlkV)]) (w7.setCell ⟨w.heap.size + 2, 3, none⟩ (.slice a7 (k + 1) c7)) := HI7.out
              have hle9 : k + 1 ≤ blocks.length ∧ k + 1 ≤ 6 := by omega
              have hn9 : Value.int .i64 ((k : Int) + 1) = .int .i64 ((k + 1 : Nat) : Int) := by go_num
              have hm9 : (k : Int) + 1 = ((k + 1 : Nat) : Int) := by omega
              first
              | exact ⟨k + 1, .slice a7 (k + 1) c7, _, hle9, hn9, hl8, hi9⟩
              | exact ⟨k + 1, hle9, hm9, .slice a7 (k + 1) c7, _, hl8, hi9⟩
              | ((repeat apply Exists.intro); exact ⟨⟨k + 1, .slice a7 (k + 1) c7, _, hle9, hn9, hl8, hi9⟩, rfl⟩)
            case measure => simp [intOf]; omega
        · have hd3 : decide ((t : Int) < (xl.length : Int)) = true := decide_eq_true (by omega)
          have hd4 : decide ((t : Int) < 12) = true := decide_eq_true (by omega)
          obtain ⟨MB, moff, x, rfl, hMB, hx, hcM, hokM⟩ := RowIn.at HXI.out hlt1
          obtain ⟨m, av, src⟩ := x
          obtain ⟨hokM1, hokM2⟩ := hokM
          dsimp only at hokM1 hokM2
          obtain ⟨aa, ac, rfl⟩ := nums_lenI hokM1
          have hac : m.args.length ≤ ac := (nums_caps hokM1).2.1
          have hac2 : ac ≤ 9223372036854775807 := (nums_caps hokM1).2.2
          have hcw := fun t' ht' => (HS.out.old.cell (p := ⟨MB, moff + t * 9 + t', none⟩) hMB).trans (hcM t' ht')
          have m0 : wr.cell? ⟨MB, moff + t * 9, none⟩ = some (.int .i64 m.op) := hcw 0 (by decide)
          have m1 : wr.cell? ⟨MB, moff + t * 9 + 1, none⟩ = some (.int .i64 m.d) := hcw 1 (by decide)
          have m2 : wr.cell? ⟨MB, moff + t * 9 + 2, none⟩ = some (.int .i64 m.e) := hcw 2 (by decide)
          have m3 : wr.cell? ⟨MB, moff + t * 9 + 3, none⟩ = some (.int .i64 m.a) := hcw 3 (by decide)
          have m4 : wr.cell? ⟨MB, moff + t * 9 + 4, none⟩ = some (.int .i64 m.b) := hcw 4 (by decide)
          have m5 : wr.cell? ⟨MB, moff + t * 9 + 5, none⟩ = some (.int .i64 m.c) := hcw 5 (by decide)
          have m6 : wr.cell? ⟨MB, moff + t * 9 + 6, none⟩ = some (.int .i32 m.imm) := hcw 6 (by decide)
          have m7 : wr.cell? ⟨MB, moff + t * 9 + 7, none⟩ = some (.slice aa m.args.length ac) := hcw 7 (by decide)
          have m8 : wr.cell? ⟨MB, moff + t * 9 + 8, none⟩ = some (.int .i64 src) := hcw 8 (by decide)
          have hMB2 : MB < wr.heap.size := Nat.lt_of_lt_of_le hMB HS.out.old.size
          have HM := Lib.hid hokM1
          have HFI := Lib.hid hokM2
          clear hcw hMB hx hcM hokM1 hokM2
          obtain ⟨n, hn⟩ : ∃ n, m.args.length = n := ⟨_, rfl⟩
          rw [hn] at m7 hac HM
          have HN := Lib.hid hn
          clear hn
          by_cases h6 : n ≤ 6
          · have hnm := nums_take (show Ints wr (.slice aa m.args.length ac) m.args from by rw [HN.out]; exact HM.out.keep HS.out.old) n (by have := HN.out; omega)
            have HNM := Lib.hid hnm
            clear hnm
            go_upto_region 13 with (
              at_builtin
              refine wpList_append_nums_turn (base := wr.heap.size + 1) .i64 rfl _ _ 25 rfl 3 (.int .i64 0) 8 Try.underlying25 Try.info3 rfl (by decide) _ _ [] (m.args.take n) rfl rfl (own_empty (by simp) (by simp) _ _) (HNM.out.keep (((Since.refl _).alloc _).alloc _)) (by rw [List.length_take]; simp; omega) (by simp) ?_
              intro v5 w5 hown5 ht5
              have ha := ((Since.refl wr).alloc (.cells #[.int .i64 m.op, .int .i64 m.d, .int .i64 m.e, .int .i64 m.a, .int .i64 m.b, .int .i64 m.c, .int .i32 m.imm, .slice aa n ac, .int .i64 src] 58)).alloc (.cells #[] 3)
              have hs5 : Since wr w5 := Since.trans (ht5.toSince ha fun q hq e => (by have := Option.some.inj e; simp at this; omega)) (Since.refl _)
              have hsb : HeapIs w5 wr.heap.size #[.int .i64 m.op, .int .i64 m.d, .int .i64 m.e, .int .i64 m.a, .int .i64 m.b, .int .i64 m.c, .int .i32 m.imm, .slice aa n ac, .int .i64 src] 58 := ((HeapIs.new wr #[.int .i64 m.op, .int .i64 m.d, .int .i64 m.e, .int .i64 m.a, .int .i64 m.b, .int .i64 m.c, .int .i32 m.imm, .slice aa n ac, .int .i64 src] 58).keep ((Since.refl _).alloc _)).turn ht5 fun e => (by have := Option.some.inj e; simp at this)
              rw [List.nil_append] at hown5
              obtain ⟨a5, c5, hv5⟩ := own_shape hown5
              rw [List.length_take, Nat.min_eq_left (by have := HN.out; omega)] at hv5
              subst hv5
              have HP5 := Lib.hid (And.intro hs5 (And.intro hsb hown5))
              have k7 := hsb.cell 7
              have kl := hsb.lt
              have kf := hsb.frozen
              clear ha hs5 hsb hown5 ht5)
            obtain ⟨hs5, hsb5, hown5⟩ := HP5.out
            have hins5 := HS.out.keep hs5
            have s5 : Turn (fun q => q = wr.heap.size) w5 (w5.setCell ⟨wr.heap.size, 7, none⟩ (.slice a5 n c5)) := (Turn.refl (fun q => q = wr.heap.size) w5).setCell (p := ⟨wr.heap.size, 7, none⟩) rfl _
            have hsb6 := hsb5.set 7 (.slice a5 n c5)
            have hown6 : ArR (wr.heap.size + 1) (w5.setCell ⟨wr.heap.size, 7, none⟩ (.slice a5 n c5)) (.slice a5 n c5) (m.args.take n) := own_turn hown5 s5 fun q hq e => (by have := (World.ownsRow.lt hown5 q hq).1; omega)
            have hins6 := hins5.turn s5 (fun q e => ⟨_, (show q = wr.heap.size from e) ▸ hsb5⟩) (fun q hq e => by have := (World.ownsRow.lt HS.out.row q hq).2; omega) (fun q e => by have := HS.out.above; omega)
            generalize w5.setCell ⟨wr.heap.size, 7, none⟩ (.slice a5 n c5) = w6 at *
            have hsb6 : HeapIs w6 wr.heap.size #[.int .i64 m.op, .int .i64 m.d, .int .i64 m.e, .int .i64 m.a, .int .i64 m.b, .int .i64 m.c, .int .i32 m.imm, .slice a5 n c5, .int .i64 src] 58 := hsb6
            have y0 := hins6.y.cell 0
            have yl := hins6.y.lt
            have z0 := hsb6.cell 0
            have z1 := hsb6.cell 1
            have z2 := hsb6.cell 2
            have z3 := hsb6.cell 3
            have z4 := hsb6.cell 4
            have z5 := hsb6.cell 5
            have z6 := hsb6.cell 6
            have z7 := hsb6.cell 7
            have z8 := hsb6.cell 8
            have zl := hsb6.lt
            have hpl : PlOwn B1 w6 ⟨{ m with args := m.args.take n }, .slice a5 n c5, src⟩ := ⟨own_base hown6 (by have := HS.out.above; omega), HFI.out.1, HFI.out.2, by show (m.args.take n).length ≤ 1000; rw [List.length_take]; omega⟩
            have HI6 := Lib.hid hins6
            have HPL := Lib.hid hpl
            clear HP5 hs5 hsb5 hown5 hins5 s5 hsb6 hown6 hins6 hpl k7 kl kf
            have HPN := Lib.hid (HeapIs.new w6 #[.int .i64 m.op, .int .i64 m.d, .int .i64 m.e, .int .i64 m.a, .int .i64 m.b, .int .i64 m.c, .int .i32 m.imm, .slice a5 n c5, .int .i64 src] 58)
            go_wp2_with (
              at_builtin
              go_loud (
                refine wpList_append_turn (base := B1) plcells 9 plcells_len (by decide) rfl _ _ 54 rfl 58 plZ2 88 Try.underlying54 Try.infoPl2 rfl (.slice va t vc) il ⟨{ m with args := m.args.take n }, .slice a5 n c5, src⟩ w6.heap.size 1 58 rfl rfl (OwnRow.keep HI6.out.row ((Since.refl w6).alloc _)) HPN.out (by simp [plcells, Value.oneCell']) (by rw [HIL.out]; unfold maxLen; omega) (by rw [HIL.out]; omega) (by have := HI6.out.above.1; simp; omega) ?_
                intro v7 w7 hown7 ht7
                have hal := (Since.refl w6).alloc (.cells #[.int .i64 m.op, .int .i64 m.d, .int .i64 m.e, .int .i64 m.a, .int .i64 m.b, .int .i64 m.c, .int .i32 m.imm, .slice a5 n c5, .int .i64 src] 58)
                have hi7 := (HI6.out.keep hal).more (HPL.out.keep hal) hown7 ht7
                have hy7 := (HI6.out.y.keep hal).turn ht7 (own_not (OwnRow.keep HI6.out.row hal) (HI6.out.y.keep hal) (by decide))
                obtain ⟨a7, c7, hv7⟩ := own_shape hown7
                rw [List.length_append, HIL.out, List.length_singleton] at hv7
                subst hv7
                have q0 := hy7.cell 0
                have ql := hy7.lt
                have qf := hy7.frozen
                have HI7 := Lib.hid hi7
                clear hi7 hy7 hown7 ht7 hal))
            go_roundw
            case rel =>
              have hl8 : (il ++ [(⟨{ m with args := m.args.take n }, .slice a5 n c5, src⟩ : PlV)]).length = t + 1 := by rw [List.length_append, HIL.out]; rfl
              have hi9 : InsAt wo B1 #[.slice (some ⟨MB, moff, none⟩) xl.length ic, .int .i64 eop, .int .i64 ea, .int .i64 eb, .slice ta tn tc, .int .i32 eimm] #[.slice a7 (t + 1) c7, .int .i64 eop, .int .i64 ea, .int .i64 eb, .slice ta tn tc, .int .i32 eimm] (.slice a7 (t + 1) c7) (il ++ [(⟨{ m with args := m.args.take n }, .slice a5 n c5, src⟩ : PlV)]) (w7.setCell ⟨wo.heap.size + 1, 0, none⟩ (.slice a7 (t + 1) c7)) := HI7.out
              have hle9 : t + 1 ≤ xl.length ∧ t + 1 ≤ 12 := by omega
              have hn9 : Value.int .i64 ((t : Int) + 1) = .int .i64 ((t + 1 : Nat) : Int) := by go_num
              have hm9 : (t : Int) + 1 = ((t + 1 : Nat) : Int) := by omega
              first
              | exact ⟨t + 1, .slice a7 (t + 1) c7, _, hle9, hn9, hl8, hi9⟩
              | exact ⟨t + 1, hle9, hm9, .slice a7 (t + 1) c7, _, hl8, hi9⟩
              | ((repeat apply Exists.intro); exact ⟨⟨t + 1, .slice a7 (t + 1) c7, _, hle9, hn9, hl8, hi9⟩, rfl⟩)
            case measure => simp [intOf]; omega
          · have hnm := nums_take (show Ints wr (.slice aa m.args.length ac) m.args from by rw [HN.out]; exact HM.out.keep HS.out.old) 6 (by have := HN.out; omega)
            have HNM := Lib.hid hnm
            clear hnm
            go_upto_region 13 with (
              at_builtin
              refine wpList_append_nums_turn (base := wr.heap.size + 1) .i64 rfl _ _ 25 rfl 3 (.int .i64 0) 8 Try.underlying25 Try.info3 rfl (by decide) _ _ [] (m.args.take 6) rfl rfl (own_empty (by simp) (by simp) _ _) (HNM.out.keep (((Since.refl _).alloc _).alloc _)) (by rw [List.length_take]; simp; omega) (by simp) ?_
              intro v5 w5 hown5 ht5
              have ha := ((Since.refl wr).alloc (.cells #[.int .i64 m.op, .int .i64 m.d, .int .i64 m.e, .int .i64 m.a, .int .i64 m.b, .int .i64 m.c, .int .i32 m.imm, .slice aa n ac, .int .i64 src] 58)).alloc (.cells #[] 3)
              have hs5 : Since wr w5 := Since.trans (ht5.toSince ha fun q hq e => (by have := Option.some.inj e; simp at this; omega)) (Since.refl _)
              have hsb : HeapIs w5 wr.heap.size #[.int .i64 m.op, .int .i64 m.d, .int .i64 m.e, .int .i64 m.a, .int .i64 m.b, .int .i64 m.c, .int .i32 m.imm, .slice aa n ac, .int .i64 src] 58 := ((HeapIs.new wr #[.int .i64 m.op, .int .i64 m.d, .int .i64 m.e, .int .i64 m.a, .int .i64 m.b, .int .i64 m.c, .int .i32 m.imm, .slice aa n ac, .int .i64 src] 58).keep ((Since.refl _).alloc _)).turn ht5 fun e => (by have := Option.some.inj e; simp at this)
              rw [List.nil_append] at hown5
              obtain ⟨a5, c5, hv5⟩ := own_shape hown5
              rw [List.length_take, Nat.min_eq_left (by have := HN.out; omega)] at hv5
              subst hv5
              have HP5 := Lib.hid (And.intro hs5 (And.intro hsb hown5))
              have k7 := hsb.cell 7
              have kl := hsb.lt
              have kf := hsb.frozen
              clear ha hs5 hsb hown5 ht5)
            obtain ⟨hs5, hsb5, hown5⟩ := HP5.out
            have hins5 := HS.out.keep hs5
            have s5 : Turn (fun q => q = wr.heap.size) w5 (w5.setCell ⟨wr.heap.size, 7, none⟩ (.slice a5 6 c5)) := (Turn.refl (fun q => q = wr.heap.size) w5).setCell (p := ⟨wr.heap.size, 7, none⟩) rfl _
            have hsb6 := hsb5.set 7 (.slice a5 6 c5)
            have hown6 : ArR (wr.heap.size + 1) (w5.setCell ⟨wr.heap.size, 7, none⟩ (.slice a5 6 c5)) (.slice a5 6 c5) (m.args.take 6) := own_turn hown5 s5 fun q hq e => (by have := (World.ownsRow.lt hown5 q hq).1; omega)
            have hins6 := hins5.turn s5 (fun q e => ⟨_, (show q = wr.heap.size from e) ▸ hsb5⟩) (fun q hq e => by have := (World.ownsRow.lt HS.out.row q hq).2; omega) (fun q e => by have := HS.out.above; omega)
            generalize w5.setCell ⟨wr.heap.size, 7, none⟩ (.slice a5 6 c5) = w6 at *
            have hsb6 : HeapIs w6 wr.heap.size #[.int .i64 m.op, .int .i64 m.d, .int .i64 m.e, .int .i64 m.a, .int .i64 m.b, .int .i64 m.c, .int .i32 m.imm, .slice a5 6 c5, .int .i64 src] 58 := hsb6
            have y0 := hins6.y.cell 0
            have yl := hins6.y.lt
            have z0 := hsb6.cell 0
            have z1 := hsb6.cell 1
            have z2 := hsb6.cell 2
            have z3 := hsb6.cell 3
            have z4 := hsb6.cell 4
            have z5 := hsb6.cell 5
            have z6 := hsb6.cell 6
            have z7 := hsb6.cell 7
            have z8 := hsb6.cell 8
            have zl := hsb6.lt
            have hpl : PlOwn B1 w6 ⟨{ m with args := m.args.take 6 }, .slice a5 6 c5, src⟩ := ⟨own_base hown6 (by have := HS.out.above; omega), HFI.out.1, HFI.out.2, by show (m.args.take 6).length ≤ 1000; rw [List.length_take]; omega⟩
            have HI6 := Lib.hid hins6
            have HPL := Lib.hid hpl
            clear HP5 hs5 hsb5 hown5 hins5 s5 hsb6 hown6 hins6 hpl k7 kl kf
            have HPN := Lib.hid (HeapIs.new w6 #[.int .i64 m.op, .int .i64 m.d, .int .i64 m.e, .int .i64 m.a, .int .i64 m.b, .int .i64 m.c, .int .i32 m.imm, .slice a5 6 c5, .int .i64 src] 58)
            go_wp2_with (
              at_builtin
              go_loud (
                refine wpList_append_turn (base := B1) plcells 9 plcells_len (by decide) rfl _ _ 54 rfl 58 plZ2 88 Try.underlying54 Try.infoPl2 rfl (.slice va t vc) il ⟨{ m with args := m.args.take 6 }, .slice a5 6 c5, src⟩ w6.heap.size 1 58 rfl rfl (OwnRow.keep HI6.out.row ((Since.refl w6).alloc _)) HPN.out (by simp [plcells, Value.oneCell']) (by rw [HIL.out]; unfold maxLen; omega) (by rw [HIL.out]; omega) (by have := HI6.out.above.1; simp; omega) ?_
                intro v7 w7 hown7 ht7
                have hal := (Since.refl w6).alloc (.cells #[.int .i64 m.op, .int .i64 m.d, .int .i64 m.e, .int .i64 m.a, .int .i64 m.b, .int .i64 m.c, .int .i32 m.imm, .slice a5 6 c5, .int .i64 src] 58)
                have hi7 := (HI6.out.keep hal).more (HPL.out.keep hal) hown7 ht7
                have hy7 := (HI6.out.y.keep hal).turn ht7 (own_not (OwnRow.keep HI6.out.row hal) (HI6.out.y.keep hal) (by decide))
                obtain ⟨a7, c7, hv7⟩ := own_shape hown7
                rw [List.length_append, HIL.out, List.length_singleton] at hv7
                subst hv7
                have q0 := hy7.cell 0
                have ql := hy7.lt
                have qf := hy7.frozen
                have HI7 := Lib.hid hi7
                clear hi7 hy7 hown7 ht7 hal))
            go_roundw
            case rel =>
              have hl8 : (il ++ [(⟨{ m with args := m.args.take 6 }, .slice a5 6 c5, src⟩ : PlV)]).length = t + 1 := by rw [List.length_append, HIL.out]; rfl
              have hi9 : InsAt wo B1 #[.slice (some ⟨MB, moff, none⟩) xl.length ic, .int .i64 eop, .int .i64 ea, .int .i64 eb, .slice ta tn tc, .int .i32 eimm] #[.slice a7 (t + 1) c7, .int .i64 eop, .int .i64 ea, .int .i64 eb, .slice ta tn tc, .int .i32 eimm] (.slice a7 (t + 1) c7) (il ++ [(⟨{ m with args := m.args.take 6 }, .slice a5 6 c5, src⟩ : PlV)]) (w7.setCell ⟨wo.heap.size + 1, 0, none⟩ (.slice a7 (t + 1) c7)) := HI7.out
              have hle9 : t + 1 ≤ xl.length ∧ t + 1 ≤ 12 := by omega
              have hn9 : Value.int .i64 ((t : Int) + 1) = .int .i64 ((t + 1 : Nat) : Int) := by go_num
              have hm9 : (t : Int) + 1 = ((t + 1 : Nat) : Int) := by omega
              first
              | exact ⟨t + 1, .slice a7 (t + 1) c7, _, hle9, hn9, hl8, hi9⟩
              | exact ⟨t + 1, hle9, hm9, .slice a7 (t + 1) c7, _, hl8, hi9⟩
              | ((repeat apply Exists.intro); exact ⟨⟨t + 1, .slice a7 (t + 1) c7, _, hle9, hn9, hl8, hi9⟩, rfl⟩)
            case measure => simp [intOf]; omega
end Go.Proofs.Ytkpbmbhejpmboaa
