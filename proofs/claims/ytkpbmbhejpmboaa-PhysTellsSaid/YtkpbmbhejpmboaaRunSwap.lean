/- phys.swap.do. -/
import Derived.Test.YtkpbmbhejpmboaaRunState
import Derived.Test.YtkpbmbhejpmboaaRegion5
namespace Go.Proofs.Ytkpbmbhejpmboaa
open Go.RowKit
set_option linter.unusedVariables false

def MPtr (c : Cfg) : Value := .pointer (some ⟨c.mb, 0, none⟩)
/-- What a worker leaves. -/
def Bz (c : Cfg) (cv : Value) (q : Nat) : Prop := Busy c q ∨ cv.ownBlock = some q
def DoQ (c : Cfg) (w : World) (cv : Value) (st : Int) (r : Option Int × St) (e : Ending) (w' : World) : Prop :=
  e = .returned (.bool r.1.isNone) ∧ (∃ cv', MRun c w' r.2 cv' (if r.1.isNone then 0 else 2) (r.1.getD 0) st) ∧ Turn (Bz c cv) w w'

/-- The instruction's box; and what has turned. -/
def BoxM (c : Cfg) (cv : Value) (w0 w : World) (m : Mach) (av : Value) : Prop := w0.heap.size + 1 < w.heap.size ∧ (∀ i, w.cell? ⟨w0.heap.size + 1, i, none⟩ = (#[.int .i64 m.op, .int .i64 m.d, .int .i64 m.e, .int .i64 m.a, .int .i64 m.b, .int .i64 m.c, .int .i32 m.imm, av] : Array Value)[i]?) ∧ Turn (Bz c cv) w0 w
theorem BoxM.set {c : Cfg} {cv : Value} {w0 w : World} {m : Mach} {av : Value} (h : BoxM c cv w0 w m av) {p : Addr} (hp : p.block < w0.heap.size) (hb : Busy c p.block) (x : Value) : BoxM c cv w0 (w.setCell p x) m av :=
  ⟨by simpa [World.setCell] using h.1, fun i => (World.cell?_of_block (Below.heap_setCell _ _ _ _ (Nat.ne_of_gt (Nat.lt_succ_of_lt hp)))).trans (h.2.1 i), h.2.2.setCell (.inl hb) x⟩
theorem BoxM.new (c : Cfg) (cv : Value) (w0 : World) (o : Obj) (m : Mach) (av : Value) : BoxM c cv w0 (((w0.alloc o).alloc (.cells #[.int .i64 m.op, .int .i64 m.d, .int .i64 m.e, .int .i64 m.a, .int .i64 m.b, .int .i64 m.c, .int .i32 m.imm, av] 46)).drew) m av := by
  refine ⟨by simp [World.drew], fun i => ?_, Turn.since (((Since.refl w0).alloc _).alloc _).drew⟩
  have := heap_last (w0.alloc o) (.cells #[.int .i64 m.op, .int .i64 m.d, .int .i64 m.e, .int .i64 m.a, .int .i64 m.b, .int .i64 m.c, .int .i32 m.imm, av] 46)
  rw [show (w0.alloc o).heap.size = w0.heap.size + 1 from by simp] at this
  simp only [World.cell?, World.drew]
  rw [this]
  rfl
theorem in32_getD {l : List Int} (h : ∀ x ∈ l, In32 x) (i : Nat) : In32 (l.getD i 0) := by
  rw [List.getD_eq_getElem?_getD]
  cases hx : l[i]? with
  | none => exact ⟨by simp, by simp⟩
  | some x => exact h x (List.mem_of_getElem? hx)

set_option maxHeartbeats 1000000 in
set_option maxRecDepth 100000 in
theorem swap_any (c : Cfg) (s : St) (cv : Value) (st : Int) (op d e : Int) (a b : Nat) (cc imm : Int) (args : List Int) (av : Value) (w : World) (h : MRun c w s cv 0 0 st) (ha : a < 16) (hb : b < 16) :
    Calls Try.prog 164 #[.agg #[], mv ⟨op, d, e, a, b, cc, imm, args⟩ av, MPtr c] w (DoQ c w cv st (none, { s with regs := (s.regs.set a (s.regs.getD b 0)).set b (s.regs.getD a 0) })) := by
  have hsz := h.size
  have hxa := in32_getD h.r32 a
  have hxb := in32_getD h.r32 b
  have ga : ∀ w1, MRun c w1 s cv 0 0 st → w1.cell? ⟨c.mb, a, none⟩ = some (.int .i32 (s.regs.getD a 0)) := fun w1 h1 => h1.reg ha
  have gb : ∀ w1, MRun c w1 s cv 0 0 st → w1.cell? ⟨c.mb, b, none⟩ = some (.int .i32 (s.regs.getD b 0)) := fun w1 h1 => h1.reg hb
  unfold DoQ MPtr mv
  dsimp only
  generalize s.regs.getD a 0 = xa at *
  generalize s.regs.getD b 0 = xb at *
  have H := Lib.hid h; clear h
  go_enter Try.func164, Try.ntmps164
  go_wp2_with fail
  refine wp_region_phases [23, 27] [0, 0, 0, 0, 0, 0, 0, 0, 0, 0, 0, 0, 0, 0, 0, 0, 0, 0, 0, 0, 0, 0, 0, 0, 0, 0, 1, 1] [0, 0, 0, 1, 1, 1, 0, 0, 0, 0, 0, 0, 0, 0, 0, 0, 0, 0, 0, 0, 0, 0, 0, 0, 1, 1, 1, 1] [0, 0, 0, 0, 0, 0, 0, 0, 0, 0, 0, 0, 0, 0, 0, 0, 0, 0, 0, 0, 0, 0, 0, 1, 0, 0, 0, 1] (fun p w1 => BoxM c cv w w1 ⟨op, d, e, a, b, cc, imm, args⟩ av ∧ MRun c w1 (if p = 0 then s else if p = 1 then { s with regs := s.regs.set a xb } else { s with regs := (s.regs.set a xb).set b xa }) cv 0 0 st) rfl (by decide +kernel) (by decide +kernel) (by decide +kernel)
    [Is (.pointer (some ⟨c.mb, 0, none⟩)), Is (.pointer (some ⟨w.heap.size + 1, 3, none⟩)), Is (.int .i64 a), Is (.pointer (some ⟨c.mb, 0, none⟩)), Is (.pointer (some ⟨w.heap.size + 1, 4, none⟩)), Is (.int .i64 b), Is (.pointer (some ⟨c.mb, 0, none⟩)), Is (.pointer (some ⟨w.heap.size + 1, 4, none⟩)), Is (.int .i64 b), Is (.pointer (some ⟨c.mb, 0, none⟩)), Is (.pointer (some ⟨c.mb, 0, none⟩)), Is (.pointer (some ⟨c.mb, b, none⟩)), Is (.int .i32 xb), Is (.pointer (some ⟨c.mb, 0, none⟩)), Is (.pointer (some ⟨w.heap.size + 1, 3, none⟩)), Is (.int .i64 a), Is (.pointer (some ⟨c.mb, 0, none⟩)), Is (.pointer (some ⟨c.mb, 0, none⟩)), Is (.pointer (some ⟨c.mb, a, none⟩)), Is (.int .i32 xa), Is (.pointer (some ⟨c.mb, 0, none⟩)), Is (.pointer (some ⟨c.mb, 0, none⟩)), Is (.pointer (some ⟨c.mb, a, none⟩)), Any, Is (.pointer (some ⟨c.mb, 0, none⟩)), Is (.pointer (some ⟨c.mb, 0, none⟩)), Is (.pointer (some ⟨c.mb, b, none⟩)), Any]
    (by repeat (first | exact trivial | refine ⟨Is.fixed _, ?_⟩ | refine ⟨Any.fixed, ?_⟩)) ⟨BoxM.new c cv w _ ⟨op, d, e, a, b, cc, imm, args⟩ av, H.out.keep (((Since.refl w).alloc _).alloc _).drew⟩ ⟨?_, ?_, ?_, ?_, ?_, ?_, ?_, ?_, ?_, ?_, ?_, ?_, ?_, ?_, ?_, ?_, ?_, ?_, ?_, ?_, ?_, ?_, ?_, ?_, ?_, ?_, ?_, ?_, trivial⟩ ?_
  rotate_right
  · intro vs w1 _ hph hk
    simp only [putAll, Act.put, KnowsAll, nthF, Is, Any, List.setIfInBounds_toArray, List.set_cons_zero, List.set_cons_succ, Nat.reduceAdd, List.length_cons, List.length_nil] at hk ⊢
    try simp only [hk]
    go_wp2
    go_ret
    exact ⟨rfl, ⟨cv, hph.2⟩, hph.1.2.2⟩
  all_goals
    intro p vs w1 hlo hhi _ hph hk
    simp only [putAll, Act.put, Knows, nthF, Is, Any, List.setIfInBounds_toArray, List.set_cons_zero, List.set_cons_succ, Nat.reduceAdd] at hk ⊢
    try simp only [hk]
  · go_wp2
    exact ⟨_, rfl, rfl, trivial, hph⟩
  · go_wp2
    exact ⟨_, rfl, rfl, trivial, hph⟩
  · have hbx := hph.1.2.1 3
    have hbs := hph.1.1
    go_wp2
    exact ⟨_, rfl, rfl, trivial, hph⟩
  · go_wp2
    exact ⟨_, rfl, rfl, trivial, hph⟩
  · go_wp2
    exact ⟨_, rfl, rfl, trivial, hph⟩
  · have hbx := hph.1.2.1 4
    have hbs := hph.1.1
    go_wp2
    exact ⟨_, rfl, rfl, trivial, hph⟩
  · go_wp2
    exact ⟨_, rfl, rfl, trivial, hph⟩
  · go_wp2
    exact ⟨_, rfl, rfl, trivial, hph⟩
  · have hbx := hph.1.2.1 4
    have hbs := hph.1.1
    go_wp2
    exact ⟨_, rfl, rfl, trivial, hph⟩
  · go_wp2
    exact ⟨_, rfl, rfl, trivial, hph⟩
  · go_wp2
    exact ⟨_, rfl, rfl, trivial, hph⟩
  · go_wp2
    exact ⟨_, rfl, rfl, trivial, hph⟩
  · obtain rfl : p = 0 := by omega
    have hm0 : MRun c w1 s cv 0 0 st := hph.2
    have hc := gb w1 hm0
    go_wp2
    exact ⟨_, rfl, rfl, trivial, hph⟩
  · go_wp2
    exact ⟨_, rfl, rfl, trivial, hph⟩
  · go_wp2
    exact ⟨_, rfl, rfl, trivial, hph⟩
  · have hbx := hph.1.2.1 3
    have hbs := hph.1.1
    go_wp2
    exact ⟨_, rfl, rfl, trivial, hph⟩
  · go_wp2
    exact ⟨_, rfl, rfl, trivial, hph⟩
  · go_wp2
    exact ⟨_, rfl, rfl, trivial, hph⟩
  · go_wp2
    exact ⟨_, rfl, rfl, trivial, hph⟩
  · obtain rfl : p = 0 := by omega
    have hm0 : MRun c w1 s cv 0 0 st := hph.2
    have hc := ga w1 hm0
    go_wp2
    exact ⟨_, rfl, rfl, trivial, hph⟩
  · go_wp2
    exact ⟨_, rfl, rfl, trivial, hph⟩
  · go_wp2
    exact ⟨_, rfl, rfl, trivial, hph⟩
  · go_wp2
    exact ⟨_, rfl, rfl, trivial, hph⟩
  · obtain rfl : p = 0 := by omega
    have hm0 : MRun c w1 s cv 0 0 st := hph.2
    have hc := ga w1 hm0
    have hfz := hm0.mat.frozen
    go_wp2
    exact ⟨.bool true, rfl, trivial, trivial, hph.1.set (p := ⟨c.mb, a, none⟩) hsz (.inl rfl) _, hm0.setReg ha hxb⟩
  · go_wp2
    exact ⟨_, rfl, rfl, trivial, hph⟩
  · go_wp2
    exact ⟨_, rfl, rfl, trivial, hph⟩
  · go_wp2
    exact ⟨_, rfl, rfl, trivial, hph⟩
  · obtain rfl : p = 1 := by omega
    have hm0 : MRun c w1 { s with regs := s.regs.set a xb } cv 0 0 st := hph.2
    have hc := hm0.reg hb
    have hfz := hm0.mat.frozen
    go_wp2
    exact ⟨.bool true, rfl, trivial, trivial, hph.1.set (p := ⟨c.mb, b, none⟩) hsz (.inl rfl) _, hm0.setReg hb hxa⟩
end Go.Proofs.Ytkpbmbhejpmboaa
