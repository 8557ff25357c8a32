/- What the closures of mach.kindOf hand back. slices.Clone of numbers, and the last closure of mach.kindOf. Laws of runs over a map of integer keys whose entries are written out: an update of a new block, and a look-up; over any program. What mach.kindOf hands back: two functions; and what mach.Takes, mach.Makes hand back. -/
import Derived.Test.YtkpbmbhejpmboaaBase
import Derived.Test.YtkpbmbhejpmboaaRows
import Derived.WalkKit
import Derived.Laws.EntriesVeiled
namespace Go.Proofs.Ytkpbmbhejpmboaa
open Go.RowKit
set_option linter.unusedVariables false

/-- A call of function f enters its body. -/
def Enters (f : Nat) : Prop := ∀ (args : Array Value) (w : World), (callFunc f args).run Try.prog w = .ok (.enter f args) w

/-- A function of an instruction that hands back numbers of it. -/
def KindFn (f : Nat) (g : Mach → List Int) : Prop := Enters f ∧ ∀ (m : Mach) (av : Value) (w : World), Ints w av m.args → m.args.length ≤ 1000 → Calls Try.prog f #[mv m av] w (Gives w (g m))

set_option maxHeartbeats 400000 in
set_option maxRecDepth 100000 in
theorem k_none : KindFn 106 (fun m => []) := by
  refine ⟨fun _ _ => by kernel_rfl, ?_⟩
  rintro ⟨op, d, e, a, b, c, imm, args⟩ av w h _
  unfold mv
  go_enter Try.func106, Try.ntmps106
  go_wp2
  go_ret
  exact gives_none ((Since.refl _).alloc _)

set_option maxHeartbeats 400000 in
set_option maxRecDepth 100000 in
theorem k_d : KindFn 107 (fun m => [m.d]) := by
  refine ⟨fun _ _ => by kernel_rfl, ?_⟩
  rintro ⟨op, d, e, a, b, c, imm, args⟩ av w h _
  unfold mv
  go_enter Try.func107, Try.ntmps107
  go_wp2
  go_ret
  exact gives_last ((Since.refl _).alloc _) _ _ (by simp) rfl (by simp [maxLen]) rfl

set_option maxHeartbeats 400000 in
set_option maxRecDepth 100000 in
theorem k_a : KindFn 108 (fun m => [m.a]) := by
  refine ⟨fun _ _ => by kernel_rfl, ?_⟩
  rintro ⟨op, d, e, a, b, c, imm, args⟩ av w h _
  unfold mv
  go_enter Try.func108, Try.ntmps108
  go_wp2
  go_ret
  exact gives_last ((Since.refl _).alloc _) _ _ (by simp) rfl (by simp [maxLen]) rfl

set_option maxHeartbeats 400000 in
set_option maxRecDepth 100000 in
theorem k_ab : KindFn 109 (fun m => [m.a, m.b]) := by
  refine ⟨fun _ _ => by kernel_rfl, ?_⟩
  rintro ⟨op, d, e, a, b, c, imm, args⟩ av w h _
  unfold mv
  go_enter Try.func109, Try.ntmps109
  go_wp2
  go_ret
  exact gives_last ((Since.refl _).alloc _) _ _ (by simp) rfl (by simp [maxLen]) rfl

set_option maxHeartbeats 400000 in
set_option maxRecDepth 100000 in
theorem k_abc : KindFn 110 (fun m => [m.a, m.b, m.c]) := by
  refine ⟨fun _ _ => by kernel_rfl, ?_⟩
  rintro ⟨op, d, e, a, b, c, imm, args⟩ av w h _
  unfold mv
  go_enter Try.func110, Try.ntmps110
  go_wp2
  go_ret
  exact gives_last ((Since.refl _).alloc _) _ _ (by simp) rfl (by simp [maxLen]) rfl

set_option maxHeartbeats 400000 in
set_option maxRecDepth 100000 in
theorem k_de : KindFn 113 (fun m => [m.d, m.e]) := by
  refine ⟨fun _ _ => by kernel_rfl, ?_⟩
  rintro ⟨op, d, e, a, b, c, imm, args⟩ av w h _
  unfold mv
  go_enter Try.func113, Try.ntmps113
  go_wp2
  go_ret
  exact gives_last ((Since.refl _).alloc _) _ _ (by simp) rfl (by simp [maxLen]) rfl

end Go.Proofs.Ytkpbmbhejpmboaa

namespace Go.Proofs.Ytkpbmbhejpmboaa
open Go.RowKit
set_option linter.unusedVariables false

theorem Try.info3 : (Try.prog.info? 3).map (fun i => (i.zero, i.size, i.bytes)) = some (some (.int .i64 0), 1, 8) := by kernel_rfl

/-- []int{}: an empty row of the call's own. -/
theorem own_empty {w : World} {base b : Nat} (hbl : b = w.heap.size) (hb : base ≤ w.heap.size) (e : TypeId) (k : IntKind) :
    (w.alloc (.cells #[] e)).ownsRow base e 1 (.slice (some ⟨b, 0, none⟩) 0 0) ([] : List Int).length (([] : List Int).map (Value.int k)) := by
  subst hbl
  exact ⟨rfl, .inr ⟨w.heap.size, 0, #[], rfl, hb, heap_last _ _, Nat.le_refl _, Nat.zero_le _, rfl, rfl⟩⟩

set_option maxHeartbeats 400000 in
set_option maxRecDepth 100000 in
theorem clone_any (v : Value) (l : List Int) (w : World) (h : Nums .i64 w v l) (hl : l.length ≤ 1000) :
    Calls Try.prog 112 #[v] w (Gives w l) := by
  have h' := h
  have he := fun w a l c => Lib.run_eql_slice_nil (P := Try.prog) w 25 _ a l c 0 0 Try.underlying25
  rcases h with ⟨ad, rfl, rfl⟩ | ⟨b, off, cap, rfl, hcap, hmax, hb, hcell⟩
  · rcases ad with _ | ad
    rotate_left
    · go_enter Try.func112, Try.ntmps112
      go_wp2_with (at_builtin; refine wpList_append_nums (w0 := w) .i64 rfl _ _ 25 rfl 3 (.int .i64 0) 8 Try.underlying25 Try.info3 rfl (by decide) _ _ [] [] rfl rfl (own_empty rfl (Nat.le_refl _) _ _) (h'.keep ((Since.refl _).alloc _)) (by simp) ((Since.refl _).alloc _) ?_; intro v' w' hown hs)
      go_ret
      exact ⟨_, rfl, nums_of_own hown, hs⟩
    go_enter Try.func112, Try.ntmps112
    go_wp2
    go_ret
    exact gives_none (Since.refl _)
  · go_enter Try.func112, Try.ntmps112
    go_wp2_with (at_builtin; refine wpList_append_nums (w0 := w) .i64 rfl _ _ 25 rfl 3 (.int .i64 0) 8 Try.underlying25 Try.info3 rfl (by decide) _ _ [] l rfl rfl (own_empty rfl (Nat.le_refl _) _ _) (h'.keep ((Since.refl _).alloc _)) (by simp; omega) ((Since.refl _).alloc _) ?_; intro v' w' hown hs)
    go_ret
    exact ⟨_, rfl, nums_of_own hown, hs⟩
end Go.Proofs.Ytkpbmbhejpmboaa

namespace Go.Proofs.Ytkpbmbhejpmboaa
open Go.RowKit

theorem alloc_set (w : World) (o o' : Obj) : ({ w.alloc o with heap := (w.alloc o).heap.setIfInBounds w.heap.size o' } : World) = w.alloc o' := by
  have : (w.heap.push o).setIfInBounds w.heap.size o' = w.heap.push o' := by
    apply Array.ext'
    simp [Array.toList_setIfInBounds, Array.toList_push]
  simp only [World.alloc]
  rw [this]

/-- The keys of a list of entries are numbers other than n. -/
def fresh (n : Int) : List MapEntry → Bool
  | [] => true
  | e :: r => match e.key with
    | .int .i64 m => !(n == m) && fresh n r
    | _ => false

/-- What a look-up of one number among the entries gives. -/
def look (n : Int) : List MapEntry → Option Value
  | [] => none
  | e :: r => match e.key with
    | .int .i64 m => if n == m then some e.val else look n r
    | _ => none

theorem fresh_nil (n : Int) : fresh n [] = true := Eq.trans (Eq.refl _) (Eq.refl true)
theorem fresh_cons (n m : Int) (v : Value) (b : Nat) (r : List MapEntry) : fresh n ({ key := .int .i64 m, val := v, born := b } :: r) = (!(n == m) && fresh n r) := Eq.trans (Eq.refl _) (Eq.refl _)
theorem look_nil (n : Int) : look n [] = none := Eq.trans (Eq.refl _) (Eq.refl _)
theorem look_cons (n m : Int) (v : Value) (b : Nat) (r : List MapEntry) : look n ({ key := .int .i64 m, val := v, born := b } :: r) = if n == m then some v else look n r := Eq.trans (Eq.refl _) (Eq.refl _)

theorem findNow_fresh (n : Int) : ∀ (l : List MapEntry) (i : Nat), fresh n l = true → Instr.findNow (.int .i64) (.int .i64 n) l i = some none
  | [], _, _ => rfl
  | e :: r, i, h => by
    unfold fresh at h
    split at h
    · rename_i m hm
      simp at h
      have hb : (n == m) = false := by simpa using h.1
      simp [Instr.findNow, hm, Instr.sameNow, hb, findNow_fresh n r _ h.2]
    · cases h

theorem findNow_look (n : Int) (v : Value) : ∀ (l : List MapEntry) (i : Nat), look n l = some v → ∃ j, Instr.findNow (.int .i64) (.int .i64 n) l i = some (some (j, v))
  | [], _, h => by cases h
  | e :: r, i, h => by
    unfold look at h
    split at h
    · rename_i m hm
      by_cases hb : n = m
      · subst hb; simp at h; exact ⟨i, by simp [Instr.findNow, hm, Instr.sameNow, h]⟩
      · rw [if_neg (by simpa using hb)] at h
        obtain ⟨j, hj⟩ := findNow_look n v r (i+1) h
        have hb' : (n == m) = false := by simpa using hb
        exact ⟨j, by simp [Instr.findNow, hm, Instr.sameNow, hb', hj]⟩
    · cases h

theorem run_mapUpdate_new {P : Program} {t K E : TypeId} (ht : P.underlying t = some (.map K E)) (hK : P.underlying K = some (.int .i64)) (w : World) (es : List MapEntry) (b c : Nat) (n : Int) (v : Value) (hs : b = w.heap.size) (hf : fresh n es = true) :
    (Instr.mapUpdate t (.map (some b)) (.int .i64 n) v).run P (w.alloc (.map es.toArray c)) = .ok () (w.alloc (.map (es ++ [({ key := .int .i64 n, val := v, born := c } : MapEntry)]).toArray (c+1))) := by
  subst hs
  have hb := (MapKept.heap_alloc w (.map es.toArray c)).1
  have hkey : MapKept.IsKey (.int .i64) (.int .i64 n) := rfl
  have hf' : Instr.findNow (.int .i64) (.int .i64 n) es.toArray.toList 0 = some none := findNow_fresh n es 0 hf
  simp only [Instr.mapUpdate, Sem.run_bind, run_underlying ht, Result.andThen, MapKept.run_getObj_map hb, MapKept.run_checkKey hK hkey, MapKept.run_findKey hK hf', MapKept.run_setObj_map _ hb]
  rw [alloc_set]; simp

theorem run_lookup_hit {P : Program} {t K E : TypeId} (ht : P.underlying t = some (.map K E)) (hK : P.underlying K = some (.int .i64)) (w : World) (es : List MapEntry) (b c : Nat) (n : Int) (v : Value) (hs : b = w.heap.size) (hf : look n es = some v) :
    (Instr.lookup t (.map (some b)) (.int .i64 n) false).run P (w.alloc (.map es.toArray c)) = .ok v (w.alloc (.map es.toArray c)) := by
  subst hs
  have hb := (MapKept.heap_alloc w (.map es.toArray c)).1
  have hkey : MapKept.IsKey (.int .i64) (.int .i64 n) := rfl
  obtain ⟨j, hj⟩ := findNow_look n v es.toArray.toList 0 hf
  simp [Instr.lookup, run_underlying ht, MapKept.run_getObj_map hb, MapKept.run_checkKey hK hkey, MapKept.run_findKey hK hj, Result.andThen]

theorem run_lookup_miss {P : Program} {t K E : TypeId} (ht : P.underlying t = some (.map K E)) (hK : P.underlying K = some (.int .i64)) (z : Value) (hz : ∀ w : World, (zeroValue E).run P w = .ok z w) (w : World) (es : List MapEntry) (b c : Nat) (n : Int) (hs : b = w.heap.size) (hf : fresh n es = true) :
    (Instr.lookup t (.map (some b)) (.int .i64 n) false).run P (w.alloc (.map es.toArray c)) = .ok z (w.alloc (.map es.toArray c)) := by
  subst hs
  have hb := (MapKept.heap_alloc w (.map es.toArray c)).1
  have hkey : MapKept.IsKey (.int .i64) (.int .i64 n) := rfl
  have hf' : Instr.findNow (.int .i64) (.int .i64 n) es.toArray.toList 0 = some none := findNow_fresh n es 0 hf
  simp [Instr.lookup, run_underlying ht, MapKept.run_getObj_map hb, MapKept.run_checkKey hK hkey, MapKept.run_findKey hK hf', hz, Result.andThen]

theorem run_lookup_ok_hit {P : Program} {t K E : TypeId} (ht : P.underlying t = some (.map K E)) (hK : P.underlying K = some (.int .i64)) (w : World) (es : List MapEntry) (b c : Nat) (n : Int) (v : Value) (hs : b = w.heap.size) (hf : look n es = some v) :
    (Instr.lookup t (.map (some b)) (.int .i64 n) true).run P (w.alloc (.map es.toArray c)) = .ok (.tuple #[v, .bool true]) (w.alloc (.map es.toArray c)) := by
  subst hs
  have hb := (MapKept.heap_alloc w (.map es.toArray c)).1
  have hkey : MapKept.IsKey (.int .i64) (.int .i64 n) := rfl
  obtain ⟨j, hj⟩ := findNow_look n v es.toArray.toList 0 hf
  simp [Instr.lookup, run_underlying ht, MapKept.run_getObj_map hb, MapKept.run_checkKey hK hkey, MapKept.run_findKey hK hj, Result.andThen]

theorem run_lookup_ok_miss {P : Program} {t K E : TypeId} (ht : P.underlying t = some (.map K E)) (hK : P.underlying K = some (.int .i64)) (z : Value) (hz : ∀ w : World, (zeroValue E).run P w = .ok z w) (w : World) (es : List MapEntry) (b c : Nat) (n : Int) (hs : b = w.heap.size) (hf : fresh n es = true) :
    (Instr.lookup t (.map (some b)) (.int .i64 n) true).run P (w.alloc (.map es.toArray c)) = .ok (.tuple #[z, .bool false]) (w.alloc (.map es.toArray c)) := by
  subst hs
  have hb := (MapKept.heap_alloc w (.map es.toArray c)).1
  have hkey : MapKept.IsKey (.int .i64) (.int .i64 n) := rfl
  have hf' : Instr.findNow (.int .i64) (.int .i64 n) es.toArray.toList 0 = some none := findNow_fresh n es 0 hf
  simp [Instr.lookup, run_underlying ht, MapKept.run_getObj_map hb, MapKept.run_checkKey hK hkey, MapKept.run_findKey hK hf', hz, Result.andThen]

end Go.Proofs.Ytkpbmbhejpmboaa

namespace Go.Proofs.Ytkpbmbhejpmboaa
open Go.RowKit
set_option linter.unusedVariables false

set_option maxHeartbeats 400000 in
set_option maxRecDepth 100000 in
theorem k_args : KindFn 111 (fun m => m.args) := by
  refine ⟨fun _ _ => by kernel_rfl, ?_⟩
  rintro ⟨op, d, e, a, b, c, imm, args⟩ av w h hl
  unfold mv
  have h2 := h.keep ((Since.refl w).alloc (.cells #[.int .i64 op, .int .i64 d, .int .i64 e, .int .i64 a, .int .i64 b, .int .i64 c, .int .i32 imm, av] 46))
  go_enter Try.func111, Try.ntmps111
  go_wp2_with (go_at_call 112; refine (clone_any _ _ _ h2 hl).mono ?_; rintro e w1 ⟨v, rfl, hv, hs⟩)
  go_ret
  exact ⟨_, rfl, hv, ((Since.refl _).alloc _).trans hs⟩

/-- The entries of kindOf's map, in the order in which they are laid. -/
def kinds : List MapEntry := [
  { key := .int .i64 1, val := .agg #[.func (.func 108) #[] #[], .func (.func 107) #[] #[]], born := 0 },
  { key := .int .i64 2, val := .agg #[.func (.func 109) #[] #[], .func (.func 109) #[] #[]], born := 1 },
  { key := .int .i64 3, val := .agg #[.func (.func 106) #[] #[], .func (.func 107) #[] #[]], born := 2 },
  { key := .int .i64 4, val := .agg #[.func (.func 106) #[] #[], .func (.func 107) #[] #[]], born := 3 },
  { key := .int .i64 23, val := .agg #[.func (.func 110) #[] #[], .func (.func 107) #[] #[]], born := 4 },
  { key := .int .i64 24, val := .agg #[.func (.func 108) #[] #[], .func (.func 107) #[] #[]], born := 5 },
  { key := .int .i64 25, val := .agg #[.func (.func 109) #[] #[], .func (.func 107) #[] #[]], born := 6 },
  { key := .int .i64 26, val := .agg #[.func (.func 109) #[] #[], .func (.func 106) #[] #[]], born := 7 },
  { key := .int .i64 27, val := .agg #[.func (.func 110) #[] #[], .func (.func 106) #[] #[]], born := 8 },
  { key := .int .i64 28, val := .agg #[.func (.func 111) #[] #[], .func (.func 107) #[] #[]], born := 9 },
  { key := .int .i64 29, val := .agg #[.func (.func 109) #[] #[], .func (.func 113) #[] #[]], born := 10 },
  { key := .int .i64 30, val := .agg #[.func (.func 106) #[] #[], .func (.func 107) #[] #[]], born := 11 },
  { key := .int .i64 31, val := .agg #[.func (.func 108) #[] #[], .func (.func 106) #[] #[]], born := 12 }]

theorem zero_kind (w : World) : (zeroValue 135).run Try.prog w = .ok (.agg #[.nilFunc, .nilFunc]) w := by kernel_rfl

/-- What a call of kindOf leaves. -/
def KindPost (w : World) (x y : Nat) (e : Ending) (w' : World) : Prop := e = .returned (.agg #[.func (.func x) #[] #[], .func (.func y) #[] #[]]) ∧ Since w w'

attribute [local simp] fresh_nil fresh_cons

set_option maxHeartbeats 1000000 in
set_option maxRecDepth 100000 in
theorem kindOf_known (op : Int) (x y : Nat) (w : World) (h : look op kinds = some (.agg #[.func (.func x) #[] #[], .func (.func y) #[] #[]])) :
    Calls Try.prog 85 #[.int .i64 op] w (KindPost w x y) := by
  have hmm := @run_makeMap Try.prog
  have hup := @run_mapUpdate_new Try.prog _ _ _ Try.underlying168 Try.underlying3
  have hlk := @run_lookup_ok_hit Try.prog _ _ _ Try.underlying168 Try.underlying3
  unfold kinds at h
  go_enter Try.func85, Try.ntmps85
  go_wp2

  exact bodyPost_ret (v := .agg #[.func (.func x) #[] #[], .func (.func y) #[] #[]]) (by simp [results, Try.results85, go_sem]) rfl ⟨rfl, (((Since.refl _).alloc _).alloc _).alloc _⟩

set_option maxHeartbeats 1000000 in
set_option maxRecDepth 100000 in
theorem kindOf_other (op : Int) (x y : Nat) (w : World) (n1 : (op == 1) = false) (n2 : (op == 2) = false) (n3 : (op == 3) = false) (n4 : (op == 4) = false) (n23 : (op == 23) = false) (n24 : (op == 24) = false) (n25 : (op == 25) = false) (n26 : (op == 26) = false) (n27 : (op == 27) = false) (n28 : (op == 28) = false) (n29 : (op == 29) = false) (n30 : (op == 30) = false) (n31 : (op == 31) = false)
    (h : (x = 109 ∧ y = 107 ∧ 5 ≤ op ∧ op ≤ 17) ∨ (x = 108 ∧ y = 107 ∧ ¬ op ≤ 17 ∧ 18 ≤ op ∧ op ≤ 22) ∨ (x = 106 ∧ y = 106 ∧ ¬ 5 ≤ op) ∨ (x = 106 ∧ y = 106 ∧ ¬ op ≤ 22)) :
    Calls Try.prog 85 #[.int .i64 op] w (KindPost w x y) := by
  have hmm := @run_makeMap Try.prog
  have hup := @run_mapUpdate_new Try.prog _ _ _ Try.underlying168 Try.underlying3
  have hlk := @run_lookup_ok_miss Try.prog _ _ _ Try.underlying168 Try.underlying3 _ zero_kind
  rcases h with ⟨rfl, rfl, g1, g2⟩ | ⟨rfl, rfl, g0, g1, g2⟩ | ⟨rfl, rfl, g1⟩ | ⟨rfl, rfl, g1⟩
  all_goals
    go_enter Try.func85, Try.ntmps85
    go_wp2
    exact bodyPost_ret (v := .agg #[.func (.func _) #[] #[], .func (.func _) #[] #[]]) (by simp [results, Try.results85, go_sem]) rfl ⟨rfl, (((Since.refl _).alloc _).alloc _).alloc _⟩

/-- The registers that an instruction takes, and makes (layer 7). -/
def takes7 (m : Mach) : List Int :=
  if m.op = 1 ∨ (18 ≤ m.op ∧ m.op ≤ 22) ∨ m.op = 24 ∨ m.op = 31 then [m.a]
  else if m.op = 2 ∨ (5 ≤ m.op ∧ m.op ≤ 17) ∨ m.op = 25 ∨ m.op = 26 ∨ m.op = 29 then [m.a, m.b]
  else if m.op = 23 ∨ m.op = 27 then [m.a, m.b, m.c] else if m.op = 28 then m.args else []
def makes7 (m : Mach) : List Int :=
  if m.op = 2 then [m.a, m.b] else if m.op = 29 then [m.d, m.e] else if m.op = 26 ∨ m.op = 27 ∨ m.op = 31 ∨ m.op < 1 ∨ 31 < m.op then [] else [m.d]

/-- A function of one instruction. -/
def KindAt (f : Nat) (m : Mach) (l : List Int) : Prop := Enters f ∧ ∀ (av : Value) (w : World), Ints w av m.args → m.args.length ≤ 1000 → Calls Try.prog f #[mv m av] w (Gives w l)
theorem KindFn.at {f : Nat} {g : Mach → List Int} (h : KindFn f g) (m : Mach) {l : List Int} (e : g m = l) : KindAt f m l := ⟨h.1, fun av w h1 h2 => by rw [← e]; exact h.2 m av w h1 h2⟩

def KindOf (m : Mach) (w : World) (e : Ending) (w' : World) : Prop := ∃ x y, e = .returned (.agg #[.func (.func x) #[] #[], .func (.func y) #[] #[]]) ∧ KindAt x m (takes7 m) ∧ KindAt y m (makes7 m) ∧ Since w w'
theorem kindOf_mk {m : Mach} {w : World} {x y : Nat} (hx : KindAt x m (takes7 m)) (hy : KindAt y m (makes7 m)) (h : Calls Try.prog 85 #[.int .i64 m.op] w (KindPost w x y)) :
    Calls Try.prog 85 #[.int .i64 m.op] w (KindOf m w) := h.mono fun _ _ ⟨he, hs⟩ => ⟨x, y, he, hx, hy, hs⟩

theorem kindOf_any (m : Mach) (w : World) : Calls Try.prog 85 #[.int .i64 m.op] w (KindOf m w) := by
  by_cases h1 : m.op = 1
  · exact kindOf_mk (k_a.at m (by simp [takes7, h1])) (k_d.at m (by simp [makes7, h1])) (kindOf_known _ _ _ w (by rw [h1]; rfl))
  by_cases h2 : m.op = 2
  · exact kindOf_mk (k_ab.at m (by simp [takes7, h2])) (k_ab.at m (by simp [makes7, h2])) (kindOf_known _ _ _ w (by rw [h2]; rfl))
  by_cases h3 : m.op = 3
  · exact kindOf_mk (k_none.at m (by simp [takes7, h3])) (k_d.at m (by simp [makes7, h3])) (kindOf_known _ _ _ w (by rw [h3]; rfl))
  by_cases h4 : m.op = 4
  · exact kindOf_mk (k_none.at m (by simp [takes7, h4])) (k_d.at m (by simp [makes7, h4])) (kindOf_known _ _ _ w (by rw [h4]; rfl))
  by_cases h23 : m.op = 23
  · exact kindOf_mk (k_abc.at m (by simp [takes7, h23])) (k_d.at m (by simp [makes7, h23])) (kindOf_known _ _ _ w (by rw [h23]; rfl))
  by_cases h24 : m.op = 24
  · exact kindOf_mk (k_a.at m (by simp [takes7, h24])) (k_d.at m (by simp [makes7, h24])) (kindOf_known _ _ _ w (by rw [h24]; rfl))
  by_cases h25 : m.op = 25
  · exact kindOf_mk (k_ab.at m (by simp [takes7, h25])) (k_d.at m (by simp [makes7, h25])) (kindOf_known _ _ _ w (by rw [h25]; rfl))
  by_cases h26 : m.op = 26
  · exact kindOf_mk (k_ab.at m (by simp [takes7, h26])) (k_none.at m (by simp [makes7, h26])) (kindOf_known _ _ _ w (by rw [h26]; rfl))
  by_cases h27 : m.op = 27
  · exact kindOf_mk (k_abc.at m (by simp [takes7, h27])) (k_none.at m (by simp [makes7, h27])) (kindOf_known _ _ _ w (by rw [h27]; rfl))
  by_cases h28 : m.op = 28
  · exact kindOf_mk (k_args.at m (by simp [takes7, h28])) (k_d.at m (by simp [makes7, h28])) (kindOf_known _ _ _ w (by rw [h28]; rfl))
  by_cases h29 : m.op = 29
  · exact kindOf_mk (k_ab.at m (by simp [takes7, h29])) (k_de.at m (by simp [makes7, h29])) (kindOf_known _ _ _ w (by rw [h29]; rfl))
  by_cases h30 : m.op = 30
  · exact kindOf_mk (k_none.at m (by simp [takes7, h30])) (k_d.at m (by simp [makes7, h30])) (kindOf_known _ _ _ w (by rw [h30]; rfl))
  by_cases h31 : m.op = 31
  · exact kindOf_mk (k_a.at m (by simp [takes7, h31])) (k_none.at m (by simp [makes7, h31])) (kindOf_known _ _ _ w (by rw [h31]; rfl))
  by_cases g1 : 5 ≤ m.op ∧ m.op ≤ 17
  · exact kindOf_mk (k_ab.at m (by unfold takes7; rw [if_neg (by omega), if_pos (by omega)])) (k_d.at m (by unfold makes7; rw [if_neg (by omega), if_neg (by omega), if_neg (by omega)])) (kindOf_other _ _ _ w (by simpa using h1) (by simpa using h2) (by simpa using h3) (by simpa using h4) (by simpa using h23) (by simpa using h24) (by simpa using h25) (by simpa using h26) (by simpa using h27) (by simpa using h28) (by simpa using h29) (by simpa using h30) (by simpa using h31) (.inl ⟨rfl, rfl, g1⟩))
  by_cases g2 : 18 ≤ m.op ∧ m.op ≤ 22
  · exact kindOf_mk (k_a.at m (by unfold takes7; rw [if_pos (by omega)])) (k_d.at m (by unfold makes7; rw [if_neg (by omega), if_neg (by omega), if_neg (by omega)])) (kindOf_other _ _ _ w (by simpa using h1) (by simpa using h2) (by simpa using h3) (by simpa using h4) (by simpa using h23) (by simpa using h24) (by simpa using h25) (by simpa using h26) (by simpa using h27) (by simpa using h28) (by simpa using h29) (by simpa using h30) (by simpa using h31) (.inr (.inl ⟨rfl, rfl, by omega, g2⟩)))
  exact kindOf_mk (k_none.at m (by unfold takes7; rw [if_neg (by omega), if_neg (by omega), if_neg (by omega), if_neg (by omega)])) (k_none.at m (by unfold makes7; rw [if_neg (by omega), if_neg (by omega), if_pos (by omega)])) (kindOf_other _ _ _ w (by simpa using h1) (by simpa using h2) (by simpa using h3) (by simpa using h4) (by simpa using h23) (by simpa using h24) (by simpa using h25) (by simpa using h26) (by simpa using h27) (by simpa using h28) (by simpa using h29) (by simpa using h30) (by simpa using h31) (by by_cases h : 5 ≤ m.op; exact .inr (.inr (.inr ⟨rfl, rfl, by omega⟩)); exact .inr (.inr (.inl ⟨rfl, rfl, h⟩))))

/-- mach.Takes. -/
def end_mark : Unit := ()
end Go.Proofs.Ytkpbmbhejpmboaa
