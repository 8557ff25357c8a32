/- TxPlain TxWords Region4 TxBase TxFn TxIts -/
import Derived.Test.YtmhojfpidedjeaaDoorDz01
import Derived.Lib.FieldsP
import Derived.Lib.SplitLaws
namespace Go.Proofs.YtmhojfpidedjeaaDoor
set_option linter.unusedVariables false
abbrev Bs := List UInt8
structure DIns where
  op : Int
  dst : Int
  two : Int
  args : List Int
  imm : Int
structure DPhi where
  dst : Int
  ins : List (Int × Int)
structure DTerm where
  kd : Int
  ar : List Int
  tg : List Int
  im : Int
structure DBlk where
  phis : List DPhi
  ins : List DIns
  term : DTerm
structure DFn where
  params : Int
  blocks : List DBlk
def dS (n : Int) : Bs := 32 :: Lib.itoa n
def allS (l : List Int) : Bs := l.flatMap dS
def opS (op : Int) : Bs := (nameF op).data.toList
def insS (x : DIns) : Bs :=
  if x.op = 1 then opS x.op ++ (dS x.dst ++ dS x.imm)
  else if 2 ≤ x.op ∧ x.op ≤ 14 then opS x.op ++ (dS x.dst ++ allS x.args)
  else if x.op = 15 then opS x.op ++ (dS x.dst ++ (allS x.args ++ dS x.imm))
  else if x.op = 16 then opS x.op ++ (allS x.args ++ dS x.imm)
  else if x.op = 17 then opS x.op ++ (dS x.dst ++ (dS x.imm ++ allS x.args))
  else if x.op = 18 then opS x.op ++ (dS x.dst ++ (dS x.two ++ allS x.args))
  else [63]
def termNames : List ByteArray := [⟨#[106, 117, 109, 112]⟩, ⟨#[98, 114, 97, 110, 99, 104]⟩, ⟨#[115, 119, 105, 116, 99, 104]⟩, ⟨#[114, 101, 116]⟩, ⟨#[116, 114, 97, 112]⟩]
def termB (k : Int) : ByteArray := if k < 1 ∨ 5 < k then ⟨#[63]⟩ else termNames.getD (k - 1).toNat ByteArray.empty
def termS (t : DTerm) : Bs :=
  if t.kd < 1 ∨ 5 < t.kd then [63]
  else if t.kd = 5 then (termB t.kd).data.toList ++ dS t.im
  else (termB t.kd).data.toList ++ (allS t.ar ++ allS t.tg)
def pairS (x : Int × Int) : Bs := dS x.1 ++ 58 :: Lib.itoa x.2
def phiS (p : DPhi) : Bs := [112, 104, 105] ++ (dS p.dst ++ p.ins.flatMap pairS)
def bodyS (x : DBlk) : Bs := x.phis.flatMap (fun p => phiS p ++ [10]) ++ (x.ins.flatMap (fun i => insS i ++ [10]) ++ (termS x.term ++ [10]))
def blkS (b : Nat) (x : DBlk) : Bs := [98, 108, 111, 99, 107] ++ (dS b ++ 10 :: bodyS x)
def blkAt (l : List DBlk) (b : Nat) : Bs := match l[b]? with | some x => blkS b x | none => []
def blksS (l : List DBlk) (n : Nat) : Bs := (List.range n).flatMap (blkAt l)
def funcS (f : DFn) : Bs := [102, 117, 110, 99] ++ (dS f.params ++ 10 :: blksS f.blocks f.blocks.length)
structure DTile where
  pat : Int
  cost : Int
def patNames : List ByteArray := [⟨#[108, 105]⟩, ⟨#[108, 105, 119]⟩, ⟨#[97, 100, 100]⟩, ⟨#[115, 117, 98]⟩, ⟨#[109, 117, 108]⟩, ⟨#[97, 110, 100]⟩, ⟨#[111, 114]⟩, ⟨#[120, 111, 114]⟩, ⟨#[115, 104, 108]⟩, ⟨#[115, 104, 114]⟩, ⟨#[115, 97, 114]⟩, ⟨#[101, 113]⟩, ⟨#[108, 116]⟩, ⟨#[108, 116, 117]⟩, ⟨#[100, 105, 118]⟩, ⟨#[97, 100, 100, 105]⟩, ⟨#[115, 117, 98, 105]⟩, ⟨#[97, 110, 100, 105]⟩, ⟨#[115, 104, 108, 105]⟩, ⟨#[115, 104, 114, 105]⟩, ⟨#[115, 97, 114, 105]⟩, ⟨#[109, 97, 100, 100]⟩, ⟨#[108, 100]⟩, ⟨#[108, 100, 97]⟩, ⟨#[108, 100, 120]⟩, ⟨#[108, 100, 108]⟩, ⟨#[115, 116]⟩, ⟨#[115, 116, 97]⟩, ⟨#[115, 116, 120]⟩, ⟨#[115, 116, 108]⟩, ⟨#[99, 97, 108, 108]⟩, ⟨#[109, 117, 108, 119]⟩, ⟨#[98, 110, 122]⟩, ⟨#[98, 101, 113]⟩, ⟨#[98, 108, 116]⟩, ⟨#[98, 108, 116, 117]⟩, ⟨#[106, 116]⟩]
def patB (p : Int) : ByteArray := if p < 1 ∨ 37 < p then ByteArray.empty else patNames.getD (p - 1).toNat ByteArray.empty
def patS (p : Int) : Bs := if p < 1 ∨ 37 < p then [63] else (patB p).data.toList
def tileS (t : DTile) : Bs := [116, 105, 108, 101] ++ (32 :: patS t.pat ++ (dS t.cost ++ [10]))
def tilesS (l : List DTile) : Bs := l.flatMap tileS
/-- Cut at each byte c. -/
def spl (c : UInt8) : Bs → List Bs
  | [] => [[]]
  | x :: r => if x = c then [] :: spl c r else match spl c r with | [] => [[x]] | h :: t => (x :: h) :: t
def ahead (c : UInt8) (l : Bs) : Bs := l.takeWhile (fun x => x != c)
def isSep (x : UInt8) : Bool := x == 32 || x == 9
def fldGo : Bs → Bs → List Bs
  | cur, [] => if cur = [] then [] else [cur]
  | cur, x :: r => if isSep x then (if cur = [] then fldGo [] r else cur :: fldGo [] r) else fldGo (cur ++ [x]) r
def wordsOf (l : Bs) : List ByteArray := (fldGo [] (ahead 35 l)).map fun x => ⟨x.toArray⟩
def linesOf (s : Bs) : List (List ByteArray) := (spl 10 s).map wordsOf
def numW (w : ByteArray) : Int := (wparse w.data.toList).getD 0
def isNum (w : ByteArray) : Bool := (wparse w.data.toList).isSome
def numsW (l : List ByteArray) : List Int := l.map numW
def areNums (l : List ByteArray) : Bool := l.all isNum
def kindF (w : ByteArray) : Int := 1 + Lib.idxOfS termNames w
def wFunc : ByteArray := ⟨#[102, 117, 110, 99]⟩
def wBlock : ByteArray := ⟨#[98, 108, 111, 99, 107]⟩
def wPhi : ByteArray := ⟨#[112, 104, 105]⟩
def wTile : ByteArray := ⟨#[116, 105, 108, 101]⟩
structure PSt where
  params : Int
  blocks : List DBlk
  pl : Int
def onLast (s : PSt) (g : DBlk → DBlk) : List DBlk := s.blocks.modify (s.blocks.length - 1) g
def colons (w : ByteArray) : Nat := w.data.toList.count 58
def front (w : ByteArray) : ByteArray := ⟨(ahead 58 w.data.toList).toArray⟩
def behind (w : ByteArray) : ByteArray := ⟨(w.data.toList.drop ((ahead 58 w.data.toList).length + 1)).toArray⟩
def pairW (w : ByteArray) : Int × Int := (numW (front w), numW (behind w))
def isPair (w : ByteArray) : Bool := isNum (front w) && isNum (behind w)
def phiSt (s : PSt) (l : List ByteArray) : Except Int PSt :=
  match l with
  | [] => .error 70
  | d :: r =>
    if r.all (fun w => colons w == 1) then
      (if isNum d && r.all isPair then .ok ⟨s.params, onLast s (fun b => ⟨b.phis ++ [⟨numW d, r.map pairW⟩], b.ins, b.term⟩), s.pl⟩ else .error 71)
    else .error 70
def least (op : Int) : Nat := if op = 1 then 2 else if op = 17 then 2 else if op = 18 then 4 else 3
def most (op : Int) : Nat := if op = 1 then 2 else if op = 17 then 6 else if op = 18 then 4 else 3
def insOf (op : Int) (n : List Int) : DIns :=
  if op = 1 then ⟨op, n.getD 0 0, 0, [], n.getD 1 0⟩
  else if op = 15 then ⟨op, n.getD 0 0, 0, (n.drop 1).take 1, n.getD 2 0⟩
  else if op = 16 then ⟨op, 0, 0, n.take 2, n.getD 2 0⟩
  else if op = 17 then ⟨op, n.getD 0 0, 0, n.drop 2, n.getD 1 0⟩
  else if op = 18 then ⟨op, n.getD 0 0, n.getD 1 0, n.drop 2, 0⟩
  else ⟨op, n.getD 0 0, 0, n.drop 1, 0⟩
def insSt (s : PSt) (op : Int) (l : List ByteArray) : Except Int PSt :=
  if least op ≤ l.length ∧ l.length ≤ most op then
    (if areNums l then .ok ⟨s.params, onLast s (fun b => ⟨b.phis, b.ins ++ [insOf op (numsW l)], b.term⟩), 3⟩ else .error 71)
  else .error 70
def tleast (k : Int) : Nat := if k = 1 then 1 else if k = 2 then 3 else if k = 3 then 2 else if k = 4 then 0 else 1
def tmost (k : Int) (n : Nat) : Nat := if k = 1 then 1 else if k = 2 then 3 else if k = 3 then n else 1
def termOf (k : Int) (n : List Int) : DTerm :=
  if k = 1 then ⟨k, [], n, 0⟩ else if k = 4 then ⟨k, n, [], 0⟩ else if k = 5 then ⟨k, [], [], n.getD 0 0⟩ else ⟨k, n.take 1, n.drop 1, 0⟩
def termSt (s : PSt) (k : Int) (l : List ByteArray) : Except Int PSt :=
  if tleast k ≤ l.length ∧ l.length ≤ tmost k l.length then
    (if areNums l then .ok ⟨s.params, onLast s (fun b => ⟨b.phis, b.ins, termOf k (numsW l)⟩), 1⟩ else .error 71)
  else .error 70
def zeroBlk : DBlk := ⟨[], [], ⟨0, [], [], 0⟩⟩
def stepSt (s : PSt) (l : List ByteArray) : Except Int PSt :=
  match l with
  | [] => .ok s
  | w :: r =>
    if w = wFunc then
      (if s.pl = 0 ∧ r.length = 1 then (if areNums r then .ok ⟨(numsW r).getD 0 0, s.blocks, 1⟩ else .error 71) else .error 70)
    else if w = wBlock then
      (if s.pl = 1 ∧ r.length = 1 then (if areNums r then (if (numsW r).getD 0 0 = s.blocks.length then .ok ⟨s.params, s.blocks ++ [zeroBlk], 2⟩ else .error 70) else .error 71) else .error 70)
    else if w = wPhi then (if s.pl = 2 then phiSt s r else .error 70)
    else if 0 < numberF w then (if 2 ≤ s.pl then insSt s (numberF w) r else .error 70)
    else if 0 < kindF w then (if 2 ≤ s.pl then termSt s (kindF w) r else .error 70)
    else .error 72
/-- Line by line; i lines are done. -/
def goSt {σ : Type} (step : σ → List ByteArray → Except Int σ) : Nat → σ → List (List ByteArray) → Except (Int × Int) σ
  | _, s, [] => .ok s
  | i, s, l :: r => if l = [] then goSt step (i + 1) s r else match step s l with
    | .error e => .error (i + 1, e)
    | .ok t => goSt step (i + 1) t r
structure PRes where
  f : DFn
  line : Int
  e : Int
def parseS (s : Bs) : PRes :=
  match goSt stepSt 0 ⟨0, [], 0⟩ (linesOf s) with
  | .error x => ⟨⟨0, []⟩, x.1, x.2⟩
  | .ok t => if t.pl = 1 ∧ t.blocks ≠ [] then ⟨⟨t.params, t.blocks⟩, 0, 0⟩ else ⟨⟨0, []⟩, ((linesOf s).length : Int), 70⟩
def patF (w : ByteArray) : Int := 1 + Lib.idxOfS patNames w
def tileSt (s : List DTile) (l : List ByteArray) : Except Int (List DTile) :=
  match l with
  | [] => .ok s
  | w :: r =>
    if w = wTile then
      (if r.length = 2 then
        (if 0 < patF (r.getD 0 ByteArray.empty) then
          (if isNum (r.getD 1 ByteArray.empty) then .ok (s ++ [⟨patF (r.getD 0 ByteArray.empty), numW (r.getD 1 ByteArray.empty)⟩]) else .error 71)
        else .error 72)
      else .error 70)
    else .error 72
structure TRes where
  l : List DTile
  line : Int
  e : Int
def parseT (s : Bs) : TRes :=
  match goSt tileSt 0 [] (linesOf s) with
  | .error x => ⟨[], x.1, x.2⟩
  | .ok t => ⟨t, 0, 0⟩
example : (parseS [102, 117, 110, 99, 32, 50, 10, 98, 108, 111, 99, 107, 32, 48, 10, 97, 100, 100, 32, 50, 32, 48, 32, 49, 10, 114, 101, 116, 32, 50, 10]).e = 0 := by decide +kernel
end Go.Proofs.YtmhojfpidedjeaaDoor
namespace Go.Proofs.YtmhojfpidedjeaaDoor
open Go.Lib
set_option linter.unusedVariables false
theorem dec_low (n b0 b1 b2 b3 : Nat) (h : b0 < 128) : decodeN n b0 b1 b2 b3 = (b0, 1) := by unfold decodeN; rw [if_pos h]
theorem dec_high (n b0 b1 b2 b3 : Nat) (h : ¬ b0 < 128) : 128 ≤ (decodeN n b0 b1 b2 b3).1 ∧ (decodeN n b0 b1 b2 b3).2 ≤ 4 ∧ (1 < (decodeN n b0 b1 b2 b3).2 → 128 ≤ b1) ∧ (2 < (decodeN n b0 b1 b2 b3).2 → 128 ≤ b2) ∧ (3 < (decodeN n b0 b1 b2 b3).2 → 128 ≤ b3) := by
  unfold decodeN
  rw [if_neg h]
  repeat' split
  all_goals (simp only; omega)
def isSepR (r : Nat) : Bool := r == 32 || r == 9
theorem sep_low (b : UInt8) : isSepR b.toNat = isSep b := by
  unfold isSepR isSep
  congr 1
  · rw [Bool.eq_iff_iff]; simp [← UInt8.toNat_inj]
  · rw [Bool.eq_iff_iff]; simp [← UInt8.toNat_inj]
theorem sep_high (b : UInt8) (h : 128 ≤ b.toNat) : isSep b = false := by
  rw [← sep_low]; unfold isSepR; simp; omega
theorem fldGo_run : ∀ (a cur r : Bs), (∀ x ∈ a, isSep x = false) → fldGo cur (a ++ r) = fldGo (cur ++ a) r
  | [], cur, r, _ => by simp
  | x :: a, cur, r, h => by
    rw [List.cons_append, fldGo, if_neg (by rw [h x List.mem_cons_self]; simp), fldGo_run a _ _ fun y hy => h y (List.mem_cons_of_mem _ hy)]
    simp
theorem drop_at (l : Bs) (p : Nat) (h : p < l.length) : l.drop p = l.getD p 0 :: l.drop (p + 1) := by
  rw [List.drop_eq_getElem_cons h]; simp [List.getD, h]
/-- One step of the library's pass. -/
theorem rune_step (s : ByteArray) (pos : Nat) (h : pos < s.size) : (isSepR (Utf8.decode s pos).1 = true ∧ isSep (s.data.toList.getD pos 0) = true ∧ (Utf8.decode s pos).2 = 1) ∨
    (isSepR (Utf8.decode s pos).1 = false ∧ ∀ x ∈ (s.data.toList.drop pos).take (Utf8.decode s pos).2, isSep x = false) := by
  have hs : s.data.toList.length = s.size := (size_eq s).symm
  generalize hL : s.data.toList = L at *
  by_cases hb : (L.getD pos 0).toNat < 128
  · have hd : Utf8.decode s pos = ((L.getD pos 0).toNat, 1) := by rw [decode_N, hL, dec_low _ _ _ _ _ hb]
    rw [hd, sep_low]
    cases hq : isSep (L.getD pos 0)
    · refine .inr ⟨rfl, fun x hx => ?_⟩
      rw [drop_at L pos (by omega)] at hx
      simp at hx
      rw [hx]; simpa using hq
    · exact .inl ⟨rfl, rfl, rfl⟩
  · have hd := decode_N s pos
    rw [hL] at hd
    obtain ⟨h1, h2, h3, h4, h5⟩ := dec_high (L.length - pos) (L.getD pos 0).toNat (L.getD (pos + 1) 0).toNat (L.getD (pos + 2) 0).toNat (L.getD (pos + 3) 0).toNat hb
    rw [← hd] at h1 h2 h3 h4 h5
    refine .inr ⟨by unfold isSepR; simp; omega, fun x hx => sep_high x ?_⟩
    obtain ⟨j, hj, rfl⟩ := List.getElem_of_mem hx
    rw [List.getElem_take, List.getElem_drop]
    have hj2 : j < (Utf8.decode s pos).2 := by rw [List.length_take] at hj; omega
    have hj3 : pos + j < L.length := by rw [List.length_take, List.length_drop] at hj; omega
    have e : L[pos + j] = L.getD (pos + j) 0 := by simp [List.getD, hj3]
    rw [e]
    rcases (show j = 0 ∨ j = 1 ∨ j = 2 ∨ j = 3 by omega) with rfl | rfl | rfl | rfl
    · rw [Nat.add_zero]; omega
    · exact h3 (by omega)
    · exact h4 (by omega)
    · exact h5 (by omega)
theorem fldGo_nil (cur : Bs) : fldGo cur [] = if cur = [] then [] else [cur] := by rw [fldGo]
theorem spans_fld (s : ByteArray) : ∀ (f pos : Nat) (st : Option Nat) (acc : List (Nat × Nat)), s.size ≤ pos + f → pos ≤ s.size → (∀ a, st = some a → a < pos) →
    acc.map (fun p => pieceU s.data.toList p.1 p.2) ++ fldGo (openPiece s.data.toList st pos) (s.data.toList.drop pos) = (closeSpans s (spansFromP isSepR s f pos st acc)).map (fun p => pieceU s.data.toList p.1 p.2)
  | f, pos, st, acc, h, hp, hst => by
    by_cases hlt : pos < s.size
    · obtain ⟨f, rfl⟩ : ∃ g, f = g + 1 := ⟨f - 1, by omega⟩
      have hw := width_pos s pos
      have hwn : pos + (Utf8.decode s pos).2 ≤ s.size := by
        have := decodeN_le_n' (s.size - pos) (s.get! pos).toNat (s.get! (pos + 1)).toNat (s.get! (pos + 2)).toNat (s.get! (pos + 3)).toNat (by omega)
        rw [← decode_at] at this
        omega
      have hL : pos < s.data.toList.length := by rw [← size_eq]; exact hlt
      simp only [spansFromP, if_pos hlt]
      rcases rune_step s pos hlt with ⟨h1, h2, h3⟩ | ⟨h1, h2⟩
      · rw [h1, h3]
        simp only [if_true]
        rw [drop_at _ _ hL, fldGo, if_pos h2]
        cases st with
        | none =>
          have ih := spans_fld s f (pos + 1) none acc (by omega) (by omega) (fun a h => by cases h)
          simpa [openPiece] using ih
        | some a =>
          have hpn := pieceU_ne s.data.toList a pos (hst a rfl) (by omega)
          have ih := spans_fld s f (pos + 1) none (acc ++ [(a, pos)]) (by omega) (by omega) (fun a h => by cases h)
          simpa [openPiece, hpn] using ih
      · rw [h1]
        simp only [Bool.false_eq_true, if_false]
        have e0 : s.data.toList.drop pos = (s.data.toList.drop pos).take (Utf8.decode s pos).2 ++ s.data.toList.drop (pos + (Utf8.decode s pos).2) := by
          rw [← List.drop_drop, List.take_append_drop]
        rw [e0, fldGo_run _ _ _ h2]
        cases st with
        | none =>
          have ih := spans_fld s f (pos + (Utf8.decode s pos).2) (some pos) acc (by omega) hwn (fun a h => by cases h; omega)
          have e : ([] : List UInt8) ++ (s.data.toList.drop pos).take (Utf8.decode s pos).2 = pieceU s.data.toList pos (pos + (Utf8.decode s pos).2) := by
            unfold pieceU
            rw [List.nil_append, Nat.add_sub_cancel_left]
          simp only [openPiece] at ih ⊢
          rw [e]
          exact ih
        | some a =>
          have ih := spans_fld s f (pos + (Utf8.decode s pos).2) (some a) acc (by omega) hwn (fun b h => by cases h; have := hst a rfl; omega)
          simp only [openPiece] at ih ⊢
          rw [pieceU_grow _ _ _ _ (Nat.le_of_lt (hst a rfl))]
          exact ih
    · obtain rfl : pos = s.size := by omega
      have hd : s.data.toList.drop s.size = [] := List.drop_eq_nil_of_le (by rw [← size_eq]; exact Nat.le_refl _)
      rw [hd, fldGo_nil, spansFromP_end _ s _ _ _ _ hlt]
      cases st with
      | none => simp [closeSpans, openPiece]
      | some a =>
        have := pieceU_ne s.data.toList a s.size (hst a rfl) (by rw [← size_eq]; exact Nat.le_refl _)
        simp [closeSpans, openPiece, this]
theorem goFields_fld (s : ByteArray) : goFieldsP isSepR s = (fldGo [] s.data.toList).map fun x => (⟨x.toArray⟩ : ByteArray) := by
  have h := spans_fld s s.size 0 none [] (by omega) (Nat.zero_le _) (fun a h => by cases h)
  simp only [List.map_nil, List.nil_append, openPiece, List.drop_zero] at h
  rw [h, List.map_map]
  unfold goFieldsP spansOfP
  refine List.map_congr_left fun p _ => ?_
  apply ByteArray.ext
  apply Array.toList_inj.mp
  simp [pieceU]
theorem index_one_eq (c : UInt8) (r : Bs) : index (c :: r) [c] = 0 := by rw [index]; simp [List.isPrefixOf]
theorem index_one_ne (x c : UInt8) (r : Bs) (h : x ≠ c) : index (x :: r) [c] = if index r [c] == -1 then -1 else index r [c] + 1 := by
  have hp : ([c] : List UInt8).isPrefixOf (x :: r) = false := by simp [List.isPrefixOf, Ne.symm h]
  rw [index, hp]; simp
theorem index_miss {x c : UInt8} {r : Bs} (h : x ≠ c) (hm : index r [c] = -1) : index (x :: r) [c] = -1 := by rw [index_one_ne x c r h, hm]; rfl
theorem index_hit {x c : UInt8} {r : Bs} (h : x ≠ c) {j : Nat} (hm : index r [c] = j) : index (x :: r) [c] = ((j + 1 : Nat) : Int) := by
  rw [index_one_ne x c r h, hm, if_neg (by simp)]; omega
theorem index_nat {c : UInt8} {r : Bs} (h : index r [c] ≠ -1) : ∃ j : Nat, index r [c] = j := by
  have := index_ge r [c]
  exact ⟨(index r [c]).toNat, by omega⟩
theorem split_spl (c : UInt8) : ∀ s : Bs, split s [c] = spl c s
  | [] => by unfold split; rw [count_miss (by simp [index])]; rfl
  | x :: r => by
    have ih := split_spl c r
    by_cases hx : x = c
    · subst hx
      unfold split
      rw [count_cons_eq, Nat.add_comm, splitK, index_one_eq, if_neg (by decide), spl, if_pos rfl, ← ih]
      rfl
    · unfold split at ih ⊢
      rw [count_cons_ne x c r hx, spl, if_neg hx, ← ih]
      cases hn : count r [c] with
      | zero => rfl
      | succ k =>
        obtain ⟨j, hj⟩ := index_nat (c := c) (r := r) fun e => by rw [count_miss e] at hn; omega
        rw [splitK, splitK, index_hit hx hj, hj, if_neg (by simp; omega), if_neg (by simp)]
        rfl
theorem cut_ahead (c : UInt8) : ∀ s : Bs, (cut s [c]).1 = ahead c s ∧ (cut s [c]).2.1 = s.drop ((ahead c s).length + 1)
  | [] => by simp [cut, index, ahead]
  | x :: r => by
    obtain ⟨h1, h2⟩ := cut_ahead c r
    by_cases hx : x = c
    · subst hx
      unfold cut
      rw [index_one_eq, if_pos (by decide)]
      simp [ahead]
    · have ha : ahead c (x :: r) = x :: ahead c r := by unfold ahead; rw [List.takeWhile_cons, if_pos (by simpa using hx)]
      rw [ha]
      unfold cut at h1 h2 ⊢
      by_cases hm : index r [c] = -1
      · rw [hm, if_neg (by decide)] at h1 h2
        rw [index_miss hx hm, if_neg (by decide)]
        exact ⟨congrArg (x :: ·) h1, h2⟩
      · obtain ⟨j, hj⟩ := index_nat hm
        rw [hj, if_pos (by omega)] at h1 h2
        rw [index_hit hx hj, if_pos (by omega)]
        rw [Int.toNat_natCast] at h1 h2 ⊢
        refine ⟨congrArg (x :: ·) h1, ?_⟩
        show (x :: r).drop (j + 1 + 1) = _
        exact h2
end Go.Proofs.YtmhojfpidedjeaaDoor
namespace Go.Proofs.YtmhojfpidedjeaaDoor
open Go.RowKit
/-- What an operation leaves: its value, of which F says what is known. -/
def LeftR (R : World → World → Prop) (F : Nat → Value → World → Prop) (i : Nat) (dst : Option Tmp) (a : Act) (w : World) (a' : Act) (w' : World) : Prop := ∃ v, a' = a.put dst v ∧ F i v w' ∧ R w w'
/-- Where an operation alone ends: with its value; or as the region would end. -/
def OneQR (R : World → World → Prop) (Q : Exit → Act → World → Prop) (F : Nat → Value → World → Prop) (i : Nat) (dst : Option Tmp) (a : Act) (w : World) : Exit → Act → World → Prop
  | .normal, a', w' => LeftR R F i dst a w a' w'
  | e, a', w' => Q e a' w'
section
variable {P : Program} {Q : Exit → Act → World → Prop} {l : List Oper} {F : Nat → Value → World → Prop} {a0 : Act} {w0 : World} {R : World → World → Prop}
end
end Go.Proofs.YtmhojfpidedjeaaDoor
namespace Go.Proofs.YtmhojfpidedjeaaDoor
open Go.RowKit
/-- One obligation for each of the first operations. -/
def StepsT (R : World → World → Prop) (P : Program) (ops : Array Oper) (l : List Oper) (Q : Exit → Act → World → Prop) (F : Nat → Value → World → Prop) (a0 : Act) (w0 : World) : List Oper → Nat → Prop
  | [], _ => True
  | o :: r, k => (∀ (vs : Nat → Value) (w : World), R w0 w → Knows F vs w o.after.toList → (∀ j, predB l k j = true → vs j = oldAt l a0 j) →
      wpList P ops (OneQR R Q F k o.dst (putAll l 0 vs a0) w) [o] (putAll l 0 vs a0) w) ∧ StepsT R P ops l Q F a0 w0 r (k + 1)
theorem stepsT_at {R : World → World → Prop} {P : Program} {ops : Array Oper} {l0 : List Oper} {Q : Exit → Act → World → Prop} {F : Nat → Value → World → Prop} {a0 : Act} {w0 : World} : ∀ (l : List Oper) (k : Nat), StepsT R P ops l0 Q F a0 w0 l k → ∀ (i : Nat) (o : Oper), l[i]? = some o → ops[k + i]? = some o →
    ∀ (vs : Nat → Value) (w : World), R w0 w → Knows F vs w o.after.toList → (∀ j, predB l0 (k + i) j = true → vs j = oldAt l0 a0 j) → ∀ K : Act → World → Prop, (∀ a' w', LeftR R F (k + i) o.dst (putAll l0 0 vs a0) w a' w' → K a' w') →
      wpOp P ops Q (k + i) K (putAll l0 0 vs a0) w
  | [], _, _, _, _, h, _ => by cases h
  | p :: r, k, h, 0, o, ho, hall => by
    obtain rfl : p = o := by simpa using ho
    intro vs w hw hk hold K hK
    have := h.1 vs w hw hk hold
    unfold wpOp
    rw [hall]
    simp only [wpList] at this
    show if _ then _ else _
    split
    · rename_i hwant
      rw [if_pos hwant] at this
      rcases this with this | ⟨h1, h2⟩
      · exact .inl (Oper.wp_turn (fun _ _ _ h => h) (fun h => h) (Oper.wp_mono (fun a' w' h => hK a' w' h) this))
      · exact .inr ⟨h1, h2⟩
    · rename_i hwant
      rw [if_neg hwant] at this
      exact hK _ _ this
  | p :: r, k, h, i + 1, o, ho, hall => by
    have := stepsT_at r (k + 1) h.2 i o (by simpa using ho) (by rw [show k + 1 + i = k + (i + 1) from by omega]; exact hall)
    rw [show k + 1 + i = k + (i + 1) from by omega] at this
    exact this
/-- Each from place n on stands behind all that come ahead in the text. -/
def forcedA (all : List Oper) (n : Nat) : Bool :=
  (List.range all.length).all fun k => decide (k < n) || (List.range k).all fun i => predB all i k || aheadB all all.length i k
theorem forced_listed {all : List Oper} {n : Nat} (hf : forcedA all n = true) {listed : Array Bool} (hc : Closed all listed) {k : Nat} {o : Oper} (ho : all[k]? = some o) (hk : n ≤ k) (hp : ∀ e ∈ o.after, Region.binds .any e = true → listed.getD e.on false = true) {i : Nat} (hi : i < k) : listed.getD i false = true := by
  unfold forcedA at hf
  rw [List.all_eq_true] at hf
  have h1 := hf k (List.mem_range.2 (List.getElem?_eq_some_iff.1 ho).1)
  rw [Bool.or_eq_true, decide_eq_true_eq] at h1
  rcases h1 with h1 | h1
  · omega
  rw [List.all_eq_true] at h1
  have h2 := h1 i (List.mem_range.2 hi)
  rw [Bool.or_eq_true] at h2
  rcases h2 with h2 | h2
  · unfold predB at h2
    rw [ho] at h2
    simp only [List.any_eq_true, Bool.and_eq_true, beq_iff_eq] at h2
    obtain ⟨e, he, heq, hb⟩ := h2
    rw [← heq]
    exact hp e (by simpa using he) hb
  · exact ahead_listed hc _ _ _ h2 o ho hp
section
variable {P : Program} {Q : Exit → Act → World → Prop} {l t0 : List Oper} {F : Nat → Value → World → Prop} {a0 : Act} {w0 : World} {R : World → World → Prop}
theorem same_getD {listed : Array Bool} {i : Nat} (h : i < listed.size) : listed.getD i false = listed.getD i true := by
  rw [Array.getD_eq_getD_getElem?, Array.getD_eq_getD_getElem?, Array.getElem?_eq_getElem h]; rfl
/-- The last ones, one behind the other. -/
theorem run_tail {all : List Oper} {n0 : Nat} (hb : edgesBack all 0 = true) (hall : all.drop n0 = t0) (hf : forcedA all n0 = true) : ∀ (t : List Oper) (k : Nat), t0.drop k = t → n0 + k ≤ all.length →
    ∀ (fuel : Nat) (listed : Array Bool) (a : Act) (w : World), listed.size = all.length → ((List.range all.length).filter fun i => !listed.getD i true).length ≤ fuel →
      (∀ i, i < n0 + k → listed.getD i true = true) → (∀ i, n0 + k ≤ i → i < all.length → listed.getD i true = false) → wpList P all.toArray Q t a w → wpAny P .any all.toArray Q fuel listed a w := by
  intro t
  induction t with
  | nil =>
    intro k hk hkl fuel listed a w hsz hfu h1 h2 hw
    have hlen : all.length ≤ n0 + k := by
      have : (t0.drop k).length = 0 := by rw [hk]; rfl
      rw [← hall, List.length_drop, List.length_drop] at this
      omega
    have hr : Region.ready .any all.toArray listed = [] := by
      rw [List.eq_nil_iff_forall_not_mem]
      intro i hi
      rw [mem_ready] at hi
      obtain ⟨h3, o, ho, _⟩ := hi
      have hlt : i < all.length := by simpa using (Array.getElem?_eq_some_iff.1 ho).1
      rw [h1 i (by omega)] at h3
      cases h3
    cases fuel with
    | zero => exact ⟨hr, hw⟩
    | succ fuel => exact ⟨fun _ => hw, fun i hi => by rw [hr] at hi; cases hi⟩
  | cons o r ih =>
    intro k hk hkl fuel listed a w hsz hfu h1 h2 hw
    have hok : all[n0 + k]? = some o := by
      have e : (t0.drop k)[0]? = some o := by rw [hk]; rfl
      rw [← hall, List.drop_drop, List.getElem?_drop] at e
      simpa using e
    have hlt : n0 + k < all.length := (List.getElem?_eq_some_iff.1 hok).1
    have hmem : n0 + k ∈ (List.range all.length).filter fun i => !listed.getD i true := by
      rw [List.mem_filter]; exact ⟨List.mem_range.2 hlt, by rw [h2 _ (Nat.le_refl _) hlt]; rfl⟩
    have hpos := List.length_pos_of_mem hmem
    cases fuel with
    | zero => omega
    | succ fuel =>
      refine ⟨fun hr => ?_, fun i hi => ?_⟩
      · exfalso
        have : n0 + k ∈ Region.ready .any all.toArray listed := by
          rw [mem_ready]
          refine ⟨h2 _ (Nat.le_refl _) hlt, o, by simpa using hok, fun e he hbd => ?_⟩
          have := edges_back all 0 hb (n0 + k) o hok e he hbd
          rw [same_getD (by omega)]
          exact h1 _ (by omega)
        rw [hr] at this
        cases this
      · rw [mem_ready] at hi
        obtain ⟨h3, p, hp, hpre⟩ := hi
        have hpl : all[i]? = some p := by simpa using hp
        have hil : i < all.length := (List.getElem?_eq_some_iff.1 hpl).1
        have hge : n0 + k ≤ i := by
          by_cases hlt2 : i < n0 + k
          · rw [h1 i hlt2] at h3; cases h3
          · omega
        obtain rfl : i = n0 + k := by
          by_cases he : i = n0 + k
          · exact he
          · exfalso
            have hc : Closed all listed := by
              intro j q hq hlj e he hbd
              have hjl : j < all.length := (List.getElem?_eq_some_iff.1 hq).1
              have hej := edges_back all 0 hb j q hq e he hbd
              rw [same_getD (by omega)] at hlj ⊢
              by_cases hjk : j < n0 + k
              · exact h1 _ (by omega)
              · rw [h2 j (by omega) hjl] at hlj; cases hlj
            have := forced_listed hf hc hpl (by omega) hpre (i := n0 + k) (by omega)
            rw [same_getD (by omega), h2 _ (Nat.le_refl _) hlt] at this
            cases this
        have := hpl.symm.trans hok
        cases this
        have hnext : ∀ a' w', wpList P all.toArray Q r a' w' → wpAny P .any all.toArray Q fuel (listed.setIfInBounds (n0 + k) true) a' w' := by
          intro a' w' hw'
          refine ih (k + 1) (by rw [← List.drop_drop, hk]; rfl) (by omega) fuel _ a' w' (by simpa using hsz) ?_ ?_ ?_ hw'
          · have e2 : ((List.range all.length).filter fun j => !(listed.setIfInBounds (n0 + k) true).getD j true) = ((List.range all.length).filter fun j => !listed.getD j true).filter fun j => j != n0 + k := by
              rw [List.filter_filter]
              refine List.filter_congr fun j hj => ?_
              by_cases hji : j = n0 + k
              · subst hji
                have hin : n0 + k < listed.size := by omega
                simp [Array.getD_eq_getD_getElem?, hin]
              · rw [getD_set_ne _ (Ne.symm hji)]; simp [hji]
            rw [e2]
            have := (List.length_filter_lt_length_iff_exists (p := fun j => j != n0 + k) (l := (List.range all.length).filter fun j => !listed.getD j true)).2 ⟨n0 + k, hmem, by simp⟩
            omega
          · intro j hj
            by_cases hji : j = n0 + k
            · subst hji
              have hin : n0 + k < listed.size := by omega
              simp [Array.getD_eq_getD_getElem?, hin]
            · rw [getD_set_ne _ (Ne.symm hji)]; exact h1 j (by omega)
          · intro j hj hjl
            rw [getD_set_ne _ (by omega)]; exact h2 j (by omega) hjl
        unfold wpOp
        rw [hp]
        simp only [wpList] at hw
        show if _ then _ else _
        split
        · rename_i hwant
          rw [if_pos hwant] at hw
          rcases hw with hw | ⟨g1, g2⟩
          · exact .inl (Oper.wp_mono hnext hw)
          · exact .inr ⟨g1, g2⟩
        · rename_i hwant
          rw [if_neg hwant] at hw
          exact hnext _ _ hw
theorem any_factsT (hRt : ∀ a b c, R a b → R b c → R a c) (hF : ∀ i v w w', F i v w → R w w' → F i v w') (hd : dstsApart l = true) (hb : edgesBack (l ++ t0) 0 = true) (hf : forcedA (l ++ t0) l.length = true)
    (hs : StepsT R P (l ++ t0).toArray l Q F a0 w0 l 0)
    (he : ∀ vs w, R w0 w → KnowsAll F vs w 0 l.length → wpList P (l ++ t0).toArray Q t0 (putAll l 0 vs a0) w) :
    ∀ (fuel : Nat) (listed : Array Bool) (vs : Nat → Value) (w : World), listed.size = (l ++ t0).length → ((List.range (l ++ t0).length).filter fun i => !listed.getD i true).length ≤ fuel → R w0 w → Closed (l ++ t0) listed → (∀ j, j < l.length → listed.getD j true = false → vs j = oldAt l a0 j) →
      (∀ i, i < l.length → listed.getD i true = true → F i (vs i) w) → (∀ i, l.length ≤ i → i < (l ++ t0).length → listed.getD i true = false) → wpAny P .any (l ++ t0).toArray Q fuel listed (putAll l 0 vs a0) w := by
  have hll : l.length ≤ (l ++ t0).length := by simp
  have hend : ∀ (fuel : Nat) (listed : Array Bool) (vs : Nat → Value) (w : World), listed.size = (l ++ t0).length → ((List.range (l ++ t0).length).filter fun i => !listed.getD i true).length ≤ fuel → R w0 w → (∀ i, i < l.length → listed.getD i true = true) →
      (∀ i, i < l.length → listed.getD i true = true → F i (vs i) w) → (∀ i, l.length ≤ i → i < (l ++ t0).length → listed.getD i true = false) → wpAny P .any (l ++ t0).toArray Q fuel listed (putAll l 0 vs a0) w := by
    intro fuel listed vs w hsz hn hw hall hk htl
    refine run_tail (n0 := l.length) (t0 := t0) hb (by simp) hf t0 0 rfl (by simp) fuel listed _ w hsz hn (fun i hi => hall i (by omega)) (fun i hi hil => htl i (by omega) hil) ?_
    exact he vs w hw (knowsAll_of F vs w _ 0 fun i _ hi => hk i (by omega) (hall i (by omega)))
  have hget : ∀ i o, i < l.length → (l ++ t0)[i]? = some o → l[i]? = some o := fun i o hi h => by rwa [List.getElem?_append_left hi] at h
  intro fuel
  induction fuel with
  | zero =>
    intro listed vs w hsz hn hw hcl hold hk htl
    refine hend 0 listed vs w hsz hn hw (fun i hi => ?_) hk htl
    cases hl : listed.getD i true with
    | true => rfl
    | false =>
      exfalso
      have : i ∈ (List.range (l ++ t0).length).filter fun i => !listed.getD i true := by
        rw [List.mem_filter]; exact ⟨List.mem_range.2 (by omega), by simp [hl]⟩
      have := List.length_pos_of_mem this
      omega
  | succ fuel ih =>
    intro listed vs w hsz hn hw hcl hold hk htl
    by_cases hallL : ∀ i, i < l.length → listed.getD i true = true
    · exact hend (fuel + 1) listed vs w hsz hn hw hallL hk htl
    · refine ⟨fun hr => ?_, fun i hi => ?_⟩
      · exfalso
        apply hallL
        have all : ∀ (n i : Nat), i < n → i < l.length → listed.getD i true = true := by
          intro n
          induction n with
          | zero => intro i h; omega
          | succ n ihn =>
            intro i h1 h2
            cases hl : listed.getD i true with
            | true => rfl
            | false =>
              exfalso
              have : i ∈ Region.ready .any (l ++ t0).toArray listed := by
                rw [mem_ready]
                have ho : (l ++ t0)[i]? = some l[i] := by rw [List.getElem?_append_left h2]; exact List.getElem?_eq_getElem h2
                refine ⟨hl, l[i], by simpa using ho, fun e hee hbd => ?_⟩
                have hlt := edges_back (l ++ t0) 0 hb i l[i] ho e hee hbd
                rw [same_getD (by omega)]
                exact ihn e.on (by omega) (by omega)
              rw [hr] at this
              cases this
        exact fun i hi => all (i + 1) i (by omega) hi
      · rw [mem_ready] at hi
        obtain ⟨h1, o, ho, hpre⟩ := hi
        have hol' : (l ++ t0)[i]? = some o := by simpa using ho
        have hlt' : i < (l ++ t0).length := (List.getElem?_eq_some_iff.1 hol').1
        have hlt : i < l.length := by
          by_cases h : i < l.length
          · exact h
          · exfalso
            apply hallL
            intro j hj
            have := forced_listed hf hcl hol' (by omega) hpre (i := j) (by omega)
            rwa [same_getD (by omega)] at this
        have hol := hget i o hlt hol'
        have hknow : Knows F vs w o.after.toList := by
          refine knows_of F vs w _ fun e hee hbind => ?_
          have hee' : e ∈ o.after := by simpa using hee
          have hlt2 := edges_back (l ++ t0) 0 hb i o hol' e hee' hbind
          have hon : e.on < l.length := by omega
          refine hk e.on hon ?_
          rw [← same_getD (by omega)]
          exact hpre e hee' hbind
        have hstep := stepsT_at l 0 hs i o hol (by simpa using hol') vs w hw hknow (by
          intro j hj
          rw [Nat.zero_add] at hj
          unfold predB at hj
          cases hoj : l[j]? with
          | none => rw [hoj] at hj; cases hj
          | some oj =>
            rw [hoj] at hj
            simp only [List.any_eq_true, Bool.and_eq_true, beq_iff_eq] at hj
            obtain ⟨e, he, heq, hbe⟩ := hj
            have hjl : j < l.length := (List.getElem?_eq_some_iff.1 hoj).1
            have hoj' : (l ++ t0)[j]? = some oj := by rw [List.getElem?_append_left hjl]; exact hoj
            refine hold j hjl ?_
            rw [← same_getD (by omega)]
            cases hlj : listed.getD j false with
            | false => rfl
            | true =>
              have := hcl j oj hoj' hlj e (by simpa using he) hbe
              rw [heq, same_getD (by omega), h1] at this; cases this)
        rw [Nat.zero_add] at hstep
        refine hstep _ fun a' w' ⟨v, ha', hv, hw'⟩ => ?_
        subst ha'
        have e := putAll_upd v l 0 vs a0 i o hol hd
        rw [Nat.zero_add] at e
        rw [← e]
        refine ih (listed.setIfInBounds i true) (upd vs i v) w' (by simpa using hsz) ?_ (hRt _ _ _ hw hw') ?_ ?_ ?_ ?_
        · have e2 : ((List.range (l ++ t0).length).filter fun j => !(listed.setIfInBounds i true).getD j true) = ((List.range (l ++ t0).length).filter fun j => !listed.getD j true).filter fun j => j != i := by
            rw [List.filter_filter]
            refine List.filter_congr fun j hj => ?_
            by_cases hji : j = i
            · subst hji
              have hin : j < listed.size := by omega
              simp [Array.getD_eq_getD_getElem?, hin]
            · rw [getD_set_ne _ (Ne.symm hji)]; simp [hji]
          rw [e2]
          have hmem : i ∈ (List.range (l ++ t0).length).filter fun j => !listed.getD j true := by
            rw [List.mem_filter]; exact ⟨List.mem_range.2 hlt', by simp [h1]⟩
          have := (List.length_filter_lt_length_iff_exists (p := fun j => j != i) (l := (List.range (l ++ t0).length).filter fun j => !listed.getD j true)).2 ⟨i, hmem, by simp⟩
          omega
        · intro j p hp hjl x hx hbx
          by_cases hji : j = i
          · subst hji
            have := hol'.symm.trans hp; cases this
            exact getD_set_true (hpre x hx hbx)
          · rw [getD_set_ne _ (Ne.symm hji)] at hjl
            exact getD_set_true (hcl j p hp hjl x hx hbx)
        · intro j hj hlj
          by_cases hji : j = i
          · subst hji
            have hin : j < listed.size := by omega
            simp [Array.getD_eq_getD_getElem?, hin] at hlj
          · rw [upd_other _ _ hji]
            rw [getD_set_ne _ (Ne.symm hji)] at hlj
            exact hold j hj hlj
        · intro j hj hlj
          by_cases hji : j = i
          · subst hji; rw [upd_same]; exact hv
          · rw [upd_other _ _ hji]
            rw [getD_set_ne _ (Ne.symm hji)] at hlj
            exact hF _ _ _ _ (hk j hj hlj) hw'
        · intro j hj hjl
          rw [getD_set_ne _ (by omega)]
          exact htl j hj hjl
end
/-- THE RULE: the first n operations in whatever order, then the others. -/
theorem wp_region_tail {P : Program} {Q : Exit → Act → World → Prop} {all : List Oper} {a0 : Act} {w0 : World} {id : Nat} (n : Nat) (R : World → World → Prop) (hRt : ∀ a b c, R a b → R b c → R a c) (hRd : R w0 w0.drew) (hm : P.follows .mixedOrders = true)
    (hd : dstsApart (all.take n) = true) (hb : edgesBack all 0 = true) (hf : forcedA all n = true) (hn : n ≤ all.length) (Fs : List (Value → World → Prop)) (hF : ∀ i v w w', nthF Fs i v w → R w w' → nthF Fs i v w')
    (hs : StepsT R P all.toArray (all.take n) Q (nthF Fs) a0 w0 (all.take n) 0)
    (he : ∀ vs w, R w0 w → KnowsAll (nthF Fs) vs w 0 n → wpList P all.toArray Q (all.drop n) (putAll (all.take n) 0 vs a0) w) : (Code.region id all.toArray true).wp P Q a0 w0 := by
  refine wp_region_any hm ?_
  have hln : (all.take n).length = n := by rw [List.length_take]; omega
  have hcat : all.take n ++ all.drop n = all := List.take_append_drop n all
  have e := putAll_old (oldAt (all.take n) a0) a0 (all.take n) 0 (fun i o d hi hdst => by simp only [oldAt, Nat.zero_add, hi, Option.bind_some, hdst])
  have h := any_factsT (l := all.take n) (t0 := all.drop n) (P := P) (Q := Q) (F := nthF Fs) (a0 := a0) (w0 := w0) hRt hF hd (by rw [hcat]; exact hb) (by rw [hcat, hln]; exact hf) (by rw [hcat]; exact hs) (by rw [hcat, hln]; exact he)
    all.length (Array.replicate all.length false) (oldAt (all.take n) a0) { w0 with drawn := w0.drawn + 1 } (by rw [hcat]; simp) (by rw [hcat]; exact Nat.le_trans (List.length_filter_le _ _) (by simp)) hRd
    (fun i o ho hl => by
      have hi : i < all.length := by rw [← hcat]; exact (List.getElem?_eq_some_iff.1 ho).1
      simp [Array.getD_eq_getD_getElem?, hi] at hl)
    (fun _ _ _ => rfl)
    (fun i hi hl => by
      have : i < all.length := by omega
      simp [Array.getD_eq_getD_getElem?, this] at hl)
    (fun i _ hi => by
      rw [hcat] at hi
      simp [Array.getD_eq_getD_getElem?, hi])
  rw [e, hcat] at h
  simpa using h
/-- .. where nothing that was there turns. -/
theorem wp_region_since_tail {P : Program} {Q : Exit → Act → World → Prop} {all : List Oper} {a0 : Act} {w0 : World} {id : Nat} (n : Nat) (hm : P.follows .mixedOrders = true)
    (hd : dstsApart (all.take n) = true) (hb : edgesBack all 0 = true) (hf : forcedA all n = true) (hn : n ≤ all.length) (Fs : List (Value → World → Prop)) (hF : AllStable Fs)
    (hs : StepsT Since P all.toArray (all.take n) Q (nthF Fs) a0 w0 (all.take n) 0)
    (he : ∀ vs w, Since w0 w → KnowsAll (nthF Fs) vs w 0 n → wpList P all.toArray Q (all.drop n) (putAll (all.take n) 0 vs a0) w) : (Code.region id all.toArray true).wp P Q a0 w0 :=
  wp_region_tail n Since (fun _ _ _ => Since.trans) (Since.refl _).drew hm hd hb hf hn Fs (nthF_stable Fs hF) hs he
end Go.Proofs.YtmhojfpidedjeaaDoor
namespace Go.Proofs.YtmhojfpidedjeaaDoor
open Go.RowKit
set_option linter.unusedVariables false
theorem BuF.keep {B b : Nat} {p : Value} {l : List Value} {w w' : World} (h : BuF B b p l w) (s : Since w w') : BuF B b p l w' := by
  obtain ⟨hB, v, hb, hown, hne⟩ := h
  refine ⟨hB, v, (Below.block s b (Array.getElem?_eq_some_iff.1 hb).1).trans hb, ⟨hown.1, ?_⟩, hne⟩
  rcases hown.2 with h | ⟨g, cap, cur, fz, h1, h2, h3, h4⟩
  · exact .inl h
  · exact .inr ⟨g, cap, cur, fz, h1, h2, (Below.block s g (Array.getElem?_eq_some_iff.1 h3).1).trans h3, h4⟩
theorem Bu.keep {B b : Nat} {l : Bs} {w w' : World} (h : Bu B b l w) (s : Since w w') : Bu B b l w' := h.elim (fun h => .inl (BuF.keep h s)) (fun h => .inr (BuF.keep h s))
theorem Bu.lt {B b : Nat} {l : Bs} {w : World} (h : Bu B b l w) : b < w.heap.size := h.elim (fun h => h.lt) (fun h => h.lt)
theorem byte_app (a b : Bs) : Lib.byteCells (a ++ b) = Lib.byteCells a ++ Lib.byteCells b := by unfold Lib.byteCells; exact List.map_append
theorem bu_app {B b : Nat} {l : Bs} {s : ByteArray} {w : World} (h : BuF B b (.pointer (some ⟨b, 0, none⟩)) (Lib.byteCells l ++ Lib.strCells s) w) {m : Bs} (hm : l ++ s.data.toList = m) : Bu B b m w := by
  subst hm
  exact .inr (by rw [byte_app]; exact h)
theorem bu_app1 {B b : Nat} {l : Bs} {c : UInt8} {n : Int} (hn : n = c.toNat) {w : World} (h : BuF B b (.pointer (some ⟨b, 0, none⟩)) (Lib.byteCells l ++ [.int .u8 n]) w) {m : Bs} (hm : l ++ [c] = m) : Bu B b m w := by
  subst hm; subst hn
  exact .inr (by rw [byte_app]; exact h)
theorem Kept.since {B b : Nat} {w w' : World} (s : Since w w') (hB : B ≤ w.heap.size) : Kept B b w w' :=
  ⟨Below.mono s hB, fun k o hk _ _ => (Below.block s k (Array.getElem?_eq_some_iff.1 hk).1).trans hk⟩
theorem Kept.size {B b : Nat} {w w' : World} (h : Kept B b w w') : w.heap.size ≤ w'.heap.size := h.below.size
theorem bytes_len (s : ByteArray) : s.data.toList.length = s.size := Array.length_toList
theorem flat_take {α : Type} (f : α → Bs) (l : List α) (k : Nat) : ((l.take k).flatMap f).length ≤ (l.flatMap f).length := by
  have : l.flatMap f = (l.take k).flatMap f ++ (l.drop k).flatMap f := by rw [← List.flatMap_append, List.take_append_drop]
  rw [this, List.length_append]; omega
theorem flat_next {α : Type} (f : α → Bs) {l : List α} {k : Nat} {x : α} (h : l[k]? = some x) : (l.take (k + 1)).flatMap f = (l.take k).flatMap f ++ f x := by
  rw [List.take_add_one, h, List.flatMap_append]; simp
/-- A block that is none of the builder's. -/
theorem Kept.heap {B b k : Nat} {w w' : World} {cs : Array Value} {T : TypeId} {fz : Nat × Nat} (h : Kept B b w w') (hk : w.heap[k]? = some (.cells cs T fz)) (hb : k ≠ b) (hT : T ≠ 5) : w'.heap[k]? = some (.cells cs T fz) :=
  h.others k _ hk (fun e => hb (by cases e; rfl)) (fun c fz e => by cases e; exact hT rfl)
theorem ta_hit {P : Program} {t : TypeId} {u : TypeDesc} (h : P.underlying t = some u) (hn : ∀ m, u ≠ .interface m) (v : Value) (xT : TypeId) (w : World) : (Instr.typeAssert (.iface t v) xT t true).run P w = .ok (.tuple #[v, .bool true]) w := by
  cases u <;> first | exact absurd rfl (hn _) | simp [Instr.typeAssert, run_underlying h]
theorem ta_miss {P : Program} {s t : TypeId} {u : TypeDesc} {z : Value} (h : P.underlying t = some u) (hn : ∀ m, u ≠ .interface m) (hz : ∀ w, (zeroValue t).run P w = .ok z w) (hne : s ≠ t) (v : Value) (xT : TypeId) (w : World) : (Instr.typeAssert (.iface s v) xT t true).run P w = .ok (.tuple #[z, .bool false]) w := by
  cases u <;> first | exact absurd rfl (hn _) | simp [Instr.typeAssert, run_underlying h, hne, hz]
/-- What stands behind a line's first word. -/
inductive It where
  | ns (v : Value) (l : List Int)
  | n (x : Int)
  | w (x : Int)
  | s (x : ByteArray)
def itc : It → List Value
  | .ns v _ => [.iface 33 v]
  | .n x => [.iface 3 (.int .i64 x)]
  | .w x => [.iface 21 (.int .i32 x)]
  | .s x => [.iface 9 (.string x)]
def In64 (x : Int) : Prop := -9223372036854775808 ≤ x ∧ x ≤ 9223372036854775807
def ItIn (w : World) : It → Prop
  | .ns v l => Ints w v l ∧ ∀ x ∈ l, In64 x
  | .n x => In64 x
  | .w x => In32W x
  | .s _ => True
def itS : It → Bs
  | .ns _ l => allS l
  | .n x => dS x
  | .w x => dS x
  | .s x => 32 :: x.data.toList
abbrev ItsIn (w : World) (v : Value) (l : List It) : Prop := RowIn itc 1 ItIn w v l
theorem nums_lenI {k : IntKind} {w : World} {v : Value} {l : List Int} (h : Nums k w v l) : ∃ a cap, v = .slice a l.length cap := by
  rcases h with ⟨_, h1, rfl⟩ | ⟨b, off, cap, h1, _⟩
  · exact ⟨_, _, h1⟩
  · exact ⟨_, _, h1⟩
theorem nums_at {k : IntKind} {w : World} {a : Option Addr} {n cap : Nat} {l : List Int} (h : Nums k w (.slice a n cap) l) {j : Nat} (hj : j < l.length) : ∃ b off x, a = some ⟨b, off, none⟩ ∧ b < w.heap.size ∧ l[j]? = some x ∧ w.cell? ⟨b, off + j, none⟩ = some (.int k x) := by
  rcases h with ⟨_, _, h2⟩ | ⟨b, off, cap', h1, _, _, hb, hc⟩
  · subst h2; simp at hj
  · cases h1; exact ⟨b, off, _, rfl, hb, List.getElem?_eq_getElem hj, hc j _ (List.getElem?_eq_getElem hj)⟩
theorem RowIn.get {α : Type} {f : α → List Value} {sz : Nat} {p : World → α → Prop} {w : World} {v : Value} {l : List α} (h : RowIn f sz p w v l) {k : Nat} {x : α} (hx : l[k]? = some x) : p w x := by
  rcases h with ⟨_, _, rfl⟩ | ⟨b, off, cap', _, _, _, _, h5⟩
  · simp at hx
  · exact (h5 k x hx).2
/-- The library's variables that are read. -/
structure LaidT (w : World) : Prop where
  s : LaidS w
  tab : Lib.TabIs Tryd.prog w "strings.asciiSpace" .u8 Lib.asciiSpaceTab
  mx : ∃ m, w.cell? ⟨2, 0, none⟩ = some (.int .i64 m)
theorem LaidT.keep {w w' : World} (h : LaidT w) (hb : Since w w') : LaidT w' := by
  obtain ⟨h1, h2, m, h3⟩ := h
  refine ⟨h1.keep hb, TabIs_below (g := 0) (by kernel_rfl) h2 hb, m, ?_⟩
  rw [hb.cell]
  · exact h3
  · exact World.block_lt_of_cell? _ _ h3
theorem dS_len (x : Int) (h : In64 x) : (dS x).length ≤ 22 := by
  have := Lib.itoa_length_le x h.1 h.2
  unfold dS; simp only [List.length_cons]; omega
theorem itoa_fits (x : Int) (h : In64 x) : ¬ 9223372036854775807 < 1 + (Lib.itoa x).length := by
  have := Lib.itoa_length_le x h.1 h.2
  omega
end Go.Proofs.YtmhojfpidedjeaaDoor
namespace Go.Proofs.YtmhojfpidedjeaaDoor
open Go.RowKit
set_option linter.unusedVariables false
structure FIns where
  op : Int
  dst : Int
  two : Int
  args : List Int
  av : Value
  imm : Int
structure FPhi where
  dst : Int
  ins : List (Int × Int)
  inv : Value
structure FTerm where
  kind : Int
  args : List Int
  argsv : Value
  «to» : List Int
  tov : Value
  imm : Int
structure FBlk where
  phis : List FPhi
  phv : Value
  ins : List FIns
  inv : Value
  term : FTerm
structure FnV where
  params : Int
  blocks : List FBlk
  bv : Value
def ficells (x : FIns) : List Value := [.int .i64 x.op, .int .i64 x.dst, .int .i64 x.two, x.av, .int .i32 x.imm]
theorem ficells_len (x : FIns) : (ficells x).length = 5 := rfl
def prcells (x : Int × Int) : List Value := [.int .i64 x.1, .int .i64 x.2]
theorem prcells_len (x : Int × Int) : (prcells x).length = 2 := rfl
def fpcells (x : FPhi) : List Value := [.int .i64 x.dst, x.inv]
theorem fpcells_len (x : FPhi) : (fpcells x).length = 2 := rfl
def ftcells (x : FTerm) : List Value := [.int .i64 x.kind, x.argsv, x.tov, .int .i32 x.imm]
def fbcells (x : FBlk) : List Value := [x.phv, x.inv, .int .i64 x.term.kind, x.term.argsv, x.term.tov, .int .i32 x.term.imm]
theorem fbcells_len (x : FBlk) : (fbcells x).length = 6 := rfl
def fiv (x : FIns) : Value := .agg #[.int .i64 x.op, .int .i64 x.dst, .int .i64 x.two, x.av, .int .i32 x.imm]
def fv (f : FnV) : Value := .agg #[.int .i64 f.params, f.bv]
def FInsIn (w : World) (x : FIns) : Prop := Ints w x.av x.args
abbrev PairsIn (w : World) (v : Value) (l : List (Int × Int)) : Prop := RowIn prcells 2 (fun _ _ => True) w v l
def FPhiIn (w : World) (x : FPhi) : Prop := PairsIn w x.inv x.ins
def FTermIn (w : World) (x : FTerm) : Prop := Ints w x.argsv x.args ∧ Ints w x.tov x.to
def FBlkIn (w : World) (b : FBlk) : Prop := RowIn fpcells 2 FPhiIn w b.phv b.phis ∧ RowIn ficells 5 FInsIn w b.inv b.ins ∧ FTermIn w b.term
def FnIn (w : World) (f : FnV) : Prop := RowIn fbcells 6 FBlkIn w f.bv f.blocks
theorem PairsIn.keep {w w' : World} {v : Value} {l : List (Int × Int)} (h : PairsIn w v l) (s : Since w w') : PairsIn w' v l := RowIn.keep (fun _ _ _ _ _ => trivial) h s
theorem FInsIn.keep (w w' : World) (x : FIns) (h : FInsIn w x) (s : Since w w') : FInsIn w' x := Nums.keep h s
theorem FPhiIn.keep (w w' : World) (x : FPhi) (h : FPhiIn w x) (s : Since w w') : FPhiIn w' x := PairsIn.keep h s
theorem FTermIn.keep {w w' : World} {x : FTerm} (h : FTermIn w x) (s : Since w w') : FTermIn w' x := ⟨h.1.keep s, h.2.keep s⟩
theorem FBlkIn.keep (w w' : World) (b : FBlk) (h : FBlkIn w b) (s : Since w w') : FBlkIn w' b := ⟨RowIn.keep FPhiIn.keep h.1 s, RowIn.keep FInsIn.keep h.2.1 s, h.2.2.keep s⟩
theorem FnIn.keep {w w' : World} {f : FnV} (h : FnIn w f) (s : Since w w') : FnIn w' f := RowIn.keep FBlkIn.keep h s
end Go.Proofs.YtmhojfpidedjeaaDoor
namespace Go.Proofs.YtmhojfpidedjeaaDoor
open Go.RowKit
set_option linter.unusedVariables false
theorem HeapIs.kept {B b k : Nat} {w w' : World} {cs : Array Value} {T : TypeId} (h : HeapIs w k cs T) (hk : Kept B b w w') (hb : k ≠ b) (hT : T ≠ 5) : HeapIs w' k cs T := hk.heap h hb hT
theorem its_new {B b : Nat} {w : World} (its : List It) (cs : Array Value) (n : Nat) (hcs : cs = (its.flatMap itc).toArray) (hn : n = its.length) (hm : its.length ≤ 1000) (hb : b < w.heap.size) (hw : ∀ x ∈ its, ∀ w', Kept B b w w' → ItIn w' x) (hB : B ≤ w.heap.size) :
    ∀ w', Kept B b (w.alloc (.cells cs 20)) w' → ItsIn w' (.slice (some ⟨w.heap.size, 0, none⟩) n n) its := by
  subst hn; subst hcs
  intro w' hk
  have hh := HeapIs.kept (HeapIs.new w _ _) hk (by omega) (by decide)
  refine .inr ⟨w.heap.size, 0, its.length, rfl, Nat.le_refl _, by unfold maxLen; omega, hh.lt, fun j x hx => ⟨fun t ht => ?_, hw x (List.mem_of_getElem? hx) w' ((Kept.since ((Since.refl _).alloc _) hB).trans hk)⟩⟩
  obtain rfl : t = 0 := by omega
  rw [show 0 + j * 1 + 0 = j * 1 + 0 from by omega, hh.cell, List.getElem?_toArray, flat_at itc 1 (fun x => by cases x <;> rfl) its j 0 x hx (by decide)]
/-- What of data in memory is told. -/
def FIns.d (x : FIns) : DIns := ⟨x.op, x.dst, x.two, x.args, x.imm⟩
def FPhi.d (x : FPhi) : DPhi := ⟨x.dst, x.ins⟩
def FTerm.d (x : FTerm) : DTerm := ⟨x.kind, x.args, x.to, x.imm⟩
def FBlk.d (x : FBlk) : DBlk := ⟨x.phis.map FPhi.d, x.ins.map FIns.d, x.term.d⟩
def FnV.d (f : FnV) : DFn := ⟨f.params, f.blocks.map FBlk.d⟩
structure InsR (x : FIns) : Prop where
  op : In64 x.op
  dst : In64 x.dst
  two : In64 x.two
  args : ∀ y ∈ x.args, In64 y
  imm : In32W x.imm
end Go.Proofs.YtmhojfpidedjeaaDoor
