/- text.Func: which text a function is. How functions and tables that came in are read. How numbers, and arrays of two numbers, that came in are read. -/
import Derived.Test.YtmhojfpidedjeaaGreatDoorTq05
import Derived.Test.YtmhojfpidedjeaaGreatDoorTq20
import Derived.OpenShut
namespace Go.Proofs.YtmhojfpidedjeaaGreatDoor
open Go.RowKit
set_option linter.unusedVariables false
def pairB (y:Int × Int):ByteArray:=(⟨(Lib.itoa y.1).toArray⟩++⟨#[58]⟩)++⟨(Lib.itoa y.2).toArray⟩
theorem pair_it (y:Int × Int):itS (.s (pairB y))=pairS y:=by
 show 32::(pairB y).data.toList=_
 unfold pairB pairS dS
 rw[bytes_app,bytes_app]
 simp
def pairIt (y:Int × Int):It:=.s (pairB y)
theorem pair_its (l:List (Int × Int)):(l.map pairIt).flatMap itS=l.flatMap pairS:=by
 rw[List.flatMap_map]
 congr 1
 funext y
 exact pair_it y
theorem pair_fits {y : Int × Int} (h:In64 y.1∧In64 y.2):¬ 9223372036854775807<(Lib.itoa y.1).length+1∧¬ 9223372036854775807<(Lib.itoa y.1).length+1+(Lib.itoa y.2).length:=by
 have h1:=Lib.itoa_length_le y.1 h.1.1 h.1.2
 have h2:=Lib.itoa_length_le y.2 h.2.1 h.2.2
 omega
theorem take_map_next {α β:Type} (f:α→β) {l : List α} {k : Nat} {x : α} (h:l[k]? = some x):(l.take (k+1)).map f=(l.take k).map f++[f x]:=by
 rw[List.take_add_one,h];simp
theorem map_at {α β:Type} (f:α→β) {l : List α} {k : Nat} {x : α} (h:l[k]? = some x):(l.map f)[k]? = some (f x):=by rw[List.getElem?_map,h];rfl
theorem Tryz.infoIf:(Tryz.prog.info? 20).map (fun i=>(i.zero,i.size,i.bytes))=some (some .nilIface,1,16):=by kernel_rfl
def phT (p:FPhi):Bs:=phiS p.d++[10]
def inT (i:FIns):Bs:=insS i.d++[10]
theorem body_eq (x:FBlk):bodyS x.d=x.phis.flatMap phT++(x.ins.flatMap inT++(termS x.term.d++[10])):=by
 unfold bodyS FBlk.d phT inT
 simp only[List.flatMap_map]
def bhead (k:Nat):Bs:=[98,108,111,99,107]++(dS k++[10])
theorem blk_eq (k:Nat) (x:FBlk):blkS k x.d=bhead k++(x.phis.flatMap phT++(x.ins.flatMap inT++(termS x.term.d++[10]))):=by
 rw[←body_eq];unfold blkS bhead;simp
def headS (n:Int):Bs:=[102,117,110,99]++(dS n++[10])
theorem func_head (f:DFn):funcS f=headS f.params++blksS f.blocks f.blocks.length:=by unfold funcS headS;simp
set_option maxHeartbeats 8000000 in
set_option maxRecDepth 100000 in
theorem text_func (f : FnV) (w : World) (hf : FnIn w f) (hr : FnR f) (hL : LaidT w) (hn : (funcS f.d).length ≤ 500000) :
    Calls Tryz.prog 11 #[fv f] w (StrQ ⟨(funcS f.d).toArray⟩ w) := by
  obtain ⟨params, blocks, bv⟩ := f
  obtain ⟨ba, bc, e, hbl⟩ := RowIn.shape hf
  obtain rfl : bv = .slice ba blocks.length bc := e
  unfold maxLen at hbl
  have HF := Lib.hid hf
  have HR := Lib.hid hr
  rw [func_head] at hn ⊢
  simp only [FnV.d, List.length_map] at hn ⊢
  have HT : Hid (∀ k, k ≤ blocks.length → (headS params).length + (blksS (blocks.map FBlk.d) k).length ≤ 500000) := Lib.hid (by
    intro k hk
    have h1 := blks_le (blocks.map FBlk.d) blocks.length k hk
    rw [List.length_append] at hn
    omega)
  have hs0 : Since w ((w.alloc (.cells #[.int .i64 params, .slice ba blocks.length bc] 24)).alloc (.cells #[.pointer none, .slice none 0 0] 67)) := ((Since.refl w).alloc _).alloc _
  have hp0 : PrS w ((w.alloc (.cells #[.int .i64 params, .slice ba blocks.length bc] 24)).alloc (.cells #[.pointer none, .slice none 0 0] 67)) [] _ := ⟨bu_new w _, Kept.refl _ _ _, hs0, by simp, hL⟩
  have hbox := ((HeapIs.new w #[.int .i64 params, .slice ba blocks.length bc] 24).keep ((Since.refl _).alloc (.cells #[.pointer none, .slice none 0 0] 67)))
  have HP0 := Lib.hid hp0
  have HBX := Lib.hid hbox
  clear hf hr hL hn hs0 hp0 hbox
  unfold fv
  dsimp only
  go_enter Tryz.func11, Tryz.ntmps11
  go_wp2_with fail
  refine (pr_line HP0.out ⟨#[102, 117, 110, 99]⟩ [.n params] 1 _ _ (by simp) rfl rfl (by simp) (fun x hx => by rw [List.mem_singleton.1 hx]; exact HR.out.params) (by have := HT.out 0 (Nat.zero_le _); unfold headS at this; simp only [List.length_append, List.length_cons, List.length_nil] at this; show 0 + (4 + _) ≤ _; simp only [List.flatMap_cons, List.flatMap_nil, List.append_nil, itS]; omega)).mono ?_
  rintro e w1 ⟨rfl, hp1, hk1⟩
  have HBF := Lib.hid (HBX.out.kept hk1 (by omega) (by decide))
  have HP1 : Hid (PrS w _ (headS params) w1) := Lib.hid (by have := hp1; simpa [itS, headS] using this)
  clear hp1 hk1 HP0 HBX
  have hc1 : w1.cell? ⟨w.heap.size, 1, none⟩ = some (.slice ba blocks.length bc) := HBF.out.cell 1
  have hl1 := HBF.out.lt
  go_wp2_with fail
  generalize hwB : (w.alloc (.cells #[.int .i64 params, .slice ba blocks.length bc] 24)).alloc (.cells #[.pointer none, .slice none 0 0] 67) = wB at HP1
  clear hwB HBF
  have HLT := Lib.hid HP1.out.laid
  go_loopw [25] (fun i wr => ∃ k : Nat, i = .int .i64 k ∧ k ≤ blocks.length ∧ PrS w wB (headS params ++ blksS (blocks.map FBlk.d) k) wr) (fun i _ => blocks.length - (intOf i).toNat)
  case atStart => exact ⟨0, rfl, Nat.zero_le _, by unfold blksS; simpa using HP1.out⟩
  case round =>
    obtain ⟨k, rfl, hk, hp⟩ := hrel
    obtain ⟨wo, hwo⟩ : ∃ z, z = wr := ⟨_, rfl⟩
    subst hwo
    by_cases hlt : k < blocks.length
    · obtain ⟨rb, off, x, rfl, hrb, hx, hc, hxin⟩ := RowIn.at HF.out hlt
      have HXR := Lib.hid (HR.out.blocks x (List.mem_of_getElem? hx))
      have HNX := Lib.hid (blks_next (map_at FBlk.d hx))
      have hln := HT.out (k + 1) hlt
      rw [HNX.out, List.length_append] at hln
      obtain ⟨A, hA⟩ : ∃ A, headS params ++ blksS (blocks.map FBlk.d) k = A := ⟨_, rfl⟩
      rw [← Nat.add_assoc, ← List.length_append, hA, blk_eq] at hln
      rw [hA] at hp
      obtain ⟨phis, phv, ins, inv, ⟨kd, args, argsv, tgt, tov, imm⟩⟩ := x
      obtain ⟨hphi, hins, hargs, hto⟩ := hxin
      obtain ⟨pa, pc, e, hpl⟩ := RowIn.shape hphi
      obtain rfl : phv = .slice pa phis.length pc := e
      obtain ⟨na, nc, e, hnl⟩ := RowIn.shape hins
      obtain rfl : inv = .slice na ins.length nc := e
      obtain ⟨aa, ac, e⟩ := nums_lenI hargs
      obtain rfl : argsv = .slice aa args.length ac := e
      obtain ⟨ta, tc, e⟩ := nums_lenI hto
      obtain rfl : tov = .slice ta tgt.length tc := e
      unfold maxLen at hpl hnl
      have hs := hp.since
      have c0 : wo.cell? ⟨rb, off + k * 6, none⟩ = some (.slice pa phis.length pc) := (hs.cell (p := ⟨rb, off + k * 6 + 0, none⟩) hrb).trans (hc 0 (by decide))
      have c1 : wo.cell? ⟨rb, off + k * 6 + 1, none⟩ = some (.slice na ins.length nc) := (hs.cell (p := ⟨rb, off + k * 6 + 1, none⟩) hrb).trans (hc 1 (by decide))
      have c2 : wo.cell? ⟨rb, off + k * 6 + 2, none⟩ = some (.int .i64 kd) := (hs.cell (p := ⟨rb, off + k * 6 + 2, none⟩) hrb).trans (hc 2 (by decide))
      have c3 : wo.cell? ⟨rb, off + k * 6 + 3, none⟩ = some (.slice aa args.length ac) := (hs.cell (p := ⟨rb, off + k * 6 + 3, none⟩) hrb).trans (hc 3 (by decide))
      have c4 : wo.cell? ⟨rb, off + k * 6 + 4, none⟩ = some (.slice ta tgt.length tc) := (hs.cell (p := ⟨rb, off + k * 6 + 4, none⟩) hrb).trans (hc 4 (by decide))
      have c5 : wo.cell? ⟨rb, off + k * 6 + 5, none⟩ = some (.int .i32 imm) := (hs.cell (p := ⟨rb, off + k * 6 + 5, none⟩) hrb).trans (hc 5 (by decide))
      have hrl : rb < wo.heap.size := Nat.lt_of_lt_of_le hrb hs.size
      have HP := Lib.hid (hp.keep ((Since.refl wo).alloc (.cells #[.slice pa phis.length pc, .slice na ins.length nc, .int .i64 kd, .slice aa args.length ac, .slice ta tgt.length tc, .int .i32 imm] 57)))
      have HLt := Lib.hid hp.lt
      have HPH := Lib.hid hphi
      have HIN := Lib.hid hins
      have HAR := Lib.hid hargs
      have HTO := Lib.hid hto
      have HA := Lib.hid hA
      simp only [List.length_append, List.length_cons, List.length_nil] at hln
      have HLN := Lib.hid hln
      clear hp hphi hins hargs hto hA hs hc hx hln
      go_wp2_with fail
      refine (pr_line HP.out ⟨#[98, 108, 111, 99, 107]⟩ [.n k] 1 _ _ (by simp) rfl rfl (by simp) (fun x hx => by rw [List.mem_singleton.1 hx]; exact ⟨by omega, by omega⟩) (by have := HLN.out; unfold bhead at this; simp only [List.length_append, List.length_cons, List.length_nil] at this; show _ + (5 + _) ≤ _; simp only [List.flatMap_cons, List.flatMap_nil, List.append_nil, itS]; omega)).mono ?_
      rintro e w2 ⟨rfl, hp2, hk2⟩
      clear c0 c1 c2 c3 c4 c5 hrl hrb
      have HBK := Lib.hid ((HeapIs.new wo #[.slice pa phis.length pc, .slice na ins.length nc, .int .i64 kd, .slice aa args.length ac, .slice ta tgt.length tc, .int .i32 imm] 57).kept hk2 (by have := HLt.out; omega) (by decide))
      obtain ⟨A1, hA1⟩ : ∃ A1, A ++ bhead k = A1 := ⟨_, rfl⟩
      have HA1 := Lib.hid hA1
      have HP2 := Lib.hid (show PrS w wB A1 w2 from by rw [← hA1]; have := hp2; simpa [itS, bhead] using this)
      have hA1l : A1.length = A.length + (bhead k).length := by rw [← hA1, List.length_append]
      have HLN1 := Lib.hid (show A1.length + ((phis.flatMap phT).length + ((ins.flatMap inT).length + ((termS (FTerm.d ⟨kd, args, .slice aa args.length ac, tgt, .slice ta tgt.length tc, imm⟩)).length + 1))) ≤ 500000 from by have := HLN.out; omega)
      clear hp2 hk2 hA1 hA1l HP HLN
      have hb0 : w2.cell? ⟨wo.heap.size, 0, none⟩ = some (.slice pa phis.length pc) := HBK.out.cell 0
      have hbl2 := HBK.out.lt
      go_wp2_with fail
      clear hb0 hbl2
      go_loopw [38] (fun i ws => ∃ j : Nat, i = .int .i64 j ∧ j ≤ phis.length ∧ PrS w wB (A1 ++ (phis.take j).flatMap phT) ws ∧ HeapIs ws wo.heap.size #[.slice pa phis.length pc, .slice na ins.length nc, .int .i64 kd, .slice aa args.length ac, .slice ta tgt.length tc, .int .i32 imm] 57) (fun i _ => phis.length - (intOf i).toNat)
      case atStart => exact ⟨0, rfl, Nat.zero_le _, by simpa using HP2.out, HBK.out⟩
      case round =>
        obtain ⟨j, rfl, hj, hp, hbk⟩ := hrel
        obtain ⟨ws, hws⟩ : ∃ z, z = wr := ⟨_, rfl⟩
        subst hws
        have HBK := Lib.hid hbk
        clear hbk
        by_cases hjl : j < phis.length
        · obtain ⟨pb, po, p, rfl, hpb, hpx, hpc, hpin⟩ := RowIn.at HPH.out hjl
          have HPR := Lib.hid (HXR.out.phis p (List.mem_of_getElem? hpx))
          have hpn := flat_take phT phis (j + 1)
          rw [flat_next phT hpx, List.length_append] at hpn
          have HPX := Lib.hid (flat_next phT hpx)
          obtain ⟨dst, pins, pinv⟩ := p
          replace hpin : PairsIn w pinv pins := hpin
          obtain ⟨ia, ic, e, hmm⟩ := RowIn.shape hpin
          obtain rfl : pinv = .slice ia pins.length ic := e
          unfold maxLen at hmm
          have hphi : phT ⟨dst, pins, .slice ia pins.length ic⟩ = [112, 104, 105] ++ (dS dst ++ pins.flatMap pairS) ++ [10] := rfl
          rw [hphi] at hpn
          simp only [List.length_append, List.length_cons, List.length_nil] at hpn
          have HPN := Lib.hid (show pins.length ≤ (pins.flatMap pairS).length from by
            rw [List.length_flatMap]
            have : ∀ l : List (Int × Int), l.length ≤ (l.map fun a => (pairS a).length).sum := by
              intro l
              induction l with
              | nil => simp
              | cons y r ih => simp only [List.map_cons, List.sum_cons, List.length_cons]; have : 1 ≤ (pairS y).length := by unfold pairS dS; simp
                               omega
            exact this pins)
          have hs := hp.since
          have d0 : ws.cell? ⟨pb, po + j * 2, none⟩ = some (.int .i64 dst) := (hs.cell (p := ⟨pb, po + j * 2 + 0, none⟩) hpb).trans (hpc 0 (by decide))
          have d1 : ws.cell? ⟨pb, po + j * 2 + 1, none⟩ = some (.slice ia pins.length ic) := (hs.cell (p := ⟨pb, po + j * 2 + 1, none⟩) hpb).trans (hpc 1 (by decide))
          have hrl : pb < ws.heap.size := Nat.lt_of_lt_of_le hpb hs.size
          have hlen2 : A1.length + (3 + ((dS dst).length + (pins.flatMap pairS).length) + 1) + ((phis.take j).flatMap phT).length ≤ 500000 := by have := HLN1.out; omega
          have HLN2 := Lib.hid hlen2
          have HPI := Lib.hid hpin
          have HP := Lib.hid hp
          have HSB := Lib.hid hs.size
          have HMM := Lib.hid (show pins.length ≤ 500000 from by have := HPN.out; omega)
          have HQ := Lib.hid (HeapIs.new ws #[.int .i64 dst, .slice ia pins.length ic] 60)
          clear hs hpc hpin hpx hphi hpn hlen2 hp HPN
          go_wp2_with fail
          clear d0 d1 hrl
          obtain ⟨wq, hwq⟩ : ∃ z, ws.alloc (.cells #[.int .i64 dst, .slice ia pins.length ic] 60) = z := ⟨_, rfl⟩
          have HSQ0 := Lib.hid (show Since ws wq from by rw [← hwq]; exact (Since.refl _).alloc _)
          rw [hwq] at HQ ⊢
          have HWQ := Lib.hid (show ws.heap.size + 1 = wq.heap.size from by rw [← hwq]; simp)
          clear hwq
          go_loopw [45, 8] (fun i iv wz => ∃ (m : Nat) (v8 : Value), i = .int .i64 m ∧ v8 = iv ∧ m ≤ pins.length ∧ OwnRow itc 1 20 wq.heap.size wz v8 ((pins.take m).map pairIt) ∧ Since wq wz) (fun i _ _ => pins.length - (intOf i).toNat)
          case atStart => exact ⟨0, _, rfl, rfl, Nat.zero_le _, OwnRow.nil _ _ _ _ _, Since.refl _⟩
          case round =>
            obtain ⟨m, iv, rfl, rfl, hm, ho, hsq⟩ := hrel
            obtain ⟨wz, hwz⟩ : ∃ z, z = wr := ⟨_, rfl⟩
            subst hwz
            have HO := Lib.hid ho
            have HSQ := Lib.hid hsq
            clear ho hsq
            by_cases hml : m < pins.length
            · obtain ⟨zb, zo, y, rfl, hzb, hy, hyc, _⟩ := RowIn.at HPI.out hml
              obtain ⟨fr, vl⟩ := y
              have HY1 := Lib.hid ((HPR.out.ins _ (List.mem_of_getElem? hy)).1)
              have HY2 := Lib.hid ((HPR.out.ins _ (List.mem_of_getElem? hy)).2)
              have hft := pair_fits (HPR.out.ins _ (List.mem_of_getElem? hy))
              obtain ⟨hz5, hz6⟩ := hft
              dsimp only at hz5 hz6
              have HYX := Lib.hid hy
              have hs := HP.out.since.trans (HSQ0.out.trans HSQ.out)
              have e0 : wz.cell? ⟨zb, zo + m * 2, none⟩ = some (.int .i64 fr) := (hs.cell (p := ⟨zb, zo + m * 2 + 0, none⟩) hzb).trans (hyc 0 (by decide))
              have e1 : wz.cell? ⟨zb, zo + m * 2 + 1, none⟩ = some (.int .i64 vl) := (hs.cell (p := ⟨zb, zo + m * 2 + 1, none⟩) hzb).trans (hyc 1 (by decide))
              have hzl : zb < wz.heap.size := Nat.lt_of_lt_of_le hzb hs.size
              have HY := Lib.hid (HeapIs.new wz #[.int .i64 fr, .int .i64 vl] 71)
              have HSW := Lib.hid (hs.alloc (.cells #[.int .i64 fr, .int .i64 vl] 71))
              clear hs hyc hy
              go_wp2_with fail
              clear e0 e1 hzl hzb
              refine wp_region_since_tail 11 rfl (by decide +kernel) (by decide +kernel) (by decide +kernel) (by decide)
                [Is iv, Is (.pointer (some ⟨wz.heap.size, 0, none⟩)), Is (.int .i64 fr), Is (.string ⟨(Lib.itoa fr).toArray⟩), Is (.string (⟨(Lib.itoa fr).toArray⟩ ++ ⟨#[58]⟩)), Is (.pointer (some ⟨wz.heap.size, 1, none⟩)), Is (.int .i64 vl), Is (.string ⟨(Lib.itoa vl).toArray⟩), Is (.string (pairB (fr, vl))), Is (.iface 9 (.string (pairB (fr, vl)))), NewRow #[.iface 9 (.string (pairB (fr, vl)))] 20 1]
                (by repeat (first | exact trivial | refine ⟨Is.stable _, ?_⟩ | refine ⟨Any.stable, ?_⟩ | refine ⟨IsNums.stable _ _, ?_⟩ | refine ⟨NewRow.stable _ _ _, ?_⟩)) ⟨?_, ?_, ?_, ?_, ?_, ?_, ?_, ?_, ?_, ?_, ?_, trivial⟩ ?_
              rotate_right
              · intro vs w9 hs hk
                simp only [List.take, List.drop, putAll, Act.put, KnowsAll, nthF, Is, List.setIfInBounds_toArray, List.set_cons_zero, List.set_cons_succ, Nat.reduceAdd] at hk ⊢
                try simp only [hk]
                obtain ⟨gq, hgq, hgi⟩ := hk.2.2.2.2.2.2.2.2.2.2.1
                rw [hgq]
                have HGI := Lib.hid hgi
                have HO2 := Lib.hid (OwnRow.keep HO.out (((Since.refl wz).alloc (.cells #[.int .i64 fr, .int .i64 vl] 71)).trans hs))
                have HSQ2 := Lib.hid ((HSQ.out.alloc (.cells #[.int .i64 fr, .int .i64 vl] 71)).trans hs)
                clear hk hgq hgi hs
                go_wp2_with (at_builtin; refine wpList_append_row (w0 := wq) itc itc_len itc_one rfl _ _ 69 rfl 20 .nilIface 16 Tryz.underlying69 Tryz.infoIf rfl (by decide) _ _ _ [pairIt (fr, vl)] rfl rfl HO2.out (p := fun _ _ => True) (.inr ⟨gq, 0, 1, rfl, by simp, by decide, HGI.out.lt, fun j x hx => ⟨fun t ht => (by obtain rfl : j = 0 := (by have := (List.getElem?_eq_some_iff.1 hx).1; simp at this; exact this); obtain rfl : pairIt (fr, vl) = x := (by simpa using hx); obtain rfl : t = 0 := (by omega); exact HGI.out.cell 0), trivial⟩⟩) (by have := HMM.out; simp only [List.length_map, List.length_take, List.length_cons, List.length_nil]; omega) HSQ2.out ?_; intro v2 w10 ho2 hs2; have HO3 := Lib.hid ho2; have HSQ3 := Lib.hid hs2; clear ho2 hs2)
                go_roundw
                case rel => exact ⟨m + 1, _, by go_num, rfl, by omega, by rw [take_map_next pairIt HYX.out]; exact HO3.out, HSQ3.out⟩
                case measure => simp [intOf]; omega
              all_goals
                intro vs w9 hs hk _
                simp only [List.take, putAll, Act.put, Knows, nthF, Is, List.setIfInBounds_toArray, List.set_cons_zero, List.set_cons_succ, Nat.reduceAdd] at hk ⊢
                try simp only [hk]
              · go_wp2
                exact ⟨_, rfl, rfl, Since.refl _⟩
              · go_wp2
                exact ⟨_, rfl, rfl, Since.refl _⟩
              · have hq := HY.out.keep hs
                have hqc := hq.cell 0
                have hql := hq.lt
                go_wp2
                exact ⟨_, rfl, rfl, Since.refl _⟩
              · go_wp2_with fail
                refine (Tryz.strconv_Itoa fr HY1.out.1 HY1.out.2 _ (HLT.out.keep (HSW.out.trans hs)).s.tab).mono ?_
                rintro e w2 ⟨rfl, kk, os, rfl⟩
                have HG := Lib.hid (grow_below w9 kk os)
                generalize Sort.grow (w9.drewN kk) os = w2 at *
                go_wp2
                exact ⟨_, rfl, rfl, HG.out⟩
              · go_wp2
                exact ⟨_, rfl, rfl, Since.refl _⟩
              · go_wp2
                exact ⟨_, rfl, rfl, Since.refl _⟩
              · have hq := HY.out.keep hs
                have hqc := hq.cell 1
                have hql := hq.lt
                go_wp2
                exact ⟨_, rfl, rfl, Since.refl _⟩
              · go_wp2_with fail
                refine (Tryz.strconv_Itoa vl HY2.out.1 HY2.out.2 _ (HLT.out.keep (HSW.out.trans hs)).s.tab).mono ?_
                rintro e w2 ⟨rfl, kk, os, rfl⟩
                have HG := Lib.hid (grow_below w9 kk os)
                generalize Sort.grow (w9.drewN kk) os = w2 at *
                go_wp2
                exact ⟨_, rfl, rfl, HG.out⟩
              · go_wp2
                exact ⟨_, rfl, rfl, Since.refl _⟩
              · go_wp2
                exact ⟨_, rfl, rfl, Since.refl _⟩
              · go_wp2
                exact ⟨_, rfl, ⟨_, rfl, HeapIs.new _ _ _⟩, (Since.refl _).alloc _⟩
            · obtain rfl : pins.length = m := by omega
              rw [List.take_length] at HO
              have hq0 : wz.cell? ⟨ws.heap.size, 0, none⟩ = some (.int .i64 dst) := (HQ.out.keep HSQ.out).cell 0
              have hql := (HQ.out.keep HSQ.out).lt
              have HOW := Lib.hid (own_new itc 1 20 wz [.n dst] 1 itc_len rfl (by decide) #[.iface 3 (.int .i64 dst)] rfl)
              have HRI := Lib.hid (its_own (b := w.heap.size + 1) (B := w.heap.size) (OwnRow.keep HO.out ((Since.refl wz).alloc (.cells #[.iface 3 (.int .i64 dst)] 20))) (fun q hq => by have := (World.ownsRow.lt HO.out q hq).1; have := HWQ.out; have := HP.out.lt; omega) (fun x hx w9 _ => by obtain ⟨y, _, rfl⟩ := List.mem_map.1 hx; trivial) _ (Kept.refl _ _ _))
              have HSZ := Lib.hid (HSQ0.out.trans HSQ.out)
              clear HSQ HO HQ HWQ
              go_wp2_with (at_builtin; refine wpList_append_row (w0 := wz) itc itc_len itc_one rfl _ _ 69 rfl 20 .nilIface 16 Tryz.underlying69 Tryz.infoIf rfl (by decide) _ _ [.n dst] (pins.map pairIt) rfl rfl HOW.out HRI.out (by have := HMM.out; simp only [List.length_map, List.length_cons, List.length_nil]; omega) ((Since.refl _).alloc _) ?_; intro v2 w10 ho2 hs2; have HO3 := Lib.hid ho2; have HS3 := Lib.hid hs2; clear ho2 hs2)
              refine (pr_row HP.out _ (HSZ.out.trans HS3.out) ⟨#[112, 104, 105]⟩ ([.n dst] ++ pins.map pairIt) _ (its_own HO3.out (fun q hq => by have := (World.ownsRow.lt HO3.out q hq).1; have := HSZ.out.size; have := HP.out.lt; omega) (fun x hx w9 _ => by
                rcases List.mem_append.1 hx with hx | hx
                · rw [List.mem_singleton.1 hx]; exact HPR.out.dst
                · obtain ⟨y, _, rfl⟩ := List.mem_map.1 hx; trivial)) (by have := HLN2.out; rw [List.flatMap_append, pair_its]; simp only [List.length_append, List.flatMap_cons, List.flatMap_nil, List.append_nil, itS]; show _ + (3 + _) ≤ _; omega)).mono ?_
              rintro e w3 ⟨rfl, hp3, hk3⟩
              have HP3 := Lib.hid (show PrS w wB (A1 ++ (phis.take (j + 1)).flatMap phT) w3 from by
                rw [HPX.out]
                have := hp3
                rw [List.flatMap_append, pair_its] at this
                simpa [itS, phT, phiS, FPhi.d] using this)
              have HBK3 := Lib.hid (HBK.out.kept hk3 (by have := HLt.out; omega) (by decide))
              clear hp3 hk3
              go_wp2
              go_roundw
              case rel => exact ⟨j + 1, by go_num, by omega, HP3.out, HBK3.out⟩
              case measure => simp [intOf]; omega
        · obtain rfl : phis.length = j := by omega
          rw [List.take_length] at hp
          obtain ⟨A2, hA2⟩ : ∃ A2, A1 ++ phis.flatMap phT = A2 := ⟨_, rfl⟩
          have hA2l : A2.length = A1.length + (phis.flatMap phT).length := by rw [← hA2, List.length_append]
          rw [hA2] at hp
          have HA2 := Lib.hid hA2
          have HLN2 := Lib.hid (show A2.length + ((ins.flatMap inT).length + ((termS (FTerm.d ⟨kd, args, .slice aa args.length ac, tgt, .slice ta tgt.length tc, imm⟩)).length + 1)) ≤ 500000 from by have := HLN1.out; omega)
          have HP := Lib.hid hp
          clear hp hA2 hA2l HLN1
          have hb1 : ws.cell? ⟨wo.heap.size, 1, none⟩ = some (.slice na ins.length nc) := HBK.out.cell 1
          have hbl2 := HBK.out.lt
          go_wp2_with fail
          clear hb1 hbl2
          go_loopw [74] (fun i wt => ∃ j : Nat, i = .int .i64 j ∧ j ≤ ins.length ∧ PrS w wB (A2 ++ (ins.take j).flatMap inT) wt ∧ HeapIs wt wo.heap.size #[.slice pa phis.length pc, .slice na ins.length nc, .int .i64 kd, .slice aa args.length ac, .slice ta tgt.length tc, .int .i32 imm] 57) (fun i _ => ins.length - (intOf i).toNat)
          case atStart => exact ⟨0, rfl, Nat.zero_le _, by simpa using HP.out, HBK.out⟩
          case round =>
            obtain ⟨j, rfl, hj, hp, hbk⟩ := hrel
            obtain ⟨wt, hwt⟩ : ∃ z, z = wr := ⟨_, rfl⟩
            subst hwt
            have HBK := Lib.hid hbk
            clear hbk
            by_cases hjl : j < ins.length
            · obtain ⟨nb, no, x, rfl, hnb, hnx, hnc, hnin⟩ := RowIn.at HIN.out hjl
              have HNR := Lib.hid (HXR.out.ins x (List.mem_of_getElem? hnx))
              have hnn := flat_take inT ins (j + 1)
              rw [flat_next inT hnx, List.length_append] at hnn
              have HNN := Lib.hid (flat_next inT hnx)
              obtain ⟨op, dst, two, iargs, iav, iimm⟩ := x
              replace hnin : Ints w iav iargs := hnin
              obtain ⟨ia, ic, e⟩ := nums_lenI hnin
              obtain rfl : iav = .slice ia iargs.length ic := e
              have hil : inT ⟨op, dst, two, iargs, .slice ia iargs.length ic, iimm⟩ = insS (FIns.d ⟨op, dst, two, iargs, .slice ia iargs.length ic, iimm⟩) ++ [10] := rfl
              rw [hil, List.length_append] at hnn
              have HLNI := Lib.hid (show (A2 ++ (ins.take j).flatMap inT).length + (insS (FIns.d ⟨op, dst, two, iargs, .slice ia iargs.length ic, iimm⟩)).length ≤ 999999999999 from by have := HLN2.out; rw [List.length_append]; omega)
              have hs := hp.since
              have d0 : wt.cell? ⟨nb, no + j * 5, none⟩ = some (.int .i64 op) := (hs.cell (p := ⟨nb, no + j * 5 + 0, none⟩) hnb).trans (hnc 0 (by decide))
              have d1 : wt.cell? ⟨nb, no + j * 5 + 1, none⟩ = some (.int .i64 dst) := (hs.cell (p := ⟨nb, no + j * 5 + 1, none⟩) hnb).trans (hnc 1 (by decide))
              have d2 : wt.cell? ⟨nb, no + j * 5 + 2, none⟩ = some (.int .i64 two) := (hs.cell (p := ⟨nb, no + j * 5 + 2, none⟩) hnb).trans (hnc 2 (by decide))
              have d3 : wt.cell? ⟨nb, no + j * 5 + 3, none⟩ = some (.slice ia iargs.length ic) := (hs.cell (p := ⟨nb, no + j * 5 + 3, none⟩) hnb).trans (hnc 3 (by decide))
              have d4 : wt.cell? ⟨nb, no + j * 5 + 4, none⟩ = some (.int .i32 iimm) := (hs.cell (p := ⟨nb, no + j * 5 + 4, none⟩) hnb).trans (hnc 4 (by decide))
              have hrl : nb < wt.heap.size := Nat.lt_of_lt_of_le hnb hs.size
              have HNI := Lib.hid hnin
              have HP := Lib.hid (hp.keep ((Since.refl wt).alloc (.cells #[.int .i64 op, .int .i64 dst, .int .i64 two, .slice ia iargs.length ic, .int .i32 iimm] 51)))
              have HBK2 := Lib.hid (HBK.out.keep ((Since.refl wt).alloc (.cells #[.int .i64 op, .int .i64 dst, .int .i64 two, .slice ia iargs.length ic, .int .i32 iimm] 51)))
              clear hs hnc hnx hnn hnin hil
              go_wp2_with fail
              refine (pr_ins HP.out ⟨op, dst, two, iargs, .slice ia iargs.length ic, iimm⟩ HNI.out HNR.out HLNI.out).mono ?_
              rintro e w4 ⟨rfl, hp4, hk4⟩
              have HP4 := Lib.hid (show PrS w wB (A2 ++ (ins.take (j + 1)).flatMap inT) w4 from by rw [HNN.out, ← List.append_assoc]; exact hp4)
              have HBK4 := Lib.hid (HBK2.out.kept hk4 (by have := HLt.out; omega) (by decide))
              clear hp4 hk4 d0 d1 d2 d3 d4
              go_wp2
              go_roundw
              case rel => exact ⟨j + 1, by go_num, by omega, HP4.out, HBK4.out⟩
              case measure => simp [intOf]; omega
            · obtain rfl : ins.length = j := by omega
              rw [List.take_length] at hp
              obtain ⟨A3, hA3⟩ : ∃ A3, A2 ++ ins.flatMap inT = A3 := ⟨_, rfl⟩
              have hA3l : A3.length = A2.length + (ins.flatMap inT).length := by rw [← hA3, List.length_append]
              rw [hA3] at hp
              have HA3 := Lib.hid hA3
              have HLN3 := Lib.hid (show A3.length + (termS (FTerm.d ⟨kd, args, .slice aa args.length ac, tgt, .slice ta tgt.length tc, imm⟩)).length ≤ 500000 from by have := HLN2.out; omega)
              have HP := Lib.hid hp
              clear hp hA3 hA3l HLN2
              have hb2 : wt.cell? ⟨wo.heap.size, 2, none⟩ = some (.int .i64 kd) := HBK.out.cell 2
              have hbl2 := HBK.out.lt
              obtain ⟨y, hy⟩ : ∃ y, termB kd = y := ⟨_, rfl⟩
              have hnth := nth_any kd wt HXR.out.term.kd (HLT.out.keep HP.out.since).tab
              rw [hy] at hnth
              have HNTH := Lib.hid hnth
              have HY := Lib.hid hy
              clear hnth hy
              go_wp2_with fail
              refine HNTH.out.mono ?_
              rintro e w4 ⟨rfl, hs4⟩
              clear hb2 hbl2
              have HPT := Lib.hid (HP.out.keep hs4)
              have hbk4 := HBK.out.keep hs4
              have hb2 : w4.cell? ⟨wo.heap.size, 2, none⟩ = some (.int .i64 kd) := hbk4.cell 2
              have hb3 : w4.cell? ⟨wo.heap.size, 3, none⟩ = some (.slice aa args.length ac) := hbk4.cell 3
              have hb4 : w4.cell? ⟨wo.heap.size, 4, none⟩ = some (.slice ta tgt.length tc) := hbk4.cell 4
              have hb5 : w4.cell? ⟨wo.heap.size, 5, none⟩ = some (.int .i32 imm) := hbk4.cell 5
              have hbl4 := hbk4.lt
              clear hs4 hbk4 HP HBK
              by_cases hkd : kd < 1 ∨ 5 < kd
              · obtain rfl : ⟨#[63]⟩ = y := by rw [← HY.out]; unfold termB; rw [if_pos hkd]
                have HK := Lib.hid hkd
                clear hkd
                have hte : termS (FTerm.d ⟨kd, args, .slice aa args.length ac, tgt, .slice ta tgt.length tc, imm⟩) = (⟨#[63]⟩ : ByteArray).data.toList ++ ([] : List It).flatMap itS := by
                  unfold termS FTerm.d; dsimp only; rw [if_pos HK.out]; rfl
                have HTE := Lib.hid hte
                have HL2 := Lib.hid (show A3.length + ((⟨#[63]⟩ : ByteArray).size + (([] : List It).flatMap itS).length) ≤ 500000 from by have := HLN3.out; rw [hte, List.length_append, bytes_len] at this; exact this)
                clear hte
                go_wp2_with fail
                refine (pr_line0 HPT.out ⟨#[63]⟩ (by have := HL2.out; omega)).mono ?_
                rintro e w5 ⟨rfl, hp5, _⟩
                have HP5 := Lib.hid (show PrS w wB (headS params ++ blksS (blocks.map FBlk.d) (k + 1)) w5 from by
                  rw [HNX.out, blk_eq, ← List.append_assoc, HA.out, HTE.out, ← List.append_assoc, HA1.out, ← List.append_assoc, HA2.out, ← List.append_assoc, HA3.out]
                  simpa [List.append_assoc] using hp5)
                clear hp5
                go_wp2
                go_roundw
                case rel => exact ⟨k + 1, by go_num, by omega, HP5.out⟩
                case measure => simp [intOf]; omega
              · by_cases hk5 : kd = 5
                · subst hk5
                  obtain rfl : ⟨#[116, 114, 97, 112]⟩ = y := by rw [← HY.out]; decide
                  have hte : termS (FTerm.d ⟨5, args, .slice aa args.length ac, tgt, .slice ta tgt.length tc, imm⟩) = (⟨#[116, 114, 97, 112]⟩ : ByteArray).data.toList ++ ([.w imm] : List It).flatMap itS := by
                    show [116, 114, 97, 112] ++ dS imm = [116, 114, 97, 112] ++ (dS imm ++ []); simp
                  have HTE := Lib.hid hte
                  have HL2 := Lib.hid (show A3.length + ((⟨#[116, 114, 97, 112]⟩ : ByteArray).size + (([.w imm] : List It).flatMap itS).length) ≤ 500000 from by have := HLN3.out; rw [hte, List.length_append, bytes_len] at this; exact this)
                  clear hte
                  go_wp2_with fail
                  refine (pr_line HPT.out ⟨#[116, 114, 97, 112]⟩ [.w imm] 1 _ _ rfl rfl rfl (by simp) (fun x hx => by rw [List.mem_singleton.1 hx]; exact HXR.out.term.im) (by have := HL2.out; omega)).mono ?_
                  rintro e w5 ⟨rfl, hp5, _⟩
                  have HP5 := Lib.hid (show PrS w wB (headS params ++ blksS (blocks.map FBlk.d) (k + 1)) w5 from by
                    rw [HNX.out, blk_eq, ← List.append_assoc, HA.out, HTE.out, ← List.append_assoc, HA1.out, ← List.append_assoc, HA2.out, ← List.append_assoc, HA3.out]
                    simpa [List.append_assoc] using hp5)
                  clear hp5
                  go_wp2
                  go_roundw
                  case rel => exact ⟨k + 1, by go_num, by omega, HP5.out⟩
                  case measure => simp [intOf]; omega
                · have HK := Lib.hid hkd
                  have HK5 := Lib.hid hk5
                  have hq : (y.toList == [63]) = false ∧ (y.toList == [116, 114, 97, 112]) = false := by
                    rw [← HY.out]
                    rcases (show kd = 1 ∨ kd = 2 ∨ kd = 3 ∨ kd = 4 by omega) with rfl | rfl | rfl | rfl <;> exact ⟨by rw [ByteArray.toList_eq]; decide, by rw [ByteArray.toList_eq]; decide⟩
                  obtain ⟨hq1, hq2⟩ := hq
                  clear hkd hk5
                  have hte : termS (FTerm.d ⟨kd, args, .slice aa args.length ac, tgt, .slice ta tgt.length tc, imm⟩) = (y : ByteArray).data.toList ++ ([.ns (.slice aa args.length ac) args, .ns (.slice ta tgt.length tc) tgt] : List It).flatMap itS := by
                    unfold termS FTerm.d; dsimp only; rw [if_neg HK.out, if_neg HK5.out, HY.out]; simp [itS]
                  have HTE := Lib.hid hte
                  have HL2 := Lib.hid (show A3.length + ((y : ByteArray).size + (([.ns (.slice aa args.length ac) args, .ns (.slice ta tgt.length tc) tgt] : List It).flatMap itS).length) ≤ 500000 from by have := HLN3.out; rw [hte, List.length_append, bytes_len] at this; exact this)
                  clear hte
                  go_wp2_with fail
                  refine (pr_line HPT.out y [.ns (.slice aa args.length ac) args, .ns (.slice ta tgt.length tc) tgt] 2 _ _ rfl rfl rfl (by simp) (fun x hx => by
                      simp only [List.mem_cons, List.not_mem_nil, or_false] at hx
                      rcases hx with rfl | rfl
                      · exact ⟨HAR.out, HXR.out.term.ar⟩
                      · exact ⟨HTO.out, HXR.out.term.tg⟩) (by have := HL2.out; omega)).mono ?_
                  rintro e w5 ⟨rfl, hp5, _⟩
                  have HP5 := Lib.hid (show PrS w wB (headS params ++ blksS (blocks.map FBlk.d) (k + 1)) w5 from by
                    rw [HNX.out, blk_eq, ← List.append_assoc, HA.out, HTE.out, ← List.append_assoc, HA1.out, ← List.append_assoc, HA2.out, ← List.append_assoc, HA3.out]
                    simpa [List.append_assoc] using hp5)
                  clear hp5
                  go_wp2
                  go_roundw
                  case rel => exact ⟨k + 1, by go_num, by omega, HP5.out⟩
                  case measure => simp [intOf]; omega
    · obtain rfl : blocks.length = k := by omega
      have HP := Lib.hid hp
      clear hp
      go_wp2_with fail
      refine (pr_says HP.out (by unfold headS; simp)).mono ?_
      rintro e w5 ⟨rfl, hs5⟩
      have HS5 := Lib.hid hs5
      clear hs5
      go_wp2
      go_ret
      exact ⟨rfl, HS5.out⟩
open Go.RowKit Go.ChangeShapes Go.WideShapes
instance:Inhabited FPhi:=⟨⟨0,[],.slice none 0 0⟩⟩
instance:Inhabited FIns:=⟨⟨0,0,0,[],.slice none 0 0,0⟩⟩
instance:Inhabited FBlk:=⟨⟨[],.slice none 0 0,[],.slice none 0 0,⟨0,[],.slice none 0 0,[],.slice none 0 0,0⟩⟩⟩
theorem wf64 {n : Int} (h:(Lit.int .i64 n).wf=true):In64 n:=by
 simp[Lit.wf,IntKind.min,IntKind.max,IntKind.signed,IntKind.bits]at h
 unfold In64;omega
theorem RowIn.split {α:Type} {f : α→List Value} {sz:Nat} {p : World→α→Prop} {q : α→Prop} {w : World} {v : Value} {l : List α} (h:RowIn f sz (fun w x=>p w x∧q x) w v l):RowIn f sz p w v l∧∀ x∈l,q x:=by
 rcases h with ⟨a,h1,h2⟩|⟨b,off,cap,h1,h2,h3,h4,h5⟩
 ·exact⟨.inl ⟨a,h1,h2⟩,by subst h2;intro x hx;cases hx⟩
 ·refine⟨.inr ⟨b,off,cap,h1,h2,h3,h4,fun j x hj=>⟨(h5 j x hj).1,(h5 j x hj).2.1⟩⟩,fun x hx=>?_⟩
  obtain⟨j,hj,rfl⟩:=List.mem_iff_getElem.1 hx
  exact (h5 j _ (List.getElem?_eq_getElem hj)).2.2
section
variable {H : Type} {enc:TypeId × Value→H} {w : World} {base:Nat} {held:Bool}
theorem ints_trod {fuel:Nat} {v : Value} {x : DataW H × List MemPlace} (h:DataW.trod enc Tryz.prog w base (fun _=>true) held fuel 32 [v]=some x):∃ l:List Int,Ints w v l∧∀ n∈l,In64 n:=by
 obtain⟨l,h1,h2⟩:=nums_trod Tryz.underlying32 Tryz.underlying3 Tryz.cellsInt h
 exact⟨l,h1,fun n hn=>wf64 (h2 n hn)⟩
end
section
variable {H : Type} {enc:TypeId × Value→H} {w : World} {base:Nat} {held:Bool}
set_option maxRecDepth 100000 in
theorem ints_came {r : Reach} {b0:Nat} {v : Value} {d : DataW H} {p : List MemPlace} (hv:Value.okWide Tryz.prog w r b0 32 v) (h:DataW.Trod enc Tryz.prog w base (fun _=>true) held 32 v d p):∃ l:List Int,Ints w v l∧∀ n∈l,In64 n:=by
 obtain⟨a,len,cap,rfl⟩:=okWide_slice Tryz.underlying32 hv
 obtain⟨fuel,hf⟩:=h
 exact ints_trod (by simpa [Value.cells]using hf)
end
end Go.Proofs.YtmhojfpidedjeaaGreatDoor
