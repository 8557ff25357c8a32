import Derived.Test.YtmhojfpidedjeaaGreatDoorTp09
import Derived.Test.YtmhojfpidedjeaaGreatDoorTp20
import Derived.OpenShut
namespace Go.Proofs.YtmhojfpidedjeaaGreatDoor
open Go.RowKit Go.Lib
set_option linter.unusedVariables false
set_option maxHeartbeats 8000000
set_option maxRecDepth 100000
def pairB (y:Int × Int):ByteArray:=(⟨(Lib.itoa y.1).toArray⟩++⟨#[58]⟩)++⟨(Lib.itoa y.2).toArray⟩
theorem Zf8 (y:Int × Int):itS (.s (pairB y))=YS y:=by
 show 32::(pairB y).data.toList=_
 unfold pairB YS dS;rw[Zg,Zg];simp
def VJ (y:Int × Int):It:=.s (pairB y)
theorem Zbz (l:List (Int × Int)):(l.map VJ).flatMap itS=l.flatMap YS:=by
 rw[List.flatMap_map];congr 1
 funext y
 exact Zf8 y
theorem Zd9 {y : Int × Int} (h:ZO y.1∧ZO y.2):¬ 9223372036854775807<(Lib.itoa y.1).length+1∧¬ 9223372036854775807<(Lib.itoa y.1).length+1+(Lib.itoa y.2).length:=by
 have h1:=Lib.itoa_length_le y.1 h.1.1 h.1.2;have h2:=Lib.itoa_length_le y.2 h.2.1 h.2.2;omega
theorem Za7 {α β:Type} (f:α→β) {l : List α} {k : Nat} {x : α} (h:l[k]? = some x):(l.take (k+1)).map f=(l.take k).map f++[f x]:=by
 rw[List.take_add_one,h];simp
theorem ZbJ {α β:Type} (f:α→β) {l : List α} {k : Nat} {x : α} (h:l[k]? = some x):(l.map f)[k]? = some (f x):=by rw[List.getElem?_map,h];rfl
theorem Tryz.infoIf:(Tryz.prog.info? 20).map (fun i=>(i.zero,i.size,i.bytes))=some (some .nilIface,1,16):=by kernel_rfl
def phT (p:ZC):Bs:=Jr p.d++[10]
def inT (i:FIns):Bs:=ZM i.d++[10]
theorem Zgy (x:FBlk):QL x.d=x.phis.flatMap phT++(x.ins.flatMap inT++(Yi x.term.d++[10])):=by
 unfold QL FBlk.d phT inT;simp only[List.flatMap_map]
def W8 (k:Nat):Bs:=[98,108,111,99,107]++(dS k++[10])
theorem Jg (k:Nat) (x:FBlk):V6 k x.d=W8 k++(x.phis.flatMap phT++(x.ins.flatMap inT++(Yi x.term.d++[10]))):=by
 rw[←Zgy];unfold V6 W8;simp
def headS (n:Int):Bs:=[102,117,110,99]++(dS n++[10])
theorem Za0 (f:DFn):XP f=headS f.params++blksS f.blocks f.blocks.length:=by unfold XP headS;simp
theorem ZdT (f : FnV) (w : World) (hf : FnIn w f) (hr : FnR f) (hL : Ys w) (hn : (XP f.d).length ≤ 500000) :
    Calls Tryz.prog 11 #[fv f] w (Xl ⟨(XP f.d).toArray⟩ w) := by
  obtain ⟨params, blocks, bv⟩ := f
  obtain ⟨ba, bc, e, tw⟩ := RowIn.shape hf
  obtain rfl : bv = .slice ba blocks.length bc := e
  unfold maxLen at tw
  have HF := hid hf
  have HR := hid hr
  rw [Za0] at hn ⊢
  simp only [FnV.d, List.length_map] at hn ⊢
  have HT : Hid (∀ k, k ≤ blocks.length → (headS params).length + (blksS (blocks.map FBlk.d) k).length ≤ 500000) := hid (by
    intro k hk
    have h1 := Zao (blocks.map FBlk.d) blocks.length k hk
    rw [List.length_append] at hn
    omega)
  have Hs : Since w ((w.alloc (.cells #[.int .i64 params, .slice ba blocks.length bc] 24)).alloc (.cells #[.pointer none, .slice none 0 0] 67)) := ((Since.refl w).alloc _).alloc _
  have Hy : PrS w ((w.alloc (.cells #[.int .i64 params, .slice ba blocks.length bc] 24)).alloc (.cells #[.pointer none, .slice none 0 0] 67)) [] _ := ⟨ZgY w _, Kept.refl _ _ _, Hs, by simp, hL⟩
  have Hf := ((HeapIs.new w #[.int .i64 params, .slice ba blocks.length bc] 24).keep ((Since.refl _).alloc (.cells #[.pointer none, .slice none 0 0] 67)))
  have HX := hid Hy
  have H1 := hid Hf
  clear hf hr hL hn Hs Hy Hf
  unfold fv
  dsimp only
  go_enter Tryz.func11, Tryz.ntmps11
  go_wp2_with fail
  refine (Ko HX.out ⟨#[102, 117, 110, 99]⟩ [.n params] 1 _ _ (by simp) rfl rfl (by simp) (fun x hx => by rw [List.mem_singleton.1 hx]; exact HR.out.params) (by have := HT.out 0 (Nat.zero_le _); unfold headS at this; simp only [List.length_append, List.length_cons, List.length_nil] at this; show 0 + (4 + _) ≤ _; simp only [List.flatMap_cons, List.flatMap_nil, List.append_nil, itS]; omega)).mono ?_
  rintro e w1 ⟨rfl, Hx, HE⟩
  have Hm := hid (H1.out.kept HE (by omega) (by decide))
  have Hi : Hid (PrS w _ (headS params) w1) := hid (by have := Hx; simpa [itS, headS] using this)
  clear Hx HE HX H1
  have tY : w1.cell? ⟨w.heap.size, 1, none⟩ = some (.slice ba blocks.length bc) := Hm.out.cell 1
  have tX := Hm.out.lt
  go_wp2_with fail
  generalize tp : (w.alloc (.cells #[.int .i64 params, .slice ba blocks.length bc] 24)).alloc (.cells #[.pointer none, .slice none 0 0] 67) = wB at Hi
  clear tp Hm
  have Hk := hid Hi.out.laid
  go_loopw [25] (fun i wr => ∃ k : Nat, i = .int .i64 k ∧ k ≤ blocks.length ∧ PrS w wB (headS params ++ blksS (blocks.map FBlk.d) k) wr) (fun i _ => blocks.length - (intOf i).toNat)
  case atStart => exact ⟨0, rfl, Nat.zero_le _, by unfold blksS; simpa using Hi.out⟩
  case round =>
    obtain ⟨k, rfl, hk, hp⟩ := hrel
    obtain ⟨wo, tn⟩ : ∃ z, z = wr := ⟨_, rfl⟩
    subst tn
    by_cases Hz : k < blocks.length
    · obtain ⟨rb, off, x, rfl, hg, hx, hc, H2⟩ := RowIn.at HF.out Hz
      have hC := hid (HR.out.blocks x (List.mem_of_getElem? hx))
      have h5 := hid (V3 (ZbJ FBlk.d hx))
      have hH := HT.out (k + 1) Hz
      rw [h5.out, List.length_append] at hH
      obtain ⟨A, hA⟩ : ∃ A, headS params ++ blksS (blocks.map FBlk.d) k = A := ⟨_, rfl⟩
      rw [← Nat.add_assoc, ← List.length_append, hA, Jg] at hH
      rw [hA] at hp
      obtain ⟨phis, phv, ins, inv, ⟨kd, args, argsv, tgt, tov, imm⟩⟩ := x
      obtain ⟨hd, hP, hE, h7⟩ := H2
      obtain ⟨pa, pc, e, tr⟩ := RowIn.shape hd
      obtain rfl : phv = .slice pa phis.length pc := e
      obtain ⟨na, nc, e, ts⟩ := RowIn.shape hP
      obtain rfl : inv = .slice na ins.length nc := e
      obtain ⟨aa, ac, e⟩ := Zp hE
      obtain rfl : argsv = .slice aa args.length ac := e
      obtain ⟨ta, tc, e⟩ := Zp h7
      obtain rfl : tov = .slice ta tgt.length tc := e
      unfold maxLen at tr ts
      have hs := hp.since
      have c0 : wo.cell? ⟨rb, off + k * 6, none⟩ = some (.slice pa phis.length pc) := (hs.cell (p := ⟨rb, off + k * 6 + 0, none⟩) hg).trans (hc 0 (by decide))
      have c1 : wo.cell? ⟨rb, off + k * 6 + 1, none⟩ = some (.slice na ins.length nc) := (hs.cell (p := ⟨rb, off + k * 6 + 1, none⟩) hg).trans (hc 1 (by decide))
      have c2 : wo.cell? ⟨rb, off + k * 6 + 2, none⟩ = some (.int .i64 kd) := (hs.cell (p := ⟨rb, off + k * 6 + 2, none⟩) hg).trans (hc 2 (by decide))
      have c3 : wo.cell? ⟨rb, off + k * 6 + 3, none⟩ = some (.slice aa args.length ac) := (hs.cell (p := ⟨rb, off + k * 6 + 3, none⟩) hg).trans (hc 3 (by decide))
      have c4 : wo.cell? ⟨rb, off + k * 6 + 4, none⟩ = some (.slice ta tgt.length tc) := (hs.cell (p := ⟨rb, off + k * 6 + 4, none⟩) hg).trans (hc 4 (by decide))
      have c5 : wo.cell? ⟨rb, off + k * 6 + 5, none⟩ = some (.int .i32 imm) := (hs.cell (p := ⟨rb, off + k * 6 + 5, none⟩) hg).trans (hc 5 (by decide))
      have hU : rb < wo.heap.size := Nat.lt_of_lt_of_le hg hs.size
      have HP := hid (hp.keep ((Since.refl wo).alloc (.cells #[.slice pa phis.length pc, .slice na ins.length nc, .int .i64 kd, .slice aa args.length ac, .slice ta tgt.length tc, .int .i32 imm] 57)))
      have Hj := hid hp.lt
      have tH := hid hd
      have tR := hid hP
      have tS := hid hE
      have tB := hid h7
      have HA := hid hA
      simp only [List.length_append, List.length_cons, List.length_nil] at hH
      have Hl := hid hH
      clear hp hd hP hE h7 hA hs hc hx hH
      go_wp2_with fail
      refine (Ko HP.out ⟨#[98, 108, 111, 99, 107]⟩ [.n k] 1 _ _ (by simp) rfl rfl (by simp) (fun x hx => by rw [List.mem_singleton.1 hx]; exact ⟨by omega, by omega⟩) (by have := Hl.out; unfold W8 at this; simp only [List.length_append, List.length_cons, List.length_nil] at this; show _ + (5 + _) ≤ _; simp only [List.flatMap_cons, List.flatMap_nil, List.append_nil, itS]; omega)).mono ?_
      rintro e w2 ⟨rfl, Hw, HD⟩
      clear c0 c1 c2 c3 c4 c5 hU hg
      have ha := hid ((HeapIs.new wo #[.slice pa phis.length pc, .slice na ins.length nc, .int .i64 kd, .slice aa args.length ac, .slice ta tgt.length tc, .int .i32 imm] 57).kept HD (by have := Hj.out; omega) (by decide))
      obtain ⟨A1, h2⟩ : ∃ A1, A ++ W8 k = A1 := ⟨_, rfl⟩
      have Hp := hid h2
      have tK := zH (PrS w wB A1 w2) (by rw [← h2]; have := Hw; simpa [itS, W8] using this)
      have H5 : A1.length = A.length + (W8 k).length := by rw [← h2, List.length_append]
      have hR := zH (A1.length + ((phis.flatMap phT).length + ((ins.flatMap inT).length + ((Yi (Zt.d ⟨kd, args, .slice aa args.length ac, tgt, .slice ta tgt.length tc, imm⟩)).length + 1))) ≤ 500000) (by have := Hl.out; omega)
      clear Hw HD h2 H5 HP Hl
      have tz : w2.cell? ⟨wo.heap.size, 0, none⟩ = some (.slice pa phis.length pc) := ha.out.cell 0
      have hu := ha.out.lt
      go_wp2_with fail
      clear tz hu
      go_loopw [38] (fun i ws => ∃ j : Nat, i = .int .i64 j ∧ j ≤ phis.length ∧ PrS w wB (A1 ++ (phis.take j).flatMap phT) ws ∧ HeapIs ws wo.heap.size #[.slice pa phis.length pc, .slice na ins.length nc, .int .i64 kd, .slice aa args.length ac, .slice ta tgt.length tc, .int .i32 imm] 57) (fun i _ => phis.length - (intOf i).toNat)
      case atStart => exact ⟨0, rfl, Nat.zero_le _, by simpa using tK.out, ha.out⟩
      case round =>
        obtain ⟨j, rfl, hj, hp, hJ⟩ := hrel
        obtain ⟨ws, tm⟩ : ∃ z, z = wr := ⟨_, rfl⟩
        subst tm
        have ha := hid hJ
        clear hJ
        by_cases He : j < phis.length
        · obtain ⟨pb, po, p, rfl, Ha, hV, h9, hi⟩ := RowIn.at tH.out He
          have h3 := hid (hC.out.phis p (List.mem_of_getElem? hV))
          have hW := Z3 phT phis (j + 1)
          rw [ZI phT hV, List.length_append] at hW
          have tF := hid (ZI phT hV)
          obtain ⟨dst, pins, pinv⟩ := p
          replace hi : YI w pinv pins := hi
          obtain ⟨ia, ic, e, tt⟩ := RowIn.shape hi
          obtain rfl : pinv = .slice ia pins.length ic := e
          unfold maxLen at tt
          have hd : phT ⟨dst, pins, .slice ia pins.length ic⟩ = [112, 104, 105] ++ (dS dst ++ pins.flatMap YS) ++ [10] := rfl
          rw [hd] at hW
          simp only [List.length_append, List.length_cons, List.length_nil] at hW
          have HW := hid (show pins.length ≤ (pins.flatMap YS).length from by
            rw [List.length_flatMap]
            have : ∀ l : List (Int × Int), l.length ≤ (l.map fun a => (YS a).length).sum := by
              intro l
              induction l with
              | nil => simp
              | cons y r ih => simp only [List.map_cons, List.sum_cons, List.length_cons]; have : 1 ≤ (YS y).length := by unfold YS dS; simp
                               omega
            exact this pins)
          have hs := hp.since
          have d0 : ws.cell? ⟨pb, po + j * 2, none⟩ = some (.int .i64 dst) := (hs.cell (p := ⟨pb, po + j * 2 + 0, none⟩) Ha).trans (h9 0 (by decide))
          have d1 : ws.cell? ⟨pb, po + j * 2 + 1, none⟩ = some (.slice ia pins.length ic) := (hs.cell (p := ⟨pb, po + j * 2 + 1, none⟩) Ha).trans (h9 1 (by decide))
          have hU : pb < ws.heap.size := Nat.lt_of_lt_of_le Ha hs.size
          have hY : A1.length + (3 + ((dS dst).length + (pins.flatMap YS).length) + 1) + ((phis.take j).flatMap phT).length ≤ 500000 := by have := hR.out; omega
          have hv := hid hY
          have tG := hid hi
          have HP := hid hp
          have t2 := hid hs.size
          have HZ := zH (pins.length ≤ 500000) (by have := HW.out; omega)
          have HQ := hid (HeapIs.new ws #[.int .i64 dst, .slice ia pins.length ic] 60)
          clear hs h9 hi hV hd hW hY hp HW
          go_wp2_with fail
          clear d0 d1 hU
          obtain ⟨wq, hT⟩ : ∃ z, ws.alloc (.cells #[.int .i64 dst, .slice ia pins.length ic] 60) = z := ⟨_, rfl⟩
          have Hg := zH (Since ws wq) (by rw [← hT]; exact (Since.refl _).alloc _)
          rw [hT] at HQ ⊢
          have HS := zH (ws.heap.size + 1 = wq.heap.size) (by rw [← hT]; simp)
          clear hT
          go_loopw [45, 8] (fun i iv wz => ∃ (m : Nat) (v8 : Value), i = .int .i64 m ∧ v8 = iv ∧ m ≤ pins.length ∧ OwnRow itc 1 20 wq.heap.size wz v8 ((pins.take m).map VJ) ∧ Since wq wz) (fun i _ _ => pins.length - (intOf i).toNat)
          case atStart => exact ⟨0, _, rfl, rfl, Nat.zero_le _, OwnRow.nil _ _ _ _ _, Since.refl _⟩
          case round =>
            obtain ⟨m, iv, rfl, rfl, hm, ho, Hq⟩ := hrel
            obtain ⟨wz, tk⟩ : ∃ z, z = wr := ⟨_, rfl⟩
            subst tk
            have HO := hid ho
            have hD := hid Hq
            clear ho Hq
            by_cases tu : m < pins.length
            · obtain ⟨zb, zo, y, rfl, hS, hy, h6, _⟩ := RowIn.at tG.out tu
              obtain ⟨fr, vl⟩ := y
              have HN := hid ((h3.out.ins _ (List.mem_of_getElem? hy)).1)
              have HM := hid ((h3.out.ins _ (List.mem_of_getElem? hy)).2)
              have tv := Zd9 (h3.out.ins _ (List.mem_of_getElem? hy))
              obtain ⟨tj, ti⟩ := tv
              dsimp only at tj ti
              have tA := hid hy
              have hs := HP.out.since.trans (Hg.out.trans hD.out)
              have e0 : wz.cell? ⟨zb, zo + m * 2, none⟩ = some (.int .i64 fr) := (hs.cell (p := ⟨zb, zo + m * 2 + 0, none⟩) hS).trans (h6 0 (by decide))
              have e1 : wz.cell? ⟨zb, zo + m * 2 + 1, none⟩ = some (.int .i64 vl) := (hs.cell (p := ⟨zb, zo + m * 2 + 1, none⟩) hS).trans (h6 1 (by decide))
              have th : zb < wz.heap.size := Nat.lt_of_lt_of_le hS hs.size
              have HY := hid (HeapIs.new wz #[.int .i64 fr, .int .i64 vl] 71)
              have HV := hid (hs.alloc (.cells #[.int .i64 fr, .int .i64 vl] 71))
              clear hs h6 hy
              go_wp2_with fail
              clear e0 e1 th hS
              refine Zb 11 rfl (by decide +kernel) (by decide +kernel) (by decide +kernel) (by decide)
                [Is iv, Is (.pointer (some ⟨wz.heap.size, 0, none⟩)), Is (.int .i64 fr), Is (.string ⟨(Lib.itoa fr).toArray⟩), Is (.string (⟨(Lib.itoa fr).toArray⟩ ++ ⟨#[58]⟩)), Is (.pointer (some ⟨wz.heap.size, 1, none⟩)), Is (.int .i64 vl), Is (.string ⟨(Lib.itoa vl).toArray⟩), Is (.string (pairB (fr, vl))), Is (.iface 9 (.string (pairB (fr, vl)))), QT #[.iface 9 (.string (pairB (fr, vl)))] 20 1]
                (by repeat (first | exact trivial | refine ⟨Is.stable _, ?_⟩ | refine ⟨Any.stable, ?_⟩ | refine ⟨ZV.stable _ _, ?_⟩ | refine ⟨QT.stable _ _ _, ?_⟩)) ⟨?_, ?_, ?_, ?_, ?_, ?_, ?_, ?_, ?_, ?_, ?_, trivial⟩ ?_
              rotate_right
              · intro vs w9 hs hk
                simp only [List.take, List.drop, putAll, Act.put, Zc, Zd, Is, List.setIfInBounds_toArray, List.set_cons_zero, List.set_cons_succ, Nat.reduceAdd] at hk ⊢
                try simp only [hk]
                obtain ⟨gq, HI, HJ⟩ := hk.2.2.2.2.2.2.2.2.2.2.1
                rw [HI]
                have H0 := hid HJ
                have tM := hid (OwnRow.keep HO.out (((Since.refl wz).alloc (.cells #[.int .i64 fr, .int .i64 vl] 71)).trans hs))
                have H7 := hid ((hD.out.alloc (.cells #[.int .i64 fr, .int .i64 vl] 71)).trans hs)
                clear hk HI HJ hs
                go_wp2_with (at_builtin; refine Vr (w0 := wq) itc Kp ZcL rfl _ _ 69 rfl 20 .nilIface 16 Tryz.underlying69 Tryz.infoIf rfl (by decide) _ _ _ [VJ (fr, vl)] rfl rfl tM.out (p := fun _ _ => True) (.inr ⟨gq, 0, 1, rfl, by simp, by decide, H0.out.lt, fun j x hx => ⟨fun t ht => (by obtain rfl : j = 0 := (by have := (List.getElem?_eq_some_iff.1 hx).1; simp at this; exact this); obtain rfl : VJ (fr, vl) = x := (by simpa using hx); obtain rfl : t = 0 := (by omega); exact H0.out.cell 0), trivial⟩⟩) (by have := HZ.out; simp only [List.length_map, List.length_take, List.length_cons, List.length_nil]; omega) H7.out ?_; intro v2 w10 hG hF; have h4 := hid hG; have H6 := hid hF; clear hG hF)
                go_roundw
                case rel => exact ⟨m + 1, _, by go_num, rfl, by omega, by rw [Za7 VJ tA.out]; exact h4.out, H6.out⟩
                case measure => simp [intOf]; omega
              all_goals
                intro vs w9 hs hk _
                simp only [List.take, putAll, Act.put, Zh, Zd, Is, List.setIfInBounds_toArray, List.set_cons_zero, List.set_cons_succ, Nat.reduceAdd] at hk ⊢
                try simp only [hk]
              iterate 2
               · go_wp2
                 exact ⟨_, rfl, rfl, Since.refl _⟩
              · have hq := HY.out.keep hs
                have tq := hq.cell 0
                have Ht := hq.lt
                go_wp2
                exact ⟨_, rfl, rfl, Since.refl _⟩
              · go_wp2_with fail
                refine (Tryz.strconv_Itoa fr HN.out.1 HN.out.2 _ (Hk.out.keep (HV.out.trans hs)).s.tab).mono ?_
                rintro e w2 ⟨rfl, kk, os, rfl⟩
                have HG := hid (WD w9 kk os)
                generalize Sort.grow (w9.drewN kk) os = w2 at *
                go_wp2
                exact ⟨_, rfl, rfl, HG.out⟩
              iterate 2
               · go_wp2
                 exact ⟨_, rfl, rfl, Since.refl _⟩
              · have hq := HY.out.keep hs
                have tq := hq.cell 1
                have Ht := hq.lt
                go_wp2
                exact ⟨_, rfl, rfl, Since.refl _⟩
              · go_wp2_with fail
                refine (Tryz.strconv_Itoa vl HM.out.1 HM.out.2 _ (Hk.out.keep (HV.out.trans hs)).s.tab).mono ?_
                rintro e w2 ⟨rfl, kk, os, rfl⟩
                have HG := hid (WD w9 kk os)
                generalize Sort.grow (w9.drewN kk) os = w2 at *
                go_wp2
                exact ⟨_, rfl, rfl, HG.out⟩
              iterate 2
               · go_wp2
                 exact ⟨_, rfl, rfl, Since.refl _⟩
              · go_wp2
                exact ⟨_, rfl, ⟨_, rfl, HeapIs.new _ _ _⟩, (Since.refl _).alloc _⟩
            · obtain rfl : pins.length = m := by omega
              rw [List.take_length] at HO
              have tW : wz.cell? ⟨ws.heap.size, 0, none⟩ = some (.int .i64 dst) := (HQ.out.keep hD.out).cell 0
              have Ht := (HQ.out.keep hD.out).lt
              have tL := hid (XH itc 1 20 wz [.n dst] 1 Kp rfl (by decide) #[.iface 3 (.int .i64 dst)] rfl)
              have tE := hid (ZcK (b := w.heap.size + 1) (B := w.heap.size) (OwnRow.keep HO.out ((Since.refl wz).alloc (.cells #[.iface 3 (.int .i64 dst)] 20))) (fun q hq => by have := (World.ownsRow.lt HO.out q hq).1; have := HS.out; have := HP.out.lt; omega) (fun x hx w9 _ => by obtain ⟨y, _, rfl⟩ := List.mem_map.1 hx; trivial) _ (Kept.refl _ _ _))
              have HU := hid (Hg.out.trans hD.out)
              clear hD HO HQ HS
              go_wp2_with (at_builtin; refine Vr (w0 := wz) itc Kp ZcL rfl _ _ 69 rfl 20 .nilIface 16 Tryz.underlying69 Tryz.infoIf rfl (by decide) _ _ [.n dst] (pins.map VJ) rfl rfl tL.out tE.out (by have := HZ.out; simp only [List.length_map, List.length_cons, List.length_nil]; omega) ((Since.refl _).alloc _) ?_; intro v2 w10 hG hF; have h4 := hid hG; have tD := hid hF; clear hG hF)
              refine (Zbv HP.out _ (HU.out.trans tD.out) ⟨#[112, 104, 105]⟩ ([.n dst] ++ pins.map VJ) _ (ZcK h4.out (fun q hq => by have := (World.ownsRow.lt h4.out q hq).1; have := HU.out.size; have := HP.out.lt; omega) (fun x hx w9 _ => by
                rcases List.mem_append.1 hx with hx | hx
                · rw [List.mem_singleton.1 hx]; exact h3.out.dst
                · obtain ⟨y, _, rfl⟩ := List.mem_map.1 hx; trivial)) (by have := hv.out; rw [List.flatMap_append, Zbz]; simp only [List.length_append, List.flatMap_cons, List.flatMap_nil, List.append_nil, itS]; show _ + (3 + _) ≤ _; omega)).mono ?_
              rintro e w3 ⟨rfl, Hv, HC⟩
              have tJ := hid (show PrS w wB (A1 ++ (phis.take (j + 1)).flatMap phT) w3 from by
                rw [tF.out]
                have := Hv
                rw [List.flatMap_append, Zbz] at this
                simpa [itS, phT, Jr, ZC.d] using this)
              have te := hid (ha.out.kept HC (by have := Hj.out; omega) (by decide))
              clear Hv HC
              go_wp2
              go_roundw
              case rel => exact ⟨j + 1, by go_num, by omega, tJ.out, te.out⟩
              case measure => simp [intOf]; omega
        · obtain rfl : phis.length = j := by omega
          rw [List.take_length] at hp
          obtain ⟨A2, h0⟩ : ∃ A2, A1 ++ phis.flatMap phT = A2 := ⟨_, rfl⟩
          have H4 : A2.length = A1.length + (phis.flatMap phT).length := by rw [← h0, List.length_append]
          rw [h0] at hp
          have Ho := hid h0
          have hv := zH (A2.length + ((ins.flatMap inT).length + ((Yi (Zt.d ⟨kd, args, .slice aa args.length ac, tgt, .slice ta tgt.length tc, imm⟩)).length + 1)) ≤ 500000) (by have := hR.out; omega)
          have HP := hid hp
          clear hp h0 H4 hR
          have tx : ws.cell? ⟨wo.heap.size, 1, none⟩ = some (.slice na ins.length nc) := ha.out.cell 1
          have hu := ha.out.lt
          go_wp2_with fail
          clear tx hu
          go_loopw [74] (fun i wt => ∃ j : Nat, i = .int .i64 j ∧ j ≤ ins.length ∧ PrS w wB (A2 ++ (ins.take j).flatMap inT) wt ∧ HeapIs wt wo.heap.size #[.slice pa phis.length pc, .slice na ins.length nc, .int .i64 kd, .slice aa args.length ac, .slice ta tgt.length tc, .int .i32 imm] 57) (fun i _ => ins.length - (intOf i).toNat)
          case atStart => exact ⟨0, rfl, Nat.zero_le _, by simpa using HP.out, ha.out⟩
          case round =>
            obtain ⟨j, rfl, hj, hp, hJ⟩ := hrel
            obtain ⟨wt, tl⟩ : ∃ z, z = wr := ⟨_, rfl⟩
            subst tl
            have ha := hid hJ
            clear hJ
            by_cases He : j < ins.length
            · obtain ⟨nb, no, x, rfl, hB, hX, hz, hl⟩ := RowIn.at tR.out He
              have tN := hid (hC.out.ins x (List.mem_of_getElem? hX))
              have Hb := Z3 inT ins (j + 1)
              rw [ZI inT hX, List.length_append] at Hb
              have tO := hid (ZI inT hX)
              obtain ⟨op, dst, two, iargs, iav, iimm⟩ := x
              replace hl : Zm w iav iargs := hl
              obtain ⟨ia, ic, e⟩ := Zp hl
              obtain rfl : iav = .slice ia iargs.length ic := e
              have HH : inT ⟨op, dst, two, iargs, .slice ia iargs.length ic, iimm⟩ = ZM (FIns.d ⟨op, dst, two, iargs, .slice ia iargs.length ic, iimm⟩) ++ [10] := rfl
              rw [HH, List.length_append] at Hb
              have H9 := zH ((A2 ++ (ins.take j).flatMap inT).length + (ZM (FIns.d ⟨op, dst, two, iargs, .slice ia iargs.length ic, iimm⟩)).length ≤ 999999999999) (by have := hv.out; rw [List.length_append]; omega)
              have hs := hp.since
              have d0 : wt.cell? ⟨nb, no + j * 5, none⟩ = some (.int .i64 op) := (hs.cell (p := ⟨nb, no + j * 5 + 0, none⟩) hB).trans (hz 0 (by decide))
              have d1 : wt.cell? ⟨nb, no + j * 5 + 1, none⟩ = some (.int .i64 dst) := (hs.cell (p := ⟨nb, no + j * 5 + 1, none⟩) hB).trans (hz 1 (by decide))
              have d2 : wt.cell? ⟨nb, no + j * 5 + 2, none⟩ = some (.int .i64 two) := (hs.cell (p := ⟨nb, no + j * 5 + 2, none⟩) hB).trans (hz 2 (by decide))
              have d3 : wt.cell? ⟨nb, no + j * 5 + 3, none⟩ = some (.slice ia iargs.length ic) := (hs.cell (p := ⟨nb, no + j * 5 + 3, none⟩) hB).trans (hz 3 (by decide))
              have d4 : wt.cell? ⟨nb, no + j * 5 + 4, none⟩ = some (.int .i32 iimm) := (hs.cell (p := ⟨nb, no + j * 5 + 4, none⟩) hB).trans (hz 4 (by decide))
              have hU : nb < wt.heap.size := Nat.lt_of_lt_of_le hB hs.size
              have tP := hid hl
              have HP := hid (hp.keep ((Since.refl wt).alloc (.cells #[.int .i64 op, .int .i64 dst, .int .i64 two, .slice ia iargs.length ic, .int .i32 iimm] 51)))
              have tf := hid (ha.out.keep ((Since.refl wt).alloc (.cells #[.int .i64 op, .int .i64 dst, .int .i64 two, .slice ia iargs.length ic, .int .i32 iimm] 51)))
              clear hs hz hX Hb hl HH
              go_wp2_with fail
              refine (ZgL HP.out ⟨op, dst, two, iargs, .slice ia iargs.length ic, iimm⟩ tP.out tN.out H9.out).mono ?_
              rintro e w4 ⟨rfl, Hu, HB⟩
              have tI := zH (PrS w wB (A2 ++ (ins.take (j + 1)).flatMap inT) w4) (by rw [tO.out, ← List.append_assoc]; exact Hu)
              have td := hid (tf.out.kept HB (by have := Hj.out; omega) (by decide))
              clear Hu HB d0 d1 d2 d3 d4
              go_wp2
              go_roundw
              case rel => exact ⟨j + 1, by go_num, by omega, tI.out, td.out⟩
              case measure => simp [intOf]; omega
            · obtain rfl : ins.length = j := by omega
              rw [List.take_length] at hp
              obtain ⟨A3, hZ⟩ : ∃ A3, A2 ++ ins.flatMap inT = A3 := ⟨_, rfl⟩
              have H3 : A3.length = A2.length + (ins.flatMap inT).length := by rw [← hZ, List.length_append]
              rw [hZ] at hp
              have Hn := hid hZ
              have hQ := zH (A3.length + (Yi (Zt.d ⟨kd, args, .slice aa args.length ac, tgt, .slice ta tgt.length tc, imm⟩)).length ≤ 500000) (by have := hv.out; omega)
              have HP := hid hp
              clear hp hZ H3 hv
              have HL : wt.cell? ⟨wo.heap.size, 2, none⟩ = some (.int .i64 kd) := ha.out.cell 2
              have hu := ha.out.lt
              obtain ⟨y, hy⟩ : ∃ y, X0 kd = y := ⟨_, rfl⟩
              have hO := Zgc kd wt hC.out.term.kd (Hk.out.keep HP.out.since).tab
              rw [hy] at hO
              have H8 := hid hO
              have HY := hid hy
              clear hO hy
              go_wp2_with fail
              refine H8.out.mono ?_
              rintro e w4 ⟨rfl, h8⟩
              clear HL hu
              have Hh := hid (HP.out.keep h8)
              have he := ha.out.keep h8
              have HL : w4.cell? ⟨wo.heap.size, 2, none⟩ = some (.int .i64 kd) := he.cell 2
              have t1 : w4.cell? ⟨wo.heap.size, 3, none⟩ = some (.slice aa args.length ac) := he.cell 3
              have t0 : w4.cell? ⟨wo.heap.size, 4, none⟩ = some (.slice ta tgt.length tc) := he.cell 4
              have tZ : w4.cell? ⟨wo.heap.size, 5, none⟩ = some (.int .i32 imm) := he.cell 5
              have tT := he.lt
              clear h8 he HP ha
              by_cases hI : kd < 1 ∨ 5 < kd
              · obtain rfl : ⟨#[63]⟩ = y := by rw [← HY.out]; unfold X0; rw [if_pos hI]
                have HK := hid hI
                clear hI
                have hb : Yi (Zt.d ⟨kd, args, .slice aa args.length ac, tgt, .slice ta tgt.length tc, imm⟩) = (⟨#[63]⟩ : ByteArray).data.toList ++ ([] : List It).flatMap itS := by
                  unfold Yi Zt.d; dsimp only; rw [if_pos HK.out]; rfl
                have hK := hid hb
                have hN := zH (A3.length + ((⟨#[63]⟩ : ByteArray).size + (([] : List It).flatMap itS).length) ≤ 500000) (by have := hQ.out; rw [hb, List.length_append, Zq] at this; exact this)
                clear hb
                go_wp2_with fail
                refine (Ze7 Hh.out ⟨#[63]⟩ (by have := hN.out; omega)).mono ?_
                rintro e w5 ⟨rfl, hh, _⟩
                have hM := hid (show PrS w wB (headS params ++ blksS (blocks.map FBlk.d) (k + 1)) w5 from by
                  rw [h5.out, Jg, ← List.append_assoc, HA.out, hK.out, ← List.append_assoc, Hp.out, ← List.append_assoc, Ho.out, ← List.append_assoc, Hn.out]
                  simpa [List.append_assoc] using hh)
                clear hh
                go_wp2
                go_roundw
                case rel => exact ⟨k + 1, by go_num, by omega, hM.out⟩
                case measure => simp [intOf]; omega
              · by_cases Hc : kd = 5
                · subst Hc
                  obtain rfl : ⟨#[116, 114, 97, 112]⟩ = y := by rw [← HY.out]; decide
                  have hb : Yi (Zt.d ⟨5, args, .slice aa args.length ac, tgt, .slice ta tgt.length tc, imm⟩) = (⟨#[116, 114, 97, 112]⟩ : ByteArray).data.toList ++ ([.w imm] : List It).flatMap itS := by
                    show [116, 114, 97, 112] ++ dS imm = [116, 114, 97, 112] ++ (dS imm ++ []); simp
                  have hK := hid hb
                  have hN := zH (A3.length + ((⟨#[116, 114, 97, 112]⟩ : ByteArray).size + (([.w imm] : List It).flatMap itS).length) ≤ 500000) (by have := hQ.out; rw [hb, List.length_append, Zq] at this; exact this)
                  clear hb
                  go_wp2_with fail
                  refine (Ko Hh.out ⟨#[116, 114, 97, 112]⟩ [.w imm] 1 _ _ rfl rfl rfl (by simp) (fun x hx => by rw [List.mem_singleton.1 hx]; exact hC.out.term.im) (by have := hN.out; omega)).mono ?_
                  rintro e w5 ⟨rfl, hh, _⟩
                  have hM := hid (show PrS w wB (headS params ++ blksS (blocks.map FBlk.d) (k + 1)) w5 from by
                    rw [h5.out, Jg, ← List.append_assoc, HA.out, hK.out, ← List.append_assoc, Hp.out, ← List.append_assoc, Ho.out, ← List.append_assoc, Hn.out]
                    simpa [List.append_assoc] using hh)
                  clear hh
                  go_wp2
                  go_roundw
                  case rel => exact ⟨k + 1, by go_num, by omega, hM.out⟩
                  case measure => simp [intOf]; omega
                · have HK := hid hI
                  have tQ := hid Hc
                  have hq : (y.toList == [63]) = false ∧ (y.toList == [116, 114, 97, 112]) = false := by
                    rw [← HY.out]
                    rcases (show kd = 1 ∨ kd = 2 ∨ kd = 3 ∨ kd = 4 by omega) with rfl | rfl | rfl | rfl <;> exact ⟨by rw [ByteArray.toList_eq]; decide, by rw [ByteArray.toList_eq]; decide⟩
                  obtain ⟨tV, tU⟩ := hq
                  clear hI Hc
                  have hb : Yi (Zt.d ⟨kd, args, .slice aa args.length ac, tgt, .slice ta tgt.length tc, imm⟩) = (y : ByteArray).data.toList ++ ([.ns (.slice aa args.length ac) args, .ns (.slice ta tgt.length tc) tgt] : List It).flatMap itS := by
                    unfold Yi Zt.d; dsimp only; rw [if_neg HK.out, if_neg tQ.out, HY.out]; simp [itS]
                  have hK := hid hb
                  have hN := zH (A3.length + ((y : ByteArray).size + (([.ns (.slice aa args.length ac) args, .ns (.slice ta tgt.length tc) tgt] : List It).flatMap itS).length) ≤ 500000) (by have := hQ.out; rw [hb, List.length_append, Zq] at this; exact this)
                  clear hb
                  go_wp2_with fail
                  refine (Ko Hh.out y [.ns (.slice aa args.length ac) args, .ns (.slice ta tgt.length tc) tgt] 2 _ _ rfl rfl rfl (by simp) (fun x hx => by
                      simp only [List.mem_cons, List.not_mem_nil, or_false] at hx
                      rcases hx with rfl | rfl
                      · exact ⟨tS.out, hC.out.term.ar⟩
                      · exact ⟨tB.out, hC.out.term.tg⟩) (by have := hN.out; omega)).mono ?_
                  rintro e w5 ⟨rfl, hh, _⟩
                  have hM := hid (show PrS w wB (headS params ++ blksS (blocks.map FBlk.d) (k + 1)) w5 from by
                    rw [h5.out, Jg, ← List.append_assoc, HA.out, hK.out, ← List.append_assoc, Hp.out, ← List.append_assoc, Ho.out, ← List.append_assoc, Hn.out]
                    simpa [List.append_assoc] using hh)
                  clear hh
                  go_wp2
                  go_roundw
                  case rel => exact ⟨k + 1, by go_num, by omega, hM.out⟩
                  case measure => simp [intOf]; omega
    · obtain rfl : blocks.length = k := by omega
      have HP := hid hp
      clear hp
      go_wp2_with fail
      refine (ZfY HP.out (by unfold headS; simp)).mono ?_
      rintro e w5 ⟨rfl, Hr⟩
      have tC := hid Hr
      clear Hr
      go_wp2
      go_ret
      exact ⟨rfl, tC.out⟩
def dtcells (t:ZH):List Value:=[.int .i64 t.pat,.int .i64 t.cost]
abbrev Ws (w:World) (v:Value) (l:List ZH):Prop:=RowIn dtcells 2 (fun _ t=>ZO t.pat∧ZO t.cost) w v l
theorem ZfQ (t:ZH):WZ t=[116,105,108,101]++(([.s ⟨(KY t.pat).toArray⟩,.n t.cost]:List It).flatMap itS++[10]):=by
 unfold WZ;simp[itS]
theorem Zbp (v:Value) (l:List ZH) (w:World) (hf:Ws w v l) (hn:(JS l).length≤500000) :
  Calls Tryz.prog 14 #[v] w (Xl ⟨(JS l).toArray⟩ w):=by
 obtain⟨ba,bc,e,hE⟩:=RowIn.shape hf;obtain rfl:v=.slice ba l.length bc:=e;unfold maxLen at hE;have HF:=hid hf;have HN:=hid hn;clear hf hn;go_enter Tryz.func14,Tryz.ntmps14
 go_wp2_with fail
 go_loopw [3,4] (fun so io wr=>∃ (k:Nat) (out:ByteArray),out=⟨((l.take k).flatMap WZ).toArray⟩∧so=.string out∧io=.int .i64 k∧k≤l.length∧Since w wr) (fun _ io _=>l.length-(intOf io).toNat)
 case atStart=>exact⟨0,⟨#[]⟩,rfl,rfl,rfl,Nat.zero_le _,.refl _⟩
 case round =>
  obtain⟨k,out,hd,rfl,rfl,hk,hs⟩:=hrel;obtain⟨wo,hB⟩:∃ z,z=wr:=⟨_,rfl⟩
  subst hB;have HO:=hid hd;have HS:=hid hs;have hJ:out.size≤500000:=by
   have h1:=Z3 WZ l k;have:=HN.out;unfold JS at this;rw[hd,Zu];omega
  clear hd;by_cases hD:k<l.length
  ·obtain⟨rb,off,x,rfl,hi,hx,hc,hg⟩:=RowIn.at HF.out hD;have hF:=hid (ZI WZ hx);obtain⟨pat,cost⟩:=x;have c0:wo.cell? ⟨rb,off+k*2,none⟩=some (.int .i64 pat):=(hs.cell (p:=⟨rb,off+k*2+0,none⟩) hi).trans (hc 0 (by decide));have hC:rb<wo.heap.size:=Nat.lt_of_lt_of_le hi hs.size;have hv:=hid hi;have hH:=hid (hc 1 (by decide));obtain⟨y,hy⟩:∃ y,Xx pat=y:=⟨_,rfl⟩
   have hl:=Qp pat wo hg.1;rw[hy]at hl;have hG:=hid hl;have HY:=hid hy;obtain⟨z,hz⟩:∃ z:ByteArray,⟨(KY pat).toArray⟩=z:=⟨_,rfl⟩
   have HZ:=hid hz;obtain⟨z1,he⟩:∃ z:ByteArray,⟨(dS cost).toArray⟩=z:=⟨_,rfl⟩
   have hm:=fun W=>YL cost W hg.2
   rw[he]at hm;have hA:=hid hm;have hI:z1.size≤1000:=by rw[←he,Zu];have:=Ve cost hg.2;omega
   have hr:=hid (show out++⟨#[116,105,108,101,32]⟩++z++z1++⟨#[10]⟩=⟨((l.take (k+1)).flatMap WZ).toArray⟩ from by
    rw[HO.out,hF.out,←hz,←he,ZfQ];apply Zn
    rw[Zg,Zg,Zg,Zg];simp[itS])
   clear hs hc hx hl hy hg hz he hm hi;go_wp2_with fail
   refine hG.out.mono ?_;rintro e w4 ⟨rfl,ht⟩;have hh:=HS.out.trans ht;have c1:w4.cell? ⟨rb,off+k*2+1,none⟩=some (.int .i64 cost):=(hh.cell (p:=⟨rb,off+k*2+1,none⟩) hv.out).trans hH.out;have hj:rb<w4.heap.size:=Nat.lt_of_lt_of_le hv.out hh.size;have hu:=hid hh;clear c0 hC ht hh;by_cases ha:pat<1∨37<pat
   ·obtain rfl:ByteArray.empty=y:=by rw[←HY.out];unfold Xx;rw[if_pos ha]
    obtain rfl:⟨#[63]⟩=z:=by rw[←HZ.out];unfold KY;rw[if_pos ha]
    clear ha;go_wp2_with fail
    refine (hA.out _).mono ?_;rintro e w5 ⟨rfl,hb⟩;have hp:=hid (hu.out.trans hb);clear hb c1 hj;go_wp2
    go_roundw
    case rel=>exact⟨k+1,_,hr.out,rfl,by go_num,by omega,hp.out⟩
    case measure=>simp[intOf];omega
   ·obtain rfl:y=z:=by rw[←HY.out,←HZ.out];unfold KY;rw[if_neg ha]
    have ho:∀ k,k<37→((ZT.getD k ByteArray.empty).data.toList==[])=false∧(ZT.getD k ByteArray.empty).size≤10:=by decide
    have hq:(y.toList==[])=false∧y.size≤10:=by
     have:=ho (pat-1).toNat (by omega);rw[←HY.out,ByteArray.toList_eq];unfold Xx;rw[if_neg ha];exact this
    obtain⟨hq,hK⟩:=hq;clear ha ho;go_wp2_with fail
    refine (hA.out _).mono ?_;rintro e w5 ⟨rfl,hb⟩;have hp:=hid (hu.out.trans hb);clear hb c1 hj;go_wp2
    go_roundw
    case rel=>exact⟨k+1,_,hr.out,rfl,by go_num,by omega,hp.out⟩
    case measure=>simp[intOf];omega
  ·obtain rfl:l.length=k:=by omega
   rw[List.take_length]at HO;clear hs;go_wp2
   go_ret
   exact⟨by rw[HO.out];rfl,HS.out⟩
open Go.RowKit Go.ChangeShapes Go.WideShapes
instance:Inhabited ZC:=⟨⟨0,[],.slice none 0 0⟩⟩
instance:Inhabited FIns:=⟨⟨0,0,0,[],.slice none 0 0,0⟩⟩
instance:Inhabited FBlk:=⟨⟨[],.slice none 0 0,[],.slice none 0 0,⟨0,[],.slice none 0 0,[],.slice none 0 0,0⟩⟩⟩
instance:Inhabited ZH:=⟨⟨0,0⟩⟩
theorem ZeL {n : Int} (h:(Lit.int .i64 n).wf=true):ZO n:=by
 simp[Lit.wf,IntKind.min,IntKind.max,IntKind.signed,IntKind.bits]at h;unfold ZO;omega
theorem RowIn.split {α:Type} {f : α→List Value} {sz:Nat} {p : World→α→Prop} {q : α→Prop} {w : World} {v : Value} {l : List α} (h:RowIn f sz (fun w x=>p w x∧q x) w v l):RowIn f sz p w v l∧∀ x∈l,q x:=by
 rcases h with ⟨a,h1,h2⟩|⟨b,off,cap,h1,h2,h3,h4,h5⟩
 ·exact⟨.inl ⟨a,h1,h2⟩,by subst h2;intro x hx;cases hx⟩
 ·refine⟨.inr ⟨b,off,cap,h1,h2,h3,h4,fun j x hj=>⟨(h5 j x hj).1,(h5 j x hj).2.1⟩⟩,fun x hx=>?_⟩
  obtain⟨j,hj,rfl⟩:=List.mem_iff_getElem.1 hx;exact (h5 j _ (List.getElem?_eq_getElem hj)).2.2
theorem ls2 {α:Type} {l : List α} (h:l.length=2):∃ a b,l=[a,b]:=by
 match l,h with
 | [a,b],_=>exact⟨a,b,rfl⟩
section
variable {H : Type} {enc:TypeId × Value→H} {w : World} {base:Nat} {held:Bool}
theorem Zel {fuel:Nat} {v : Value} {x : DataW H × List MemPlace} (h:DataW.trod enc Tryz.prog w base (fun _=>true) held fuel 32 [v]=some x):∃ l:List Int,Zm w v l∧∀ n∈l,ZO n:=by
 obtain⟨l,h1,h2⟩:=Zec Tryz.underlying32 Tryz.underlying3 Tryz.cellsInt h;exact⟨l,h1,fun n hn=>ZeL (h2 n hn)⟩
end
theorem Tryz.cells2:Tryz.prog.cellsOf 33=2:=by kernel_rfl
section
variable {H : Type} {enc:TypeId × Value→H} {w : World} {base:Nat} {held:Bool}
theorem Zeo {r : Reach} {b0:Nat} {v : Value} {d : DataW H} {p : List MemPlace} (hv:Value.okWide Tryz.prog w r b0 32 v) (h:DataW.Trod enc Tryz.prog w base (fun _=>true) held 32 v d p):∃ l:List Int,Zm w v l∧∀ n∈l,ZO n:=by
 obtain⟨a,len,cap,rfl⟩:=okWide_slice Tryz.underlying32 hv;obtain⟨fuel,hf⟩:=h;exact Zel (by simpa [Value.cells]using hf)
theorem ZeM {fuel:Nat} {cs:List Value} {x : DataW H × List MemPlace} (h:DataW.trod enc Tryz.prog w base (fun _=>true) held fuel 33 cs=some x):∃ y:Int × Int,cs=prcells y∧True∧ZO y.1∧ZO y.2:=by
 obtain⟨xs,m,_,_,ha,hb,hc⟩:=DataW.trod_array Tryz.underlying33 h;rw[Tryz.cells2]at ha;obtain⟨c0,c1,rfl⟩:=ls2 ha;have h0:=hc 0 (by decide);have h1:=hc 1 (by decide);rw[Tryz.cellsInt]at h0 h1;simp only[Nat.mul_one,List.drop_succ_cons,List.drop_zero,List.take_succ_cons,List.take_zero]at h0 h1;obtain⟨n0,rfl,w0⟩:=ZaW Tryz.underlying3 h0 (by simp[hb]);obtain⟨n1,rfl,w1⟩:=ZaW Tryz.underlying3 h1 (by simp[hb]);exact⟨(n0,n1),rfl,trivial,ZeL w0,ZeL w1⟩
end
end Go.Proofs.YtmhojfpidedjeaaGreatDoor
