import Derived.Test.YtmhojfpidedjeaaGreatDoorTp46
namespace Go.Proofs.YtmhojfpidedjeaaGreatDoor
open Go.RowKit Go.Lib
set_option linter.unusedVariables false
set_option maxHeartbeats 16000000
set_option maxRecDepth 100000
theorem W9 {α:Type} {P : Program} {w0 w:World} {ops:Array Oper} {rest:List Oper} {o : Oper} {a : Act} {Q : Exit→Act→World→Prop} (f:α→List Value) (sz:Nat) (hf:∀ x,(f x).length=sz) (hh:0<sz) (hF:∀ x,∀ u∈f x,u.oneCell'=true) (hl:o.guard=none) (s x:Operand) (t:TypeId)
  (ho:o.op=.call { callee:=.builtin .append,args:=#[s,x],argTypes:=#[t,t] })
  (e:TypeId) (z:Value) (bytes:Nat) (ht:P.underlying t=some (.slice e)) (hm:(P.info? e).map (fun i=>(i.zero,i.size,i.bytes))=some (some z,sz,bytes)) (hz:z.cells.size=sz) (hE:bytes≤128)
  (v xv:Value) (l1 l2:List α) (hs:a.eval s=v) (hx:a.eval x=xv) (hd:OwnRow f sz e w0.heap.size w v l1) {p : World→α→Prop} (hG:RowIn f sz p w xv l2)
  (hk:l1.length+l2.length≤1000000) (ha:Since w0 w)
  (h:∀ v' w',OwnRow f sz e w0.heap.size w' v' (l1++l2)→Since w0 w'→wpList P ops Q rest (a.put o.dst v') w'):wpList P ops Q (o::rest) a w:=by
 obtain⟨i,hi,hB,hA,hp⟩:=info_parts hm;have hD:∀ (w':World),w.grownBy w' v.ownBlock→Since w0 w':=by
  intro w' hc;refine Below.grown ha hc ha.size ?_;intro r hr;obtain⟨_,⟨hv,_⟩|⟨g,cap,cur,hv,hg,_⟩⟩:=hd
  ·subst hv;cases hr
  ·subst hv;cases hr;exact hg
 unfold OwnRow at hd;rcases hG with ⟨ad,hv,rfl⟩|⟨b,off,cap,hv,hH,_,hb,hn⟩
 ·subst hv
  cases ad with
  | none =>
   refine wpList_append_own_none hl s x t ho w0.heap.size e i sz ht hi v _ _ hs hd hx (h v w ?_ ha);unfold OwnRow;simpa using hd
  | some ad =>
   refine wpList_append_own _ hl s x t ho w0.heap.size e i z sz bytes ht hi hB hA hp hz hh v _ _ hs hd ad 0 0 [] hx (by simp) (fun j u hu=>by cases hu) (fun u hu=>by cases hu) (by unfold maxLen;simp at hk;omega) ?_ ha.size ?_
   ·have:(l1.length+0)*bytes≤1000000*128:=Nat.mul_le_mul (by simpa using hk) hE;omega
   ·intro v' w' he hc _;exact h v' w' (by unfold OwnRow;simpa using he) (hD w' hc)
 ·subst hv;refine wpList_append_own _ hl s x t ho w0.heap.size e i z sz bytes ht hi hB hA hp hz hh v _ _ hs hd ⟨b,off,none⟩ l2.length cap (l2.flatMap f) hx (by rw[Yy f sz hf]) ?_ ?_ (by unfold maxLen;omega) ?_ ha.size ?_
  ·intro j u hu;have hj:j<l2.length*sz:=by have:=(List.getElem?_eq_some_iff.1 hu).1;rwa [Yy f sz hf]at this
   have hq:j / sz<l2.length:=(Nat.div_lt_iff_lt_mul hh).2 hj;obtain⟨y,hy⟩:∃ y,l2[j / sz]? = some y:=⟨_,List.getElem?_eq_getElem hq⟩
   have hC:j / sz*sz+j % sz=j:=by rw[Nat.mul_comm];exact Nat.div_add_mod j sz
   have h2:=(hn (j / sz) y hy).1 (j % sz) (Nat.mod_lt _ hh);have h3:=YP f sz hf l2 (j / sz) (j % sz) y hy (Nat.mod_lt _ hh);rw[hC,hu]at h3;rw[←h3,Nat.add_assoc,hC]at h2;unfold Addr.add;split
   ·rename_i h0;subst h0;simpa using h2
   ·exact h2
  ·intro u hu;obtain⟨y,_,hy⟩:=List.mem_flatMap.1 hu;exact hF y u hy
  ·have:(l1.length+l2.length)*bytes≤1000000*128:=Nat.mul_le_mul hk hE;omega
  ·intro v' w' he hc _;exact h v' w' (by unfold OwnRow;simpa using he) (hD w' hc)
def TabOk (t:ZH):Prop:=(1≤t.pat∧t.pat≤37)∧0≤t.cost∧t.cost≤12
structure Y9 (w0:World) (cq:Nat) (v:Value) (l:List ZH) (i:Nat) (w:World):Prop where
 own:OwnRow dtcells 2 79 w0.heap.size w v l
 len:l.length≤2*i
 ok:∀ t∈l,TabOk t
 since:Since w0 w
 box:HeapIs w cq costA 97
section
variable {w0 w w':World} {cq i:Nat} {v v':Value} {l : List ZH}
theorem Y9.keep (h:Y9 w0 cq v l i w) (s:Since w w'):Y9 w0 cq v l i w':=⟨OwnRow.keep h.own s,h.len,h.ok,h.since.trans s,h.box.keep s⟩
theorem Y9.more (h:Y9 w0 cq v l i w):Y9 w0 cq v l (i+1) w:=⟨h.own,by have:=h.len;omega,h.ok,h.since,h.box⟩
theorem Y9.app (h:Y9 w0 cq v l i w) {x : ZH} (ho:OwnRow dtcells 2 79 w0.heap.size w' v' (l++[x])) (t:Turn (fun q=>v.ownBlock=some q) w w') (hx:TabOk x) {k : Nat} (hk:l.length+1≤2*k):Y9 w0 cq v' (l++[x]) k w':=by
 refine⟨ho,by rw[List.length_append];exact hk,fun t ht=>?_,t.toSince h.since fun q hq e=>?_,h.box.turn t (Zk h.own h.box (by decide))⟩
 ·rcases List.mem_append.1 ht with h1|h1
  ·exact h.ok t h1
  ·rw[List.mem_singleton.1 h1];exact hx
 ·have:=(World.ownsRow.lt h.own q e).1;omega
theorem Y9.pre (h:Y9 w0 cq v l i w) {x : ZH} (ho:OwnRow dtcells 2 79 w.heap.size w' v' ([x]++l)) (s:Since w w') (hx:TabOk x) {k : Nat} (hk:l.length+1≤2*k):Y9 w0 cq v' ([x]++l) k w':=by
 refine⟨ZbC ho h.since.size,by rw[List.length_append,List.length_singleton];omega,fun t ht=>?_,h.since.trans s,h.box.keep s⟩;rcases List.mem_append.1 ht with h1|h1
 ·rw[List.mem_singleton.1 h1];exact hx
 ·exact h.ok t h1
end
theorem Zfv:∀ i,i<37→1≤Kq.getD i 0∧Kq.getD i 0≤12:=by decide
theorem Zex {w : World} {cq i:Nat} (h:HeapIs w cq costA 97) (hi:i<37):w.cell? ⟨cq,i,none⟩=some (.int .i64 (Kq.getD i 0)):=by
 have hl:i<Kq.length:=hi;rw[h.cell];unfold costA;rw[List.getElem?_toArray,List.getElem?_map,List.getElem?_eq_getElem hl,List.getD_eq_getElem?_getD,List.getElem?_eq_getElem hl];rfl
theorem Zhc {a : Int} (h:0≤a):0≤a.tmod 12∧a.tmod 12≤12:=⟨Int.tmod_nonneg 12 h,by have:=Int.tmod_lt_of_pos a (show (0:Int)<12 by decide);omega⟩
theorem Zhu {a : Int} (h:0≤a):0≤a.tmod 7∧a.tmod 7≤12:=⟨Int.tmod_nonneg 7 h,by have:=Int.tmod_lt_of_pos a (show (0:Int)<7 by decide);omega⟩
def Zhx (w:World) (e:Ending) (w':World):Prop:=∃ v tl,e=.returned v∧OwnRow dtcells 2 79 w.heap.size w' v tl∧tl.length≤74∧(∀ t∈tl,TabOk t)∧Since w w'
theorem Zhj (a:Int) (m:Nat) (hm:m<4611686018427387904):0≤bits .and .i64 a m∧bits .and .i64 a m≤m:=by
 have h:bits .and .i64 a m=IntKind.i64.wrap ((BitVec.ofInt 64 a &&& BitVec.ofInt 64 m).toNat:Int):=rfl;have h1:(BitVec.ofInt 64 (m:Int)).toNat=m:=by rw[BitVec.toNat_ofInt];omega
 have h2:(BitVec.ofInt 64 a &&& BitVec.ofInt 64 m).toNat≤m:=by
  rw[BitVec.toNat_and,h1];exact Nat.and_le_right
 rw[h,IntWalk.i64_in _ (by omega)];omega
theorem ZdV (sv : Value) (l : List Int) (w : World) (hs : Zm w sv l) : Calls Tryz.prog 20 #[sv] w (Zhx w) := by
  obtain ⟨sa, sc, hv, hU, hJ⟩ : ∃ a c, sv = .slice a l.length c ∧ l.length ≤ c ∧ c ≤ maxLen := by
    rcases hs with ⟨a, h1, h2⟩ | ⟨b, off, cap, h1, h2, h3, _⟩
    · subst h2; exact ⟨a, 0, h1, Nat.le_refl _, Nat.zero_le _⟩
    · exact ⟨_, cap, h1, h2, h3⟩
  subst hv
  unfold maxLen at hJ
  obtain ⟨n, hn⟩ : ∃ n, l.length = n := ⟨_, rfl⟩
  rw [hn] at hs hU ⊢
  have HS := hid hs
  have HN := hid hn
  clear hs hn
  go_enter Tryz.func20, Tryz.ntmps20
  go_upto_region 2 with fail
  obtain ⟨q, hq⟩ : ∃ q, w.heap.size = q := ⟨_, rfl⟩
  obtain ⟨w1, hB⟩ : ∃ w1, w.alloc (.cells #[] 79) = w1 := ⟨_, rfl⟩
  have h4 := zH (Since w w1) (by rw [← hB]; exact (Since.refl w).alloc _)
  have h5 := zH (OwnRow dtcells 2 79 w.heap.size w1 (.slice (some ⟨q, 0, none⟩) 0 0) []) (by rw [← hB, ← hq]; exact XH dtcells 2 79 w [] 0 (fun _ => rfl) rfl (by decide) #[] rfl)
  rw [hB]
  try rw [hq]
  clear hB hq
  go_wp2_with fail
  refine (Zew w1).mono ?_
  rintro e w2 ⟨rfl, hK⟩
  have hQ := hid hK
  clear hK
  go_upto_region 3 with (refine wpList_store_row rfl 97 _ _ rfl w2.heap.size costA rfl rfl 97 _ (Z2 w2 _) (by kernel_rfl) (by kernel_rfl) (by kernel_rfl) ?_; generalize hW : (World.alloc w2 _).setRow w2.heap.size costA = w3; have hP := zH (Since w2 w3) (by rw [← hW]; exact JM ((Since.refl w2).alloc _) (Nat.le_refl _) _); have hI := zH (HeapIs w3 w2.heap.size costA 97) (by rw [← hW]; exact Ye (HeapIs.new w2 _ _) _); clear hW)
  obtain ⟨cq, hF⟩ : ∃ q, w2.heap.size = q := ⟨_, rfl⟩
  rw [hF] at hI
  try rw [hF]
  have hO := zH (Y9 w cq (.slice (some ⟨q, 0, none⟩) 0 0) [] 0 w3) ⟨OwnRow.keep h5.out (hQ.out.trans hP.out), Nat.le_refl _, fun t ht => (by cases ht), h4.out.trans (hQ.out.trans hP.out), hI.out⟩
  clear hF hI
  rcases Nat.eq_zero_or_pos n with h0 | h0
  case' inl =>
    have h1 : decide ((n : Int) > 0) = false := decide_eq_false (by omega)
    have h2 : decide (0 < (n : Int)) = false := decide_eq_false (by omega)
    go_upto_region 4 with fail
  case' inr =>
    obtain ⟨b, off, y, rfl, hb, hy, hc⟩ := V9 (HS.out.keep hO.out.since) (j := 0) (by rw [HN.out]; exact h0)
    obtain ⟨ls, hX⟩ : ∃ b, (y.tmod 4 == 1) = b := ⟨_, rfl⟩
    rw [Nat.add_zero] at hc
    go_upto_region 4 with fail
    clear hb hy hc hX
    cases ls
  all_goals
    try clear h1 h2
    go_wp2_with fail
    go_loopw [3, 6] (fun vo io wr => ∃ (i : Nat) (tl : List ZH), io = .int .i64 i ∧ i ≤ 37 ∧ Y9 w cq vo tl i wr) (fun _ io _ => 37 - (intOf io).toNat)
    case atStart => exact ⟨0, [], rfl, by decide, hO.out⟩
    case round =>
      obtain ⟨i, tl, rfl, hi, hC⟩ := hrel
      obtain ⟨oa, oc, eo⟩ := OwnRow.shape hC.own
      obtain ⟨ol, hD⟩ : ∃ k, tl.length = k := ⟨_, rfl⟩
      rw [hD] at eo
      subst eo
      have hg := hid hC
      have ha := zH (tl.length = ol ∧ ol ≤ 2 * i) ⟨hD, by have := hC.len; omega⟩
      clear hC hD
      by_cases hE : i < 37
      · have hG := Zex hg.out.box hE
        have hL := hg.out.box.lt
        obtain ⟨c0, hH⟩ : ∃ c, Kq.getD i 0 = c := ⟨_, rfl⟩
        have hT := zH (1 ≤ c0 ∧ c0 ≤ 12) (by rw [← hH]; exact Zfv i hE)
        rw [hH] at hG
        clear hH
        rcases Nat.lt_or_ge (i + 1) n with hx | hx
        case' inl =>
          obtain ⟨b2, off2, y2, e2, hZ, hV, hY⟩ := V9 (HS.out.keep hg.out.since) (j := i + 1) (by rw [HN.out]; exact hx)
          cases e2
          obtain ⟨z, hz⟩ : ∃ z, bits .and .i64 y2 65535 = z := ⟨_, rfl⟩
          have hm : 0 ≤ z ∧ z ≤ 65535 := by rw [← hz]; exact Zhj y2 65535 (by decide)
          obtain ⟨c3, hN⟩ : ∃ c, (z.tdiv 3).tmod 12 = c := ⟨_, rfl⟩
          obtain ⟨c7, hM⟩ : ∃ c, z.tmod 7 = c := ⟨_, rfl⟩
          have h7 : z / 3 % 12 = c3 := by rw [← hN, Int.tdiv_eq_ediv_of_nonneg hm.1, Int.tmod_eq_emod_of_nonneg (Int.ediv_nonneg hm.1 (by decide))]
          have h6 : z % 7 = c7 := by rw [← hM, Int.tmod_eq_emod_of_nonneg hm.1]
          have hS := zH (0 ≤ c3 ∧ c3 ≤ 12) (by rw [← hN]; exact Zhc (Int.tdiv_nonneg hm.1 (by decide)))
          have hR := zH (0 ≤ c7 ∧ c7 ≤ 12) (by rw [← hM]; exact Zhu hm.1)
          go_upto_region 10 with fail
          all_goals try clear hZ hV hY hz
        case' inr => go_upto_region 10 with fail
        all_goals go_upto_region 11 with fail
        all_goals first
          | (exact ⟨⟨i + 1, tl, by go_num, by omega, hg.out.more⟩, by simp [intOf]; omega⟩)
          | go_upto_region 14 with fail
        all_goals first
          | (obtain ⟨wB, hh⟩ : ∃ z, wr.alloc (.cells #[.int .i64 ((i : Int) + 1), .int .i64 c3] 79) = z := ⟨_, rfl⟩;
             rw [hh];
             have hp : Since wr wB := by rw [← hh]; exact (Since.refl wr).alloc _;
             have hf : HeapIs wB wr.heap.size #[.int .i64 ((i : Int) + 1), .int .i64 c3] 79 := by rw [← hh]; exact HeapIs.new wr _ _;
             clear hh;
             obtain ⟨qx, hk⟩ : ∃ q, wr.heap.size = q := ⟨_, rfl⟩;
             rw [hk] at hf;
             try rw [hk];
             have x0 := hf.cell 0;
             have x1 := hf.cell 1;
             have xl := hf.lt;
             have HB := hid (hg.out.keep hp);
             have hA := zH (TabOk ⟨(i : Int) + 1, c3⟩) ⟨⟨by show 1 ≤ (i : Int) + 1; omega, by show (i : Int) + 1 ≤ 37; omega⟩, by show 0 ≤ c3; have := hS.out; omega, by show c3 ≤ 12; have := hS.out; omega⟩;
             clear hp hf hk hG hL;
             go_upto_region 17 with (first | (at_builtin; refine W9 (w0 := wB) dtcells 2 (fun _ => rfl) (by decide) (fun x u hu => by simp only [dtcells, List.mem_cons, List.not_mem_nil, or_false] at hu; rcases hu with rfl | rfl <;> rfl) rfl _ _ 25 rfl 79 (.agg #[.int .i64 0, .int .i64 0]) 16 Tryz.underlying25 (by kernel_rfl) rfl (by decide) _ (.slice oa ol oc) [(⟨(i : Int) + 1, c3⟩ : ZH)] tl rfl rfl (XH dtcells 2 79 wB [(⟨(i : Int) + 1, c3⟩ : ZH)] 1 (fun _ => rfl) rfl (by decide) _ rfl) (Yf (f := dtcells) (p := fun _ _ => True) (fun _ => rfl) (OwnRow.keep HB.out.own ((Since.refl wB).alloc _)) fun _ _ => trivial) (by have h1 := ha.out.1; have h2 := ha.out.2; simp only [List.length_singleton]; omega) ((Since.refl wB).alloc _) ?_; intro v9 w9 ho hr; obtain ⟨va, vc, hv⟩ := OwnRow.shape ho; rw [List.length_append, ha.out.1, List.length_singleton, Nat.add_comm] at hv; subst hv; obtain ⟨tl2, he, hd⟩ : ∃ tl2, Y9 w cq (.slice va (ol + 1) vc) tl2 (i + 1) w9 ∧ tl2.length = ol + 1 := ⟨_, HB.out.pre ho hr hA.out (k := i + 1) (by rw [ha.out.1]; have := ha.out.2; omega), (by rw [List.length_append, ha.out.1, List.length_singleton, Nat.add_comm])⟩; have HE := hid he; have hl := hid hd; clear he hd ho hr) | (at_builtin; refine Zf dtcells 2 (fun _ => rfl) (by decide) rfl _ _ 25 rfl 79 (.agg #[.int .i64 0, .int .i64 0]) 16 Tryz.underlying25 (by kernel_rfl) rfl (.slice oa ol oc) tl ⟨(i : Int) + 1, c3⟩ _ 1 _ rfl rfl (OwnRow.keep HB.out.own ((Since.refl wB).alloc _)) (HeapIs.new wB _ _) (fun u hu => by simp only [dtcells, List.mem_cons, List.not_mem_nil, or_false] at hu; rcases hu with rfl | rfl <;> rfl) (by rw [ha.out.1]; have := ha.out.2; unfold maxLen; omega) (by rw [ha.out.1]; have := ha.out.2; omega) (by have := HB.out.since.size; simp only [World.alloc, Array.size_push]; omega) ?_; intro v9 w9 ho ht hn; obtain ⟨va, vc, hv⟩ := OwnRow.shape ho; rw [List.length_append, ha.out.1, List.length_singleton] at hv; subst hv; have hj : Since wB (wB.alloc (.cells #[.int .i64 ((i : Int) + 1), .int .i64 c3] 79)) := (Since.refl wB).alloc _; obtain ⟨tl2, he, hd⟩ : ∃ tl2, Y9 w cq (.slice va (ol + 1) vc) tl2 (i + 1) w9 ∧ tl2.length = ol + 1 := ⟨_, (HB.out.keep hj).app ho ht hA.out (k := i + 1) (by rw [ha.out.1]; have := ha.out.2; omega), (by rw [List.length_append, ha.out.1]; rfl)⟩; have HE := hid he; have hl := hid hd; clear he hd ho ht hn hj));
             all_goals clear x0 x1 xl)
          | (obtain ⟨wB, hh⟩ : ∃ z, wr.alloc (.cells #[.int .i64 ((i : Int) + 1), .int .i64 c0] 79) = z := ⟨_, rfl⟩;
             rw [hh];
             have hp : Since wr wB := by rw [← hh]; exact (Since.refl wr).alloc _;
             have hf : HeapIs wB wr.heap.size #[.int .i64 ((i : Int) + 1), .int .i64 c0] 79 := by rw [← hh]; exact HeapIs.new wr _ _;
             clear hh;
             obtain ⟨qx, hk⟩ : ∃ q, wr.heap.size = q := ⟨_, rfl⟩;
             rw [hk] at hf;
             try rw [hk];
             have x0 := hf.cell 0;
             have x1 := hf.cell 1;
             have xl := hf.lt;
             have HB := hid (hg.out.keep hp);
             have hA := zH (TabOk ⟨(i : Int) + 1, c0⟩) ⟨⟨by show 1 ≤ (i : Int) + 1; omega, by show (i : Int) + 1 ≤ 37; omega⟩, by show 0 ≤ c0; have := hT.out; omega, by show c0 ≤ 12; have := hT.out; omega⟩;
             clear hp hf hk hG hL;
             go_upto_region 17 with (first | (at_builtin; refine W9 (w0 := wB) dtcells 2 (fun _ => rfl) (by decide) (fun x u hu => by simp only [dtcells, List.mem_cons, List.not_mem_nil, or_false] at hu; rcases hu with rfl | rfl <;> rfl) rfl _ _ 25 rfl 79 (.agg #[.int .i64 0, .int .i64 0]) 16 Tryz.underlying25 (by kernel_rfl) rfl (by decide) _ (.slice oa ol oc) [(⟨(i : Int) + 1, c0⟩ : ZH)] tl rfl rfl (XH dtcells 2 79 wB [(⟨(i : Int) + 1, c0⟩ : ZH)] 1 (fun _ => rfl) rfl (by decide) _ rfl) (Yf (f := dtcells) (p := fun _ _ => True) (fun _ => rfl) (OwnRow.keep HB.out.own ((Since.refl wB).alloc _)) fun _ _ => trivial) (by have h1 := ha.out.1; have h2 := ha.out.2; simp only [List.length_singleton]; omega) ((Since.refl wB).alloc _) ?_; intro v9 w9 ho hr; obtain ⟨va, vc, hv⟩ := OwnRow.shape ho; rw [List.length_append, ha.out.1, List.length_singleton, Nat.add_comm] at hv; subst hv; obtain ⟨tl2, he, hd⟩ : ∃ tl2, Y9 w cq (.slice va (ol + 1) vc) tl2 (i + 1) w9 ∧ tl2.length = ol + 1 := ⟨_, HB.out.pre ho hr hA.out (k := i + 1) (by rw [ha.out.1]; have := ha.out.2; omega), (by rw [List.length_append, ha.out.1, List.length_singleton, Nat.add_comm])⟩; have HE := hid he; have hl := hid hd; clear he hd ho hr) | (at_builtin; refine Zf dtcells 2 (fun _ => rfl) (by decide) rfl _ _ 25 rfl 79 (.agg #[.int .i64 0, .int .i64 0]) 16 Tryz.underlying25 (by kernel_rfl) rfl (.slice oa ol oc) tl ⟨(i : Int) + 1, c0⟩ _ 1 _ rfl rfl (OwnRow.keep HB.out.own ((Since.refl wB).alloc _)) (HeapIs.new wB _ _) (fun u hu => by simp only [dtcells, List.mem_cons, List.not_mem_nil, or_false] at hu; rcases hu with rfl | rfl <;> rfl) (by rw [ha.out.1]; have := ha.out.2; unfold maxLen; omega) (by rw [ha.out.1]; have := ha.out.2; omega) (by have := HB.out.since.size; simp only [World.alloc, Array.size_push]; omega) ?_; intro v9 w9 ho ht hn; obtain ⟨va, vc, hv⟩ := OwnRow.shape ho; rw [List.length_append, ha.out.1, List.length_singleton] at hv; subst hv; have hj : Since wB (wB.alloc (.cells #[.int .i64 ((i : Int) + 1), .int .i64 c0] 79)) := (Since.refl wB).alloc _; obtain ⟨tl2, he, hd⟩ : ∃ tl2, Y9 w cq (.slice va (ol + 1) vc) tl2 (i + 1) w9 ∧ tl2.length = ol + 1 := ⟨_, (HB.out.keep hj).app ho ht hA.out (k := i + 1) (by rw [ha.out.1]; have := ha.out.2; omega), (by rw [List.length_append, ha.out.1]; rfl)⟩; have HE := hid he; have hl := hid hd; clear he hd ho ht hn hj));
             all_goals clear x0 x1 xl)
        all_goals go_wp2_with (first | (at_builtin; refine Zf dtcells 2 (fun _ => rfl) (by decide) rfl _ _ 25 rfl 79 (.agg #[.int .i64 0, .int .i64 0]) 16 Tryz.underlying25 (by kernel_rfl) rfl (.slice va (ol + 1) vc) tl2 ⟨(i : Int) + 1, c7⟩ _ 1 _ rfl rfl (OwnRow.keep HE.out.own ((Since.refl w9).alloc _)) (HeapIs.new w9 _ _) (fun u hu => by simp only [dtcells, List.mem_cons, List.not_mem_nil, or_false] at hu; rcases hu with rfl | rfl <;> rfl) (by rw [hl.out]; have := ha.out.2; unfold maxLen; omega) (by rw [hl.out]; have := ha.out.2; omega) (by have := HE.out.since.size; simp only [World.alloc, Array.size_push]; omega) ?_; intro v10 w10 ho ht hn; obtain ⟨vb, vd, hv⟩ := OwnRow.shape ho; rw [List.length_append, hl.out, List.length_singleton] at hv; subst hv; have hj : Since w9 (w9.alloc (.cells #[.int .i64 ((i : Int) + 1), .int .i64 c7] 79)) := (Since.refl w9).alloc _; have HG := hid ((HE.out.keep hj).app ho ht ⟨⟨(by show 1 ≤ (i : Int) + 1; omega), (by show (i : Int) + 1 ≤ 37; omega)⟩, (by show 0 ≤ c7; have := hR.out; omega), (by show c7 ≤ 12; have := hR.out; omega)⟩ (k := i + 1) (by rw [hl.out]; have := ha.out.2; omega)); clear ho ht hn hj) | fail)
        all_goals go_roundw
        any_goals (first | (case measure => simp [intOf]; omega) | skip)
        all_goals first
          | exact ⟨i + 1, _, by go_num, by omega, HG.out⟩
          | exact ⟨i + 1, _, by go_num, by omega, HE.out⟩
          | exact ⟨⟨i + 1, _, by go_num, by omega, HG.out⟩, by simp [intOf]; omega⟩
          | exact ⟨⟨i + 1, _, by go_num, by omega, HE.out⟩, by simp [intOf]; omega⟩
          | (simp [intOf]; omega)
      · obtain rfl : i = 37 := by omega
        clear hE hi
        go_wp2
        go_ret
        exact ⟨_, tl, rfl, hg.out.own, hg.out.len, hg.out.ok, hg.out.since⟩
def Tx2 (n:Nat) (t:ByteArray):Prop:=t.size≤3000+11*n
theorem Tx2.turn {n : Nat} {s t:ByteArray} (h:Tx2 n s) (ht:Jh s t):Tx2 (n+1) t:=by have:=ht.size;unfold Tx2 at *;omega
def QR (n:Nat) (v:Value) (_:World):Prop:=∃ t,v=.string t∧Tx2 n t
theorem QR.stable (n:Nat):Z7 (QR n):=fun v w w' h s=>h
theorem Zce (lv qv:Value) (l:List Int) (ql:List (Int × Int)) (w:World) (hl:Zm w lv l) (hI:∀ q,lv.ownBlock=some q→q<w.heap.size) (hq:Kd w qv ql) (hL:Ys w):Calls Tryz.prog 7 #[lv,qv] w fun e w'=>e=.returned (.bool true)∧Since w w':=by
 obtain⟨qa,qc,eq,hW⟩:=RowIn.shape hq;obtain⟨qn,hH⟩:∃ n,ql.length=n:=⟨_,rfl⟩
 rw[hH]at eq hW;subst eq;unfold maxLen at hW;obtain⟨la,lc,el,Hg,Hf⟩:∃ a c,lv=.slice a l.length c∧l.length≤c∧c≤maxLen:=by
  rcases hl with ⟨a,h1,h2⟩|⟨b,off,cap,h1,h2,h3,_⟩
  ·subst h2;exact⟨a,0,h1,Nat.le_refl _,Nat.zero_le _⟩
  ·exact⟨_,cap,h1,h2,h3⟩
 subst el;unfold maxLen at Hf;obtain⟨ln,hZ⟩:∃ n,l.length=n:=⟨_,rfl⟩
 rw[hZ]at hl hI Hg ⊢;obtain⟨m,hm,He⟩:∃ m,min ln 60=m∧m≤ln:=⟨_,rfl,by omega⟩
 have Hr:min (ln:Int) 60=m:=by omega
 have Hs:m≤lc:=by omega
 have h9:=hid hl;have Hq:=hid hI;have hp:=hid hL;have HQ:=hid hq;have Hn:=hid hH;have Hp:=hid (fun w' (s:Since w w')=>ZN.cutTo (h9.out.keep s) He)
 clear hl hI hL hq hH hZ hm;go_enter Tryz.func7,Tryz.ntmps7
 go_wp2_with fail
 refine (Zci w hp.out).mono ?_;rintro e w1 ⟨rfl,hV⟩;have hO:=hid hV;clear hV;go_wp2_with fail
 refine (Zdn (.slice la ln lc) l w1 (h9.out.keep hO.out) (fun q hq=>Nat.lt_of_lt_of_le (Hq.out q hq) hO.out.size)).mono ?_
 rintro e w2 ⟨f,rfl,hf,hm,hU⟩;obtain⟨fp,fb,fa,fn,fc,rfl⟩:=Zfr f w2 hf;have HF:=hid hf;have HM:=hid hm;have Hc:=hid (hO.out.trans hU);clear hf hm hU;unfold fv;dsimp only;go_wp2_with fail
 refine (Zco ⟨fp,fb,.slice fa fn fc⟩ w2 HF.out (ZgT HM.out) (Nat.le_trans (ZbK HM.out) (by decide))).mono ?_;rintro e w3 ⟨rfl,hT⟩;have h8:=hid (Hc.out.trans hT);have h7:=hid (Txt.of HM.out);clear hT;obtain⟨t0,hP⟩:∃ y:ByteArray,⟨(XP (FnV.d ⟨fp,fb,.slice fa fn fc⟩)).toArray⟩=y:=⟨_,rfl⟩
 rw[hP]at h7 ⊢;clear hP;go_wp2_with fail
 refine (ZdV (.slice la m lc) (l.take m) w3 (Hp.out w3 h8.out)).mono ?_;rintro e w4 ⟨v0,l0,rfl,hX,h0,hr,hS⟩;have Ho:=zH (Ws w4 v0 l0) (Yf (f:=dtcells) (fun _=>rfl) hX fun x hx=>(by have:=hr x hx;unfold TabOk at this;exact⟨⟨by omega,by omega⟩,by omega,by omega⟩))
 have hJ:=ZdR l0 74 (fun x hx=>by have:=hr x hx;unfold TabOk at this;exact⟨by omega,by omega⟩) h0;have Ha:=hid hJ;have Hm:=hid (h8.out.trans hS);clear hX h0 hr hS hJ;go_wp2_with fail
 refine (Zbp v0 l0 w4 Ho.out (Nat.le_trans Ha.out (by decide))).mono ?_;rintro e w5 ⟨rfl,hR⟩;have hN:=hid (Hm.out.trans hR);clear hR;obtain⟨s0,hG⟩:∃ y:ByteArray,⟨(JS l0).toArray⟩=y:=⟨_,rfl⟩
 have Hk:=zH (Tx2 0 s0) (by unfold Tx2;rw[←hG,Zu];exact Nat.le_trans Ha.out (by decide))
 rw[hG];clear hG;go_wp2_with fail
 go_loopw [6,7,8] (fun so tt io wr=>∃ (i:Nat) (s t:ByteArray),so=.string s∧tt=.string t∧io=.int .i64 i∧i≤qn∧i≤4∧Txt i s∧Tx2 i t∧Since w5 wr) (fun _ _ io _=>qn-(intOf io).toNat)
 case atStart=>exact⟨0,t0,s0,rfl,rfl,rfl,Nat.zero_le _,by decide,h7.out,Hk.out,.refl _⟩
 case round =>
  obtain⟨i,s,t,rfl,rfl,rfl,hi,Hh,ht,hD,hQ⟩:=hrel;have hh:=hid ht;have hg:=hid hD;have hz:=hid hQ;clear ht hD hQ;by_cases hY:i<qn
  ·by_cases h4:i<4
   ·obtain⟨b,off,y,rfl,hb,hy,hc,hC⟩:=RowIn.at (HQ.out.keep (hN.out.trans hz.out)) (Hn.out ▸ hY);obtain⟨x0,x1⟩:=y;have hu:s.size≤40000:=by have:=hh.out.1;omega
    have hD:t.size≤40000:=by have:=hg.out;unfold Tx2 at this;omega
    have hd:=hid hb;have Hb:=hid hb;have hB:=zH (wr.cell? ⟨b,off+i*2,none⟩=some (.int .i64 x0)) (hc 0 (by decide));have hA:=zH (wr.cell? ⟨b,off+i*2+1,none⟩=some (.int .i64 x1)) (hc 1 (by decide));have h6:=zH (ZO x0) hC.1;have h5:=zH (ZO x1) hC.2;clear hb hy hc hC;go_upto_region 7 with fail
    try rw[show decide ((i:Int)<4)=true from decide_eq_true (by omega)]
    refine Zb 12 rfl (by decide +kernel) (by decide +kernel) (by decide +kernel) (by decide)
     [Is (.string s),Is (.slice (some ⟨b,off,none⟩) qn qc),Is (.int .i64 i),Is (.pointer (some ⟨b,off+i*2,none⟩)),Is (.pointer (some ⟨b,off+i*2,none⟩)),Is (.int .i64 x0),Is (.slice (some ⟨b,off,none⟩) qn qc),Is (.int .i64 i),Is (.pointer (some ⟨b,off+i*2,none⟩)),Is (.pointer (some ⟨b,off+i*2+1,none⟩)),Is (.int .i64 x1),QQ (i+1)]
     (by repeat (first | exact trivial | refine⟨Is.stable _,?_⟩ | refine⟨ZV.stable _ _,?_⟩ | refine⟨IsRows.stable _ _,?_⟩ | refine⟨QQ.stable _,?_⟩)) ⟨?_,?_,?_,?_,?_,?_,?_,?_,?_,?_,?_,?_,trivial⟩ ?_
    all_goals
     intro vs w7 hs hk;try intro _
     simp only[List.take,List.drop,putAll,Act.put,Zh,Zc,Zd,Is,List.setIfInBounds_toArray,List.set_cons_zero,List.set_cons_succ,Nat.reduceAdd]at hk ⊢;try simp only[hk]
    iterate 5
     ·go_wp2
      exact⟨_,rfl,rfl,.refl _⟩
    ·have z9:w7.cell? ⟨b,off+i*2,none⟩=_:=(hs.cell (p:=⟨b,off+i*2,none⟩) hd.out).trans hB.out;have z8:=Nat.lt_of_lt_of_le hd.out hs.size;go_wp2
     exact⟨_,rfl,rfl,.refl _⟩
    iterate 4
     ·go_wp2
      exact⟨_,rfl,rfl,.refl _⟩
    ·have z9:w7.cell? ⟨b,off+i*2+1,none⟩=_:=(hs.cell (p:=⟨b,off+i*2+1,none⟩) hd.out).trans hA.out;have z8:=Nat.lt_of_lt_of_le hd.out hs.size;go_wp2
     exact⟨_,rfl,rfl,.refl _⟩
    ·go_wp2_with fail
     refine (Qc s x0 x1 w7 (by omega) h6.out h5.out).mono ?_;rintro e wN ⟨t2,rfl,ha,hF⟩;have hK:=hid (hh.out.turn ha);clear ha;go_wp2
     exact⟨_,rfl,⟨_,rfl,hK.out⟩,hF⟩
    ·obtain⟨s2,hv,ha⟩:=(show QQ (i+1) (vs 11) w7 from hk.2.2.2.2.2.2.2.2.2.2.2.1)
     simp only[hv];have Hj:=hid ha;have Hl:=hid (hz.out.trans hs);have hd:=hid (Nat.lt_of_lt_of_le hd.out hs.size);have hB:=hid ((hs.cell (p:=⟨b,off+i*2,none⟩) Hb.out).trans hB.out);have hA:=hid ((hs.cell (p:=⟨b,off+i*2+1,none⟩) Hb.out).trans hA.out);clear hk hv ha hs;go_upto_region 8 with fail
     refine Zb 12 rfl (by decide +kernel) (by decide +kernel) (by decide +kernel) (by decide)
      [Is (.string t),Is (.slice (some ⟨b,off,none⟩) qn qc),Is (.int .i64 i),Is (.pointer (some ⟨b,off+i*2,none⟩)),Is (.pointer (some ⟨b,off+i*2,none⟩)),Is (.int .i64 x0),Is (.slice (some ⟨b,off,none⟩) qn qc),Is (.int .i64 i),Is (.pointer (some ⟨b,off+i*2,none⟩)),Is (.pointer (some ⟨b,off+i*2+1,none⟩)),Is (.int .i64 x1),QR (i+1)]
      (by repeat (first | exact trivial | refine⟨Is.stable _,?_⟩ | refine⟨ZV.stable _ _,?_⟩ | refine⟨IsRows.stable _ _,?_⟩ | refine⟨QR.stable _,?_⟩)) ⟨?_,?_,?_,?_,?_,?_,?_,?_,?_,?_,?_,?_,trivial⟩ ?_
     all_goals
      intro vs w8 hs hk;try intro _
      simp only[List.take,List.drop,putAll,Act.put,Zh,Zc,Zd,Is,List.setIfInBounds_toArray,List.set_cons_zero,List.set_cons_succ,Nat.reduceAdd]at hk ⊢;try simp only[hk]
     iterate 5
      ·go_wp2
       exact⟨_,rfl,rfl,.refl _⟩
     ·have z9:w8.cell? ⟨b,off+i*2,none⟩=_:=(hs.cell (p:=⟨b,off+i*2,none⟩) hd.out).trans hB.out;have z8:=Nat.lt_of_lt_of_le hd.out hs.size;go_wp2
      exact⟨_,rfl,rfl,.refl _⟩
     iterate 4
      ·go_wp2
       exact⟨_,rfl,rfl,.refl _⟩
     ·have z9:w8.cell? ⟨b,off+i*2+1,none⟩=_:=(hs.cell (p:=⟨b,off+i*2+1,none⟩) hd.out).trans hA.out;have z8:=Nat.lt_of_lt_of_le hd.out hs.size;go_wp2
      exact⟨_,rfl,rfl,.refl _⟩
     ·go_wp2_with fail
      refine (Qc t x0 x1 w8 (by omega) h6.out h5.out).mono ?_;rintro e wN ⟨t2,rfl,ha,hF⟩;have hK:=hid (hg.out.turn ha);clear ha;go_wp2
      exact⟨_,rfl,⟨_,rfl,hK.out⟩,hF⟩
     ·obtain⟨t2,hv,ha⟩:=(show QR (i+1) (vs 11) w8 from hk.2.2.2.2.2.2.2.2.2.2.2.1)
      simp only[hv];have Hi:=hid ha;have he:=hid (Hl.out.trans hs);clear hk hv ha hs;go_wp2
      go_roundw
      case rel=>exact⟨i+1,s2,t2,rfl,rfl,by go_num,by omega,by omega,Hj.out,Hi.out,he.out⟩
      case measure=>simp[intOf];omega
   ·obtain rfl:i=4:=by omega
    clear h4 Hh hi;have hE:s.size≤300000:=by have:=hh.out.1;omega
    have hu:t.size≤300000:=by have:=hg.out;unfold Tx2 at this;omega
    have ho:=hid (hN.out.trans hz.out);clear hh hg;go_wp2_with fail
    refine (Vt s wr hE (hp.out.keep ho.out)).mono ?_;rintro e w8 ⟨rfl,hn⟩;have he:=hid (ho.out.trans hn);clear hn;go_wp2_with fail
    refine (Vt t w8 hu (hp.out.keep he.out)).mono ?_;rintro e w9 ⟨rfl,hj⟩;have hM:=hid (he.out.trans hj);clear hj;go_wp2
    go_ret
    exact⟨rfl,hM.out⟩
  ·obtain rfl:i=qn:=by omega
   clear hY;have hE:s.size≤300000:=by have:=hh.out.1;omega
   have hu:t.size≤300000:=by have:=hg.out;unfold Tx2 at this;omega
   have ho:=hid (hN.out.trans hz.out);clear hh hg;go_wp2_with fail
   refine (Vt s wr hE (hp.out.keep ho.out)).mono ?_;rintro e w8 ⟨rfl,hn⟩;have he:=hid (ho.out.trans hn);clear hn;go_wp2_with fail
   refine (Vt t w8 hu (hp.out.keep he.out)).mono ?_;rintro e w9 ⟨rfl,hj⟩;have hM:=hid (he.out.trans hj);clear hj;go_wp2
   go_ret
   exact⟨rfl,hM.out⟩
end Go.Proofs.YtmhojfpidedjeaaGreatDoor
