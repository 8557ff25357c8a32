import Derived.Test.YtimpddecdodddaaGreatSb12
namespace Go.Proofs.YtimpddecdodddaaGreat
open Go.RowKit Go.Lib
set_option linter.unusedVariables false
set_option maxHeartbeats 1000000
set_option maxRecDepth 100000
theorem zj {P:Prop} (h:P:=by
 clear ho hc;generalize getR R ea=A at *;generalize getR R eb=B at *;have hg:=hid hd;have hf:=hid ha;clear hd ha;go_enter Tryz.func68,Tryz.ntmps68
 go_wp2
 refine Zd rfl (by decide +kernel) (by decide +kernel)
  [Is (.slice (some ⟨rb,0,none⟩) R.length rc),Is (.pointer (some ⟨w.heap.size,1,none⟩)),Is (.int .i64 ea),Is (.int .i32 A),Is (.slice (some ⟨rb,0,none⟩) R.length rc),Is (.pointer (some ⟨w.heap.size,2,none⟩)),Is (.int .i64 eb),Is (.int .i32 B),Is (.int .i32 A),Is (.int .i32 B)]
  (by repeat (first | exact trivial | refine⟨Is.stable _,?_⟩ | refine⟨Zn.stable _ _,?_⟩ | refine⟨Zz.stable _ _,?_⟩)) ⟨?_,?_,?_,?_,?_,?_,?_,?_,?_,?_,trivial⟩ ?_
 all_goals
  intro vs w1 hs hk;have hi:∀ i,w1.cell? ⟨w.heap.size,i,none⟩=_:=fun i=>hs.cell (p:=⟨w.heap.size,i,none⟩) (by simp)
  have he:=zH (w.heap.size<w1.heap.size) (by have:=hs.size;simp at this;omega);have hh:=he.out;have HS:=hid (Since.trans ((Since.refl w).alloc _) hs);clear hs;simp only[putAll,Act.put,Zk,Zc,Ze,Is,List.setIfInBounds_toArray,List.set_cons_zero,List.set_cons_succ,Nat.reduceAdd,List.length_cons,List.length_nil]at hk ⊢;try simp only[hk]
 iterate 3
  ·go_wp2
   exact⟨_,rfl,rfl,.refl _⟩
 ·go_wp2_with fail
  refine (hg.out w1 (HW.out.keep HS.out)).mono ?_;rintro e w2 ⟨rfl,rfl⟩;go_wp2
  exact⟨_,rfl,rfl,.refl _⟩
 iterate 3
  ·go_wp2
   exact⟨_,rfl,rfl,.refl _⟩
 ·go_wp2_with fail
  refine (hf.out w1 (HW.out.keep HS.out)).mono ?_;rintro e w2 ⟨rfl,rfl⟩;go_wp2
  exact⟨_,rfl,rfl,.refl _⟩
 iterate 2
  ·go_wp2
   exact⟨_,rfl,rfl,.refl _⟩
 ·clear hk;go_wp2
  go_ret
  exact⟨rfl,HS.out⟩):P:=h
theorem qU {P:Prop} (h:P:=by
 go_wp2_with fail
 refine (hh.out w1 (HW.out.keep HS.out)).mono ?_;rintro e w2 ⟨rfl,rfl⟩;go_wp2
 exact⟨_,rfl,rfl,.refl _⟩):P:=h
theorem jM {P:Prop} (h:P:=by
 go_wp2
 go_ret
 exact⟨rfl,HS.out⟩):P:=h
def GoesQ (x:Nat) (w:World) (e:Ending) (w':World):Prop:=e=.returned (.int .i64 x)∧Since w w'
theorem Zev (op ea eb:Int) (to:List Int) (ta:Option Addr) (tc:Nat) (imm:Int) (R:List Int) (rb rc:Nat) (rest:List Value) (T:TypeId) (w:World) (hw:WAt w rb R rest T) (hl:R.length≤1000) (hR:∀ x∈R,In32 x) (ho:op=1) :
  Calls Tryz.prog 68 #[.agg #[.int .i64 op,.int .i64 ea,.int .i64 eb,.slice ta to.length tc,.int .i32 imm],.slice (some ⟨rb,0,none⟩) R.length rc] w (GoesQ 0 w):=by
 have hb:=fun w h=>Zv R rb rc rest T ea w h kT
 have ha:=fun w h=>Zv R rb rc rest T eb w h kT
 obtain⟨hi,hh⟩:=Zl hR ea;have HW:=hid hw;clear hw hR;have y1:(op==1)=true:=beq_iff_eq.2 kT;clear ho;generalize getR R ea=A at *;generalize getR R eb=B at *;have he:=hid hb;have hd:=hid ha;clear hb ha;go_enter Tryz.func68,Tryz.ntmps68
 go_wp2
 refine Zd rfl kK kK
  [Is (.slice (some ⟨rb,0,none⟩) R.length rc),Is (.pointer (some ⟨w.heap.size,1,none⟩)),Is (.int .i64 ea),Is (.int .i32 A),Is (.slice (some ⟨rb,0,none⟩) R.length rc),Is (.pointer (some ⟨w.heap.size,2,none⟩)),Is (.int .i64 eb),Is (.int .i32 B),Is (.int .i32 A),Is (.int .i32 B)]
  jS ⟨?_,?_,?_,?_,?_,?_,?_,?_,?_,?_,trivial⟩ ?_
 all_goals
  intro vs w1 hs hk;have hg:∀ i,w1.cell? ⟨w.heap.size,i,none⟩=_:=fun i=>hs.cell (p:=⟨w.heap.size,i,none⟩) kU
  have hc:=zH (w.heap.size<w1.heap.size) kh;have hf:=hc.out;have HS:=hid (Since.trans ((Since.refl w).alloc _) hs);clear hs;simp only[putAll,Act.put,Zk,Zc,Ze,Is,List.setIfInBounds_toArray,List.set_cons_zero,List.set_cons_succ,Nat.reduceAdd,List.length_cons,List.length_nil]at hk ⊢;try simp only[hk]
 iterate 3
  ·exact jK
 ·go_wp2_with fail
  refine (he.out w1 (HW.out.keep HS.out)).mono ?_;exact jj
 iterate 3
  ·exact jK
 ·go_wp2_with fail
  refine (hd.out w1 (HW.out.keep HS.out)).mono ?_;exact jj
 iterate 2
  ·exact jK
 ·clear hk;exact jM
theorem ZdV (op ea eb:Int) (to:List Int) (ta:Option Addr) (tc:Nat) (imm:Int) (R:List Int) (rb rc:Nat) (rest:List Value) (T:TypeId) (w:World) (hw:WAt w rb R rest T) (hl:R.length≤1000) (hR:∀ x∈R,In32 x) (ho:op=2) (hc:getR R ea=0) :
  Calls Tryz.prog 68 #[.agg #[.int .i64 op,.int .i64 ea,.int .i64 eb,.slice ta to.length tc,.int .i32 imm],.slice (some ⟨rb,0,none⟩) R.length rc] w (GoesQ 1 w):=by
 have hd:=fun w h=>Zv R rb rc rest T ea w h kT
 have ha:=fun w h=>Zv R rb rc rest T eb w h kT
 obtain⟨hm,hj⟩:=Zl hR ea;have HW:=hid hw;clear hw hR;have n1:=zN op 1;have y2:(op==2)=true:=beq_iff_eq.2 kT;have hb:(getR R ea != 0)=false:=by simp[hc]
 exact zj
theorem ZdW (op ea eb:Int) (to:List Int) (ta:Option Addr) (tc:Nat) (imm:Int) (R:List Int) (rb rc:Nat) (rest:List Value) (T:TypeId) (w:World) (hw:WAt w rb R rest T) (hl:R.length≤1000) (hR:∀ x∈R,In32 x) (ho:op=2) (hc:¬ (getR R ea=0)) :
  Calls Tryz.prog 68 #[.agg #[.int .i64 op,.int .i64 ea,.int .i64 eb,.slice ta to.length tc,.int .i32 imm],.slice (some ⟨rb,0,none⟩) R.length rc] w (GoesQ 0 w):=by
 have hd:=fun w h=>Zv R rb rc rest T ea w h kT
 have ha:=fun w h=>Zv R rb rc rest T eb w h kT
 obtain⟨hm,hj⟩:=Zl hR ea;have HW:=hid hw;clear hw hR;have n1:=zN op 1;have y2:(op==2)=true:=beq_iff_eq.2 kT;have hb:(getR R ea != 0)=true:=by simp[hc]
 exact zj
theorem ZdT (op ea eb:Int) (to:List Int) (ta:Option Addr) (tc:Nat) (imm:Int) (R:List Int) (rb rc:Nat) (rest:List Value) (T:TypeId) (w:World) (hw:WAt w rb R rest T) (hl:R.length≤1000) (hR:∀ x∈R,In32 x) (ho:op=3) (hc:getR R ea=getR R eb) :
  Calls Tryz.prog 68 #[.agg #[.int .i64 op,.int .i64 ea,.int .i64 eb,.slice ta to.length tc,.int .i32 imm],.slice (some ⟨rb,0,none⟩) R.length rc] w (GoesQ 0 w):=by
 have hd:=fun w h=>Zv R rb rc rest T ea w h kT
 have ha:=fun w h=>Zv R rb rc rest T eb w h kT
 obtain⟨hm,hj⟩:=Zl hR ea;have HW:=hid hw;clear hw hR;have n1:=zN op 1;have n2:=zN op 2;have y3:(op==3)=true:=beq_iff_eq.2 kT;have hb:(getR R ea==getR R eb)=true:=by simp[hc]
 exact zj
theorem ZdU (op ea eb:Int) (to:List Int) (ta:Option Addr) (tc:Nat) (imm:Int) (R:List Int) (rb rc:Nat) (rest:List Value) (T:TypeId) (w:World) (hw:WAt w rb R rest T) (hl:R.length≤1000) (hR:∀ x∈R,In32 x) (ho:op=3) (hc:¬ (getR R ea=getR R eb)) :
  Calls Tryz.prog 68 #[.agg #[.int .i64 op,.int .i64 ea,.int .i64 eb,.slice ta to.length tc,.int .i32 imm],.slice (some ⟨rb,0,none⟩) R.length rc] w (GoesQ 1 w):=by
 have hd:=fun w h=>Zv R rb rc rest T ea w h kT
 have ha:=fun w h=>Zv R rb rc rest T eb w h kT
 obtain⟨hm,hj⟩:=Zl hR ea;have HW:=hid hw;clear hw hR;have n1:=zN op 1;have n2:=zN op 2;have y3:(op==3)=true:=beq_iff_eq.2 kT;have hb:(getR R ea==getR R eb)=false:=by simp[hc]
 exact zj
theorem ZdR (op ea eb:Int) (to:List Int) (ta:Option Addr) (tc:Nat) (imm:Int) (R:List Int) (rb rc:Nat) (rest:List Value) (T:TypeId) (w:World) (hw:WAt w rb R rest T) (hl:R.length≤1000) (hR:∀ x∈R,In32 x) (ho:op=4) (hc:getR R ea<getR R eb) :
  Calls Tryz.prog 68 #[.agg #[.int .i64 op,.int .i64 ea,.int .i64 eb,.slice ta to.length tc,.int .i32 imm],.slice (some ⟨rb,0,none⟩) R.length rc] w (GoesQ 0 w):=by
 have hd:=fun w h=>Zv R rb rc rest T ea w h kT
 have ha:=fun w h=>Zv R rb rc rest T eb w h kT
 obtain⟨hm,hj⟩:=Zl hR ea;have HW:=hid hw;clear hw hR;have n1:=zN op 1;have n2:=zN op 2;have n3:=zN op 3;have y4:(op==4)=true:=beq_iff_eq.2 kT;have hb:decide (getR R ea<getR R eb)=true:=by simp[hc]
 exact zj
theorem ZdS (op ea eb:Int) (to:List Int) (ta:Option Addr) (tc:Nat) (imm:Int) (R:List Int) (rb rc:Nat) (rest:List Value) (T:TypeId) (w:World) (hw:WAt w rb R rest T) (hl:R.length≤1000) (hR:∀ x∈R,In32 x) (ho:op=4) (hc:¬ (getR R ea<getR R eb)) :
  Calls Tryz.prog 68 #[.agg #[.int .i64 op,.int .i64 ea,.int .i64 eb,.slice ta to.length tc,.int .i32 imm],.slice (some ⟨rb,0,none⟩) R.length rc] w (GoesQ 1 w):=by
 have hd:=fun w h=>Zv R rb rc rest T ea w h kT
 have ha:=fun w h=>Zv R rb rc rest T eb w h kT
 obtain⟨hm,hj⟩:=Zl hR ea;have HW:=hid hw;clear hw hR;have n1:=zN op 1;have n2:=zN op 2;have n3:=zN op 3;have y4:(op==4)=true:=beq_iff_eq.2 kT;have hb:decide (getR R ea<getR R eb)=false:=by simp[hc]
 exact zj
theorem ZdP (op ea eb:Int) (to:List Int) (ta:Option Addr) (tc:Nat) (imm:Int) (R:List Int) (rb rc:Nat) (rest:List Value) (T:TypeId) (w:World) (hw:WAt w rb R rest T) (hl:R.length≤1000) (hR:∀ x∈R,In32 x) (ho:op=5) (hc:getR R ea % 4294967296<getR R eb % 4294967296) :
  Calls Tryz.prog 68 #[.agg #[.int .i64 op,.int .i64 ea,.int .i64 eb,.slice ta to.length tc,.int .i32 imm],.slice (some ⟨rb,0,none⟩) R.length rc] w (GoesQ 0 w):=by
 have hd:=fun w h=>Zv R rb rc rest T ea w h kT
 have ha:=fun w h=>Zv R rb rc rest T eb w h kT
 obtain⟨hm,hj⟩:=Zl hR ea;have HW:=hid hw;clear hw hR;have n1:=zN op 1;have n2:=zN op 2;have n3:=zN op 3;have n4:=zN op 4;have y5:(op==5)=true:=beq_iff_eq.2 kT;have hb:decide (getR R ea % 4294967296<getR R eb % 4294967296)=true:=by simp[hc]
 exact zj
theorem ZdQ (op ea eb:Int) (to:List Int) (ta:Option Addr) (tc:Nat) (imm:Int) (R:List Int) (rb rc:Nat) (rest:List Value) (T:TypeId) (w:World) (hw:WAt w rb R rest T) (hl:R.length≤1000) (hR:∀ x∈R,In32 x) (ho:op=5) (hc:¬ (getR R ea % 4294967296<getR R eb % 4294967296)) :
  Calls Tryz.prog 68 #[.agg #[.int .i64 op,.int .i64 ea,.int .i64 eb,.slice ta to.length tc,.int .i32 imm],.slice (some ⟨rb,0,none⟩) R.length rc] w (GoesQ 1 w):=by
 have hd:=fun w h=>Zv R rb rc rest T ea w h kT
 have ha:=fun w h=>Zv R rb rc rest T eb w h kT
 obtain⟨hm,hj⟩:=Zl hR ea;have HW:=hid hw;clear hw hR;have n1:=zN op 1;have n2:=zN op 2;have n3:=zN op 3;have n4:=zN op 4;have y5:(op==5)=true:=beq_iff_eq.2 kT;have hb:decide (getR R ea % 4294967296<getR R eb % 4294967296)=false:=by simp[hc]
 exact zj
theorem ZdN (op ea eb:Int) (to:List Int) (ta:Option Addr) (tc:Nat) (imm:Int) (R:List Int) (rb rc:Nat) (rest:List Value) (T:TypeId) (w:World) (hw:WAt w rb R rest T) (hl:R.length≤1000) (hR:∀ x∈R,In32 x) (ho:op=6) (hm:2≤to.length) (hp:to.length≤65) (hf:0≤getR R ea) (hc:getR R ea<(to.length:Int)-1) :
  Calls Tryz.prog 68 #[.agg #[.int .i64 op,.int .i64 ea,.int .i64 eb,.slice ta to.length tc,.int .i32 imm],.slice (some ⟨rb,0,none⟩) R.length rc] w (GoesQ (getR R ea).toNat w):=by
 have hd:=fun w h=>Zv R rb rc rest T ea w h kT
 have ha:=fun w h=>Zv R rb rc rest T eb w h kT
 obtain⟨ht,hr⟩:=Zl hR ea;have HW:=hid hw;clear hw hR;have n1:=zN op 1;have n2:=zN op 2;have n3:=zN op 3;have n4:=zN op 4;have n5:=zN op 5;have y6:(op==6)=true:=beq_iff_eq.2 kT;have hb:decide (getR R ea<(to.length:Int)-1)=true:=decide_eq_true hc;have he:((getR R ea).toNat:Int)=getR R ea:=Int.toNat_of_nonneg hf;have hj:=hid he;clear ho he;generalize getR R ea=A at *;generalize getR R eb=B at *;have hi:=hid hd;have hh:=hid ha;clear hd ha;go_enter Tryz.func68,Tryz.ntmps68
 go_wp2
 refine Zd rfl kK kK
  [Is (.slice (some ⟨rb,0,none⟩) R.length rc),Is (.pointer (some ⟨w.heap.size,1,none⟩)),Is (.int .i64 ea),Is (.int .i32 A),Is (.slice (some ⟨rb,0,none⟩) R.length rc),Is (.pointer (some ⟨w.heap.size,2,none⟩)),Is (.int .i64 eb),Is (.int .i32 B),Is (.int .i32 A),Is (.int .i32 B)]
  jS ⟨?_,?_,?_,?_,?_,?_,?_,?_,?_,?_,trivial⟩ ?_
 all_goals
  intro vs w1 hs hk;have hq:∀ i,w1.cell? ⟨w.heap.size,i,none⟩=_:=fun i=>hs.cell (p:=⟨w.heap.size,i,none⟩) kU
  have hg:=zH (w.heap.size<w1.heap.size) kh;have hn:=hg.out;have HS:=hid (Since.trans ((Since.refl w).alloc _) hs);clear hs;simp only[putAll,Act.put,Zk,Zc,Ze,Is,List.setIfInBounds_toArray,List.set_cons_zero,List.set_cons_succ,Nat.reduceAdd,List.length_cons,List.length_nil]at hk ⊢;try simp only[hk]
 iterate 3
  ·exact jK
 ·go_wp2_with fail
  refine (hi.out w1 (HW.out.keep HS.out)).mono ?_;exact jj
 iterate 3
  ·exact jK
 ·exact qU
 iterate 2
  ·exact jK
 ·clear hk;go_wp2
  go_ret
  exact⟨by rw[hj.out];rfl,HS.out⟩
theorem ZdO (op ea eb:Int) (to:List Int) (ta:Option Addr) (tc:Nat) (imm:Int) (R:List Int) (rb rc:Nat) (rest:List Value) (T:TypeId) (w:World) (hw:WAt w rb R rest T) (hl:R.length≤1000) (hR:∀ x∈R,In32 x) (ho:op=6) (hj:2≤to.length) (hq:to.length≤65) (hc:¬ (getR R ea % 4294967296<(to.length:Int)-1)) :
  Calls Tryz.prog 68 #[.agg #[.int .i64 op,.int .i64 ea,.int .i64 eb,.slice ta to.length tc,.int .i32 imm],.slice (some ⟨rb,0,none⟩) R.length rc] w (GoesQ (to.length-1) w):=by
 have hd:=fun w h=>Zv R rb rc rest T ea w h kT
 have ha:=fun w h=>Zv R rb rc rest T eb w h kT
 obtain⟨hu,ht⟩:=Zl hR ea;have HW:=hid hw;clear hw hR;have n1:=zN op 1;have n2:=zN op 2;have n3:=zN op 3;have n4:=zN op 4;have n5:=zN op 5;have y6:(op==6)=true:=beq_iff_eq.2 kT;have hp:0≤getR R ea % 4294967296:=Int.emod_nonneg _ kS;have hn:getR R ea % 4294967296<4294967296:=Int.emod_lt_of_pos _ kS;have hb:decide (getR R ea % 4294967296<(to.length:Int)-1)=false:=decide_eq_false hc;have he:((to.length-1:Nat):Int)=(to.length:Int)-1:=kT
 have hi:=hid he;clear ho he;generalize getR R ea=A at *;generalize getR R eb=B at *;have hh:=hid hd;have hg:=hid ha;clear hd ha;go_enter Tryz.func68,Tryz.ntmps68
 go_wp2
 refine Zd rfl kK kK
  [Is (.slice (some ⟨rb,0,none⟩) R.length rc),Is (.pointer (some ⟨w.heap.size,1,none⟩)),Is (.int .i64 ea),Is (.int .i32 A),Is (.slice (some ⟨rb,0,none⟩) R.length rc),Is (.pointer (some ⟨w.heap.size,2,none⟩)),Is (.int .i64 eb),Is (.int .i32 B),Is (.int .i32 A),Is (.int .i32 B)]
  jS ⟨?_,?_,?_,?_,?_,?_,?_,?_,?_,?_,trivial⟩ ?_
 all_goals
  intro vs w1 hs hk;have hr:∀ i,w1.cell? ⟨w.heap.size,i,none⟩=_:=fun i=>hs.cell (p:=⟨w.heap.size,i,none⟩) kU
  have hf:=zH (w.heap.size<w1.heap.size) kh;have hm:=hf.out;have HS:=hid (Since.trans ((Since.refl w).alloc _) hs);clear hs;simp only[putAll,Act.put,Zk,Zc,Ze,Is,List.setIfInBounds_toArray,List.set_cons_zero,List.set_cons_succ,Nat.reduceAdd,List.length_cons,List.length_nil]at hk ⊢;try simp only[hk]
 iterate 3
  ·exact jK
 ·exact qU
 iterate 3
  ·exact jK
 ·go_wp2_with fail
  refine (hg.out w1 (HW.out.keep HS.out)).mono ?_;exact jj
 iterate 2
  ·exact jK
 ·clear hk;go_wp2
  go_ret
  exact⟨by rw[hi.out];rfl,HS.out⟩
theorem ZdM (e:Yb) (R:List Int) (h:XC e=true) (h7:1≤e.op) (h8:e.op≤6):goes e R<e.to.length:=by
 unfold XC at h;unfold goes;dsimp only;by_cases c1:e.op=1
 ·rw[if_pos c1]at h ⊢;simp at h;omega
 rw[if_neg c1]at h ⊢;by_cases c2:2≤e.op∧e.op≤5
 ·rw[if_pos c2]at h;have hl:e.to.length=2:=by simpa using h
  rw[hl];by_cases k2:e.op=2
  ·rw[if_pos k2];split<;>omega
  rw[if_neg k2];by_cases k3:e.op=3
  ·rw[if_pos k3];split<;>omega
  rw[if_neg k3];by_cases k4:e.op=4
  ·rw[if_pos k4];split<;>omega
  rw[if_neg k4];by_cases k5:e.op=5
  ·rw[if_pos k5];split<;>omega
  ·omega
 rw[if_neg c2]at h;rw[if_pos (show e.op=6 by omega)]at h;have hl:2≤e.to.length∧e.to.length≤65:=by simpa using h
 rw[if_neg kT,if_neg kT,if_neg kT,if_neg kT];have:=Int.emod_nonneg (getR R e.a) (show (4294967296:Int)≠0 by decide)
 split<;>omega
theorem ZcX (e:Yb) (R:List Int) (rb rc:Nat) (rest:List Value) (T:TypeId) (w:World) (hw:WAt w rb R rest T) (hl:R.length≤1000) (hR:∀ x∈R,In32 x) (ht:Zi w e.tov e.to) (h:XC e=true) (h7:1≤e.op) (h8:e.op≤6) :
  Calls Tryz.prog 68 #[ev e,.slice (some ⟨rb,0,none⟩) R.length rc] w (GoesQ (goes e R) w):=by
 obtain⟨op,ea,eb,to,tov,imm⟩:=e;obtain⟨ta,tc,hb⟩:=Zb ht;dsimp only at hb h7 h8;subst hb;unfold ev;unfold goes;dsimp only;by_cases c1:op=1
 ·rw[if_pos c1];exact Zev op ea eb to ta tc imm R rb rc rest T w hw hl hR c1
 rw[if_neg c1];by_cases c2:op=2
 ·rw[if_pos c2];by_cases c:getR R ea=0
  ·rw[if_pos c];exact ZdV op ea eb to ta tc imm R rb rc rest T w hw hl hR c2 c
  ·rw[if_neg c];exact ZdW op ea eb to ta tc imm R rb rc rest T w hw hl hR c2 c
 rw[if_neg c2];by_cases c3:op=3
 ·rw[if_pos c3];by_cases c:getR R ea=getR R eb
  ·rw[if_pos c];exact ZdT op ea eb to ta tc imm R rb rc rest T w hw hl hR c3 c
  ·rw[if_neg c];exact ZdU op ea eb to ta tc imm R rb rc rest T w hw hl hR c3 c
 rw[if_neg c3];by_cases c4:op=4
 ·rw[if_pos c4];by_cases c:getR R ea<getR R eb
  ·rw[if_pos c];exact ZdR op ea eb to ta tc imm R rb rc rest T w hw hl hR c4 c
  ·rw[if_neg c];exact ZdS op ea eb to ta tc imm R rb rc rest T w hw hl hR c4 c
 rw[if_neg c4];by_cases c5:op=5
 ·rw[if_pos c5];by_cases c:getR R ea % 4294967296<getR R eb % 4294967296
  ·rw[if_pos c];exact ZdP op ea eb to ta tc imm R rb rc rest T w hw hl hR c5 c
  ·rw[if_neg c];exact ZdQ op ea eb to ta tc imm R rb rc rest T w hw hl hR c5 c
 rw[if_neg c5];have c6:op=6:=kT
 have ha:2≤to.length∧to.length≤65:=by
  unfold XC at h;dsimp only at h;rw[if_neg c1,if_neg kT,if_pos c6]at h;simpa using h
 by_cases c:getR R ea % 4294967296<(to.length:Int)-1
 ·rw[if_pos c];have hx:=Zl hR ea;unfold In32 at hx;have h0:0≤getR R ea:=kT
  have e:getR R ea % 4294967296=getR R ea:=kT
  rw[e]at c ⊢;exact ZdN op ea eb to ta tc imm R rb rc rest T w hw hl hR c6 ha.1 ha.2 h0 c
 ·rw[if_neg c];exact ZdO op ea eb to ta tc imm R rb rc rest T w hw hl hR c6 ha.1 ha.2 c
end Go.Proofs.YtimpddecdodddaaGreat
