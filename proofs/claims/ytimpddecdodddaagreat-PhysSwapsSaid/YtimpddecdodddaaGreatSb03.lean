import Derived.Test.YtimpddecdodddaaGreatSb02
namespace Go.Proofs.YtimpddecdodddaaGreat
open Go.RowKit Go.Lib
set_option linter.unusedVariables false
set_option maxHeartbeats 1000000
set_option maxRecDepth 100000
theorem zs {P:Prop} (h:P:=by
 obtain⟨t,rfl,⟨rfl,rfl⟩|⟨rfl,hj⟩⟩:=hrel
 ·go_wp2_with fail
  refine hI.out.mono ?_;rintro e6 w6 ⟨rfl,hn⟩;have hG:=hid hn;clear hn;go_wp2
  go_roundw
  case rel=>exact⟨1,rfl,.inr ⟨rfl,hG.out⟩⟩
  case measure=>simp[intOf]
 ·have hh:=hid hj;clear hj hE;go_wp2
  go_ret2
  exact⟨rfl,by rw[hh.out];exact YO (HW.out.keep hb.out) _ _,by rw[hh.out];exact (HM.out.keep hb.out).turn (ZJ (S:=fun k=>k=rb) rfl _ _ _) (fun q hq e=>hz.out.2 (by rw[hq,e])),by rw[hh.out];exact (Turn.since hb.out).trans (ZJ (S:=fun k=>k=rb∨_) (.inl rfl) _ _ _)⟩):P:=h
theorem zv {P:Prop} (h:P:=by
 have hd:=@run_makeMap Tryz.prog;have hc:=@Zw Tryz.prog _ _ _ Tryz.underlying227 Tryz.underlying3;have he:=@ZS Tryz.prog _ _ _ Tryz.underlying227 Tryz.underlying3;have hf:=Xf;go_enter Tryz.func171,Tryz.ntmps171
 go_wp2
 all_goals go_ret2
 iterate 2
  ·exact YP (by simp_all [doI]) rfl (((((Below.refl _ _).alloc (Nat.le_refl _) _).alloc (by simp) _).alloc (by simp;omega) _).alloc (by simp;omega) _)):P:=h
theorem zx {P:Prop} (h:P:=by
 have hd:=@run_makeMap Tryz.prog;have hc:=@Zw Tryz.prog _ _ _ Tryz.underlying227 Tryz.underlying3;have he:=@ZS Tryz.prog _ _ _ Tryz.underlying227 Tryz.underlying3;have hf:=Xf;go_enter Tryz.func171,Tryz.ntmps171
 go_wp2
 all_goals go_ret2
 all_goals exact YP (by simp[doI]) rfl (((((Below.refl _ _).alloc (Nat.le_refl _) _).alloc (by simp) _).alloc (by simp;omega) _).alloc (by simp;omega) _)):P:=h
theorem qS {P:Prop} (h:P:=by
 go_wp2_with fail
 refine (hD.out _ w1 (HW.out.keep HS.out)).mono ?_;rintro e w2 ⟨rfl,rfl⟩;go_wp2
 exact⟨_,rfl,rfl,.refl _⟩):P:=h
theorem jN {P:Prop} (h:P:=by exact⟨by omega,by omega⟩):P:=h
theorem kh {P:Prop} (h:P:=by have:=hs.size;simp at this;omega):P:=h
theorem kM {P:Prop} (h:P:=by simp<;>omega):P:=h
attribute [local simp] Qu Ku ZcQ ZbZ
theorem Xf (f:Fn) (x y:Array Value) (w:World):(binOp .eql 112 (.func f x y) .nilFunc).run Tryz.prog w=.ok (.bool false) w:=by kernel_rfl
theorem ZdD (w:World):(binOp .eql 112 .nilFunc .nilFunc).run Tryz.prog w=.ok (.bool true) w:=by kernel_rfl
theorem Zdr (w:World):(zeroValue 112).run Tryz.prog w=.ok .nilFunc w:=by kernel_rfl
def YZ (r:Option Int) (w:World) (e:Ending) (w':World):Prop:=
 e=.returned (.tuple #[.int .i32 (r.getD 0),.bool r.isSome])∧Below w.heap.size w w'
theorem YP {r : Option Int} {w w':World} {x : Int} {y : Bool} (hx:x=r.getD 0) (hy:y=r.isSome) (hb:Below w.heap.size w w') :
  YZ r w (.returned (.tuple #[.int .i32 x,.bool y])) w':=by subst hx;subst hy;exact⟨rfl,hb⟩
theorem Zfz (a b:Int) (w:World) (ha : -2147483648≤a) (hh:a≤2147483647) (hb : -2147483648≤b) (hg:b≤2147483647) :
  Calls Tryz.prog 171 #[.int .i64 2,.int .i32 a,.int .i32 b] w (YZ (doI 2 a b) w):=by
 exact zx
theorem Zfy (a b:Int) (w:World) (ha : -2147483648≤a) (hh:a≤2147483647) (hb : -2147483648≤b) (hg:b≤2147483647) :
  Calls Tryz.prog 171 #[.int .i64 3,.int .i32 a,.int .i32 b] w (YZ (doI 3 a b) w):=by
 exact zx
theorem Zfx (a b:Int) (w:World) (ha : -2147483648≤a) (hh:a≤2147483647) (hb : -2147483648≤b) (hg:b≤2147483647) :
  Calls Tryz.prog 171 #[.int .i64 4,.int .i32 a,.int .i32 b] w (YZ (doI 4 a b) w):=by
 exact zx
theorem Zfw (a b:Int) (w:World) (ha : -2147483648≤a) (hh:a≤2147483647) (hb : -2147483648≤b) (hg:b≤2147483647) :
  Calls Tryz.prog 171 #[.int .i64 5,.int .i32 a,.int .i32 b] w (YZ (doI 5 a b) w):=by
 exact zx
theorem Zfv (a b:Int) (w:World) (ha : -2147483648≤a) (hh:a≤2147483647) (hb : -2147483648≤b) (hg:b≤2147483647) :
  Calls Tryz.prog 171 #[.int .i64 6,.int .i32 a,.int .i32 b] w (YZ (doI 6 a b) w):=by
 exact zx
theorem Zfu (a b:Int) (w:World) (ha : -2147483648≤a) (hh:a≤2147483647) (hb : -2147483648≤b) (hg:b≤2147483647) :
  Calls Tryz.prog 171 #[.int .i64 7,.int .i32 a,.int .i32 b] w (YZ (doI 7 a b) w):=by
 exact zx
theorem Zft (a b:Int) (w:World) (ha : -2147483648≤a) (hh:a≤2147483647) (hb : -2147483648≤b) (hg:b≤2147483647) :
  Calls Tryz.prog 171 #[.int .i64 8,.int .i32 a,.int .i32 b] w (YZ (doI 8 a b) w):=by
 exact zx
theorem Zfs (a b:Int) (w:World) (ha : -2147483648≤a) (hh:a≤2147483647) (hb : -2147483648≤b) (hg:b≤2147483647) :
  Calls Tryz.prog 171 #[.int .i64 9,.int .i32 a,.int .i32 b] w (YZ (doI 9 a b) w):=by
 exact zx
theorem Zfe (a b:Int) (w:World) (ha : -2147483648≤a) (hh:a≤2147483647) (hb : -2147483648≤b) (hg:b≤2147483647) :
  Calls Tryz.prog 171 #[.int .i64 10,.int .i32 a,.int .i32 b] w (YZ (doI 10 a b) w):=by
 exact zx
theorem Zfd (a b:Int) (w:World) (ha : -2147483648≤a) (hh:a≤2147483647) (hb : -2147483648≤b) (hg:b≤2147483647) :
  Calls Tryz.prog 171 #[.int .i64 11,.int .i32 a,.int .i32 b] w (YZ (doI 11 a b) w):=by
 exact zv
theorem Zfc (a b:Int) (w:World) (ha : -2147483648≤a) (hh:a≤2147483647) (hb : -2147483648≤b) (hg:b≤2147483647) :
  Calls Tryz.prog 171 #[.int .i64 12,.int .i32 a,.int .i32 b] w (YZ (doI 12 a b) w):=by
 exact zv
theorem Zfb (a b:Int) (w:World) (ha : -2147483648≤a) (hh:a≤2147483647) (hb : -2147483648≤b) (hg:b≤2147483647) :
  Calls Tryz.prog 171 #[.int .i64 13,.int .i32 a,.int .i32 b] w (YZ (doI 13 a b) w):=by
 exact zv
theorem Zfa (a b:Int) (w:World) (ha : -2147483648≤a) (hi:a≤2147483647) (hb : -2147483648≤b) (hh:b≤2147483647) (hz:(b==0)=false) (hc:b≠0) :
  Calls Tryz.prog 171 #[.int .i64 14,.int .i32 a,.int .i32 b] w (YZ (doI 14 a b) w):=by
 have he:=@run_makeMap Tryz.prog;have hd:=@Zw Tryz.prog _ _ _ Tryz.underlying227 Tryz.underlying3;have hf:=@ZS Tryz.prog _ _ _ Tryz.underlying227 Tryz.underlying3;have hg:=Xf;go_enter Tryz.func171,Tryz.ntmps171
 go_wp2
 all_goals go_ret2
 all_goals exact YP (by simp[doI,hc]) (by simp[doI,hc]) (((((Below.refl _ _).alloc (Nat.le_refl _) _).alloc kU _).alloc kN _).alloc kN _)
theorem Zey (a:Int) (w:World) (ha : -2147483648≤a) (hf:a≤2147483647) :
  Calls Tryz.prog 171 #[.int .i64 14,.int .i32 a,.int .i32 0] w (YZ (doI 14 a 0) w):=by
 have hc:=@run_makeMap Tryz.prog;have hb:=@Zw Tryz.prog _ _ _ Tryz.underlying227 Tryz.underlying3;have hd:=@ZS Tryz.prog _ _ _ Tryz.underlying227 Tryz.underlying3;have he:=Xf;go_enter Tryz.func171,Tryz.ntmps171
 go_wp2
 all_goals go_ret2
 all_goals exact YP (by simp[doI]) rfl (((((Below.refl _ _).alloc (Nat.le_refl _) _).alloc kU _).alloc kN _).alloc kN _)
theorem Zd0 (op a b:Int) (w:World) (ha : -2147483648≤a) (hi:a≤2147483647) (hb : -2147483648≤b) (hh:b≤2147483647) (hd:doI op a b=none)
  (h2:(op==2)=false) (h3:(op==3)=false) (h4:(op==4)=false) (h5:(op==5)=false) (h6:(op==6)=false) (h7:(op==7)=false) (h8:(op==8)=false) (h9:(op==9)=false) (hn:(op==10)=false) (hm:(op==11)=false) (hl:(op==12)=false) (hk:(op==13)=false) (hj:(op==14)=false) :
  Calls Tryz.prog 171 #[.int .i64 op,.int .i32 a,.int .i32 b] w (YZ (doI op a b) w):=by
 rw[hd];clear hd;have he:=@run_makeMap Tryz.prog;have hc:=@Zw Tryz.prog _ _ _ Tryz.underlying227 Tryz.underlying3;have hf:=@Kd Tryz.prog _ _ _ Tryz.underlying227 Tryz.underlying3 _ Zdr;have hg:=ZdD;go_enter Tryz.func171,Tryz.ntmps171
 go_wp2
 all_goals go_ret2
 all_goals exact YP (by rfl) rfl (((((Below.refl _ _).alloc (Nat.le_refl _) _).alloc kU _).alloc kN _).alloc kN _)
theorem W8 (op a b:Int) (w:World) (ha : -2147483648≤a) (hc:a≤2147483647) (hb : -2147483648≤b) (hd:b≤2147483647) :
  Calls Tryz.prog 171 #[.int .i64 op,.int .i32 a,.int .i32 b] w (YZ (doI op a b) w):=by
 by_cases h2:op=2
 ·subst h2;exact Zfz a b w ha hc hb hd
 by_cases h3:op=3
 ·subst h3;exact Zfy a b w ha hc hb hd
 by_cases h4:op=4
 ·subst h4;exact Zfx a b w ha hc hb hd
 by_cases h5:op=5
 ·subst h5;exact Zfw a b w ha hc hb hd
 by_cases h6:op=6
 ·subst h6;exact Zfv a b w ha hc hb hd
 by_cases h7:op=7
 ·subst h7;exact Zfu a b w ha hc hb hd
 by_cases h8:op=8
 ·subst h8;exact Zft a b w ha hc hb hd
 by_cases h9:op=9
 ·subst h9;exact Zfs a b w ha hc hb hd
 by_cases hi:op=10
 ·subst hi;exact Zfe a b w ha hc hb hd
 by_cases hh:op=11
 ·subst hh;exact Zfd a b w ha hc hb hd
 by_cases hg:op=12
 ·subst hg;exact Zfc a b w ha hc hb hd
 by_cases hf:op=13
 ·subst hf;exact Zfb a b w ha hc hb hd
 by_cases he:op=14
 ·subst he;by_cases hz:b=0
  ·subst hz;exact Zey a w ha hc
  ·exact Zfa a b w ha hc hb hd (by simpa using hz) hz
 exact Zd0 op a b w ha hc hb hd (by simp[doI,h2,h3,h4,h5,h6,h7,h8,h9,hi,hh,hg,hf,he]) kF kG (by simpa using h4) (by simpa using h5) (by simpa using h6) (by simpa using h7) (by simpa using h8) (by simpa using h9) kH (by simpa using hh) kB kC kD
def In32 (x:Int):Prop:=-2147483648≤x∧x≤2147483647
theorem Z5 (x:Int):In32 (wrap32 x):=by unfold In32 wrap32;omega
theorem Zl {R : List Int} (h:∀ x∈R,In32 x) (r:Int):In32 (getR R r):=by
 unfold getR;split
 ·rw[List.getD_eq_getElem?_getD]
  cases hx:R[r.toNat]? with
  | none=>exact⟨by simp,by simp⟩
  | some x=>exact h x (List.mem_of_getElem? hx)
 ·exact jN
def YN (trap:Option Int) (R' M':List Int) (rb:Nat) (rest:List Value) (T:TypeId) (mv:Value) (w:World) (e:Ending) (w':World):Prop:=
 e=.returned (.tuple #[.int .i32 (trap.getD 0),.bool trap.isNone])∧WAt w' rb R' rest T∧MemIs w' mv M'∧Turn (fun k=>k=rb∨mv.ownBlock=some k) w w'
theorem ZW (w:World) (o:Obj) (v:Value) (t:TypeId):((w.alloc o).alloc (.cells #[v] t)).cell? ⟨w.heap.size+1,0,none⟩=some v:=by
 have:=ZV (w.alloc o) (.cells #[v] t);rw[show (w.alloc o).heap.size=w.heap.size+1 from by simp]at this;unfold World.cell?;rw[this];rfl
def VB (M:List Int) (mv:Value) (at' v:Int) (w:World) (e:Ending) (w':World):Prop:=e=.returned (.bool (decide (0≤at')&&decide (at' < (M.length:Int))))∧MemIs w' mv (if 0≤at'∧at' < (M.length:Int) then M.set at'.toNat v else M)∧Turn (fun k=>mv.ownBlock=some k) w w'
theorem Vf (M:List Int) (mv:Value) (at' v:Int) (w:World) (h:MemIs w mv M) (h1 : -2147483648≤at') (h2:at'≤2147483647) :
  Calls Tryz.prog 173 #[mv,.int .i32 at',.int .i32 v] w (VB M mv at' v w):=by
 unfold VB;have hd:=fun w h=>WZ M mv at' w h h1 h2
 obtain⟨a,cap,rfl,hl⟩:=h.shape;unfold VW at hd;have HL:=hid hd;have H:=hid h;clear hd h;by_cases ha:0≤at'∧at' < (M.length:Int)
 ·rw[if_pos ha,decide_eq_true ha.1,decide_eq_true ha.2]at HL;rw[if_pos ha,decide_eq_true ha.1,decide_eq_true ha.2];obtain⟨i,rfl⟩:=Int.eq_ofNat_of_zero_le ha.1;have hi:i<M.length:=kT
  obtain⟨b,rest,T,rfl,hw⟩:=H.out.at hi;have hc:=hw.cell hi;have hg:=hw.frozen i;have he:=MemIs.set (cap:=cap) hw hl hi v;rw[Int.toNat_natCast]at HL;rw[Int.toNat_natCast];have hf:=hid he;clear he hw ha;generalize M.getD i 0=x at *;generalize M.set i v=M' at *;go_enter Tryz.func173,Tryz.ntmps173
  go_wp2_with fail
  refine (HL.out _ H.out).mono ?_;rintro e w1 ⟨rfl,rfl⟩;go_wp2
  go_ret
  exact⟨rfl,hf.out,Turn.setCell (S:=fun k=>(Value.slice (some ⟨b,0,none⟩) M.length cap).ownBlock=some k) (p:=⟨b,i,none⟩) (Turn.refl _ _) rfl _⟩
 ·have hb:(decide (0≤at')&&decide (at' < (M.length:Int)))=false:=by
   rw[Bool.and_eq_false_iff];by_cases h0:0≤at'
   ·right;exact decide_eq_false kT
   ·left;exact decide_eq_false h0
  rw[if_neg ha,hb]at HL;rw[if_neg ha,hb];clear ha hb;go_enter Tryz.func173,Tryz.ntmps173
  go_wp2_with fail
  refine (HL.out _ H.out).mono ?_;rintro e w1 ⟨rfl,rfl⟩;go_wp2
  go_ret
  exact⟨rfl,H.out,Turn.refl _ _⟩
theorem Zfg (m:Mach) (av mv0:Value) (R M:List Int) (rb rc:Nat) (rest:List Value) (T:TypeId) (w:World) (h:Zi w av m.args) (hf:Yw m) (hw:WAt w rb R rest T) (hR:∀ x∈R,In32 x) (hl:R.length≤1000) (hm:MemIs w mv0 M)
  (hd:(∀ q,av.ownBlock=some q→q≠rb∧mv0.ownBlock≠some q)∧mv0.ownBlock≠some rb) (ho:m.op=1) :
  Calls Tryz.prog 169 #[mv m av,.slice (some ⟨rb,0,none⟩) R.length rc,mv0] w (YN none (setR R m.d (getR R m.a)) M rb rest T mv0 w):=by
 have hD:=hid (fun r w h=>Zv R rb rc rest T r w h kT)
 have hy:=hid (fun r v w bx h hx=>Z0 R rb rc bx rest T r v w h kT hx)
 have hv:=hid (fun w h=>ZK m av w h hf.2.2);have hA:=Zl hR m.a;have hB:=Zl hR m.b;have hC:=Zl hR m.c;obtain⟨ma,mc,rfl,hK⟩:=hm.shape;obtain⟨aa,ac,hF⟩:=Zb h;subst hF;have H:=hid h;have HW:=hid hw;have HM:=hid hm;have hz:=hid hd;have HF:=hid hf;have hS:=hid hw.lt;clear h hw hm hd hf hR;unfold mv at hv;unfold mv;have hi:=zH (makes7 m=[m.d]) jZ;have y1:(m.op==1)=true:=beq_iff_eq.2 kT;clear ho;obtain⟨hQ,hP⟩:=hA;obtain⟨hO,hN⟩:=hB;obtain⟨hM,hL⟩:=hC;go_enter Tryz.func169,Tryz.ntmps169
 go_wp2
 refine Zd rfl kK kK
  [Is (.slice (some ⟨rb,0,none⟩) R.length rc),Is (.pointer (some ⟨w.heap.size,3,none⟩)),Is (.int .i64 m.a),Is (.int .i32 (getR R m.a)),Is (.slice (some ⟨rb,0,none⟩) R.length rc),Is (.pointer (some ⟨w.heap.size,4,none⟩)),Is (.int .i64 m.b),Is (.int .i32 (getR R m.b)),Is (.slice (some ⟨rb,0,none⟩) R.length rc),Is (.pointer (some ⟨w.heap.size,5,none⟩)),Is (.int .i64 m.c),Is (.int .i32 (getR R m.c)),Is (.int .i32 (getR R m.a)),Is (.int .i32 (getR R m.b)),Is (.int .i32 (getR R m.c))]
  jS ⟨?_,?_,?_,?_,?_,?_,?_,?_,?_,?_,?_,?_,?_,?_,?_,trivial⟩ ?_
 all_goals
  intro vs w1 hs hk;have hu:∀ i,w1.cell? ⟨w.heap.size,i,none⟩=_:=fun i=>hs.cell (p:=⟨w.heap.size,i,none⟩) kM
  have ht:∀ i,w1.cell? ⟨w.heap.size+1,i,none⟩=_:=fun i=>hs.cell (p:=⟨w.heap.size+1,i,none⟩) kU
  have hH:=zH (w.heap.size+1<w1.heap.size) kh;have HS:=hid (Since.trans (((Since.refl w).alloc _).alloc _) hs);clear hs;simp only[putAll,Act.put,Zk,Zc,Ze,Is,List.setIfInBounds_toArray,List.set_cons_zero,List.set_cons_succ,Nat.reduceAdd,List.length_cons,List.length_nil]at hk ⊢;try simp only[hk]
 iterate 3
  iterate 3
   ·exact jK
  ·exact qS
 iterate 3
  ·exact jK
 ·have hT:=hid hu;have hJ:=hid ht;clear hk;generalize getR R m.a=A at *;generalize getR R m.b=B at *;generalize getR R m.c=C at *;go_wp2_with fail
  refine (hv.out _ (H.out.keep HS.out)).mono ?_;rw[hi.out];rintro e5 w5 ⟨v5,rfl,hc,he⟩;obtain⟨ka,kc,rfl⟩:=Zb hc;obtain⟨_,hr⟩:=Zx hc;obtain⟨kb,ko,rfl,_,ha⟩:=hr kU;have hE:w5.cell? ⟨kb,ko,none⟩=some (.int .i64 m.d):=ha 0 _ rfl;have hb:=hid (HS.out.trans he);have hg:w5.cell? ⟨w.heap.size+1,0,none⟩=_:=(he.cell (p:=⟨w.heap.size+1,0,none⟩) hH.out).trans (hJ.out 0);have hp:=hy.out m.d (A) w5 (w.heap.size+1) (HW.out.keep hb.out) (hg.trans (ZW _ _ _ _));have hI:=hid hp;clear hr ha hc he hg hu ht hp;go_wp2
  go_loopw [189] (fun i wr=>∃ t:Nat,i=.int .i64 t∧(t=0∧wr=w5∨t=1∧wr=Y9 w5 rb R m.d (A))) (fun i _=>1-(intOf i).toNat)
  case atStart=>exact⟨0,rfl,.inl ⟨rfl,rfl⟩⟩
  case round =>
   exact zs
theorem Zez (m:Mach) (av mv0:Value) (R M:List Int) (rb rc:Nat) (rest:List Value) (T:TypeId) (w:World) (h:Zi w av m.args) (hf:Yw m) (hw:WAt w rb R rest T) (hR:∀ x∈R,In32 x) (hl:R.length≤1000) (hm:MemIs w mv0 M)
  (hd:(∀ q,av.ownBlock=some q→q≠rb∧mv0.ownBlock≠some q)∧mv0.ownBlock≠some rb) (ho:m.op=3∨m.op=4) :
  Calls Tryz.prog 169 #[mv m av,.slice (some ⟨rb,0,none⟩) R.length rc,mv0] w (YN none (setR R m.d m.imm) M rb rest T mv0 w):=by
 have hD:=hid (fun r w h=>Zv R rb rc rest T r w h kT)
 have hy:=hid (fun r v w bx h hx=>Z0 R rb rc bx rest T r v w h kT hx)
 have hv:=hid (fun w h=>ZK m av w h hf.2.2);have hA:=Zl hR m.a;have hB:=Zl hR m.b;have hC:=Zl hR m.c;obtain⟨ma,mc,rfl,hK⟩:=hm.shape;obtain⟨aa,ac,hF⟩:=Zb h;subst hF;have H:=hid h;have HW:=hid hw;have HM:=hid hm;have hz:=hid hd;have HF:=hid hf;have hS:=hid hw.lt;clear h hw hm hd hf hR;unfold mv at hv;unfold mv;have hi:=zH (makes7 m=[m.d]) jZ;have n1:=zN m.op 1;have n2:=zN m.op 2;have y34:(m.op==3)=true∨((m.op==3)=false∧(m.op==4)=true):=by rcases ho with h | h<;>simp[h]
 clear ho;obtain⟨hQ,hP⟩:=hA;obtain⟨hO,hN⟩:=hB;obtain⟨hM,hL⟩:=hC;go_enter Tryz.func169,Tryz.ntmps169
 go_wp2
 refine Zd rfl kK kK
  [Is (.slice (some ⟨rb,0,none⟩) R.length rc),Is (.pointer (some ⟨w.heap.size,3,none⟩)),Is (.int .i64 m.a),Is (.int .i32 (getR R m.a)),Is (.slice (some ⟨rb,0,none⟩) R.length rc),Is (.pointer (some ⟨w.heap.size,4,none⟩)),Is (.int .i64 m.b),Is (.int .i32 (getR R m.b)),Is (.slice (some ⟨rb,0,none⟩) R.length rc),Is (.pointer (some ⟨w.heap.size,5,none⟩)),Is (.int .i64 m.c),Is (.int .i32 (getR R m.c)),Is (.int .i32 (getR R m.a)),Is (.int .i32 (getR R m.b)),Is (.int .i32 (getR R m.c))]
  jS ⟨?_,?_,?_,?_,?_,?_,?_,?_,?_,?_,?_,?_,?_,?_,?_,trivial⟩ ?_
 all_goals
  intro vs w1 hs hk;have hu:∀ i,w1.cell? ⟨w.heap.size,i,none⟩=_:=fun i=>hs.cell (p:=⟨w.heap.size,i,none⟩) kM
  have ht:∀ i,w1.cell? ⟨w.heap.size+1,i,none⟩=_:=fun i=>hs.cell (p:=⟨w.heap.size+1,i,none⟩) kU
  have hH:=zH (w.heap.size+1<w1.heap.size) kh;have HS:=hid (Since.trans (((Since.refl w).alloc _).alloc _) hs);clear hs;simp only[putAll,Act.put,Zk,Zc,Ze,Is,List.setIfInBounds_toArray,List.set_cons_zero,List.set_cons_succ,Nat.reduceAdd,List.length_cons,List.length_nil]at hk ⊢;try simp only[hk]
 iterate 3
  iterate 3
   ·exact jK
  ·exact qS
 iterate 3
  ·exact jK
 ·have hT:=hid hu;have hJ:=hid ht;clear hk;generalize getR R m.a=A at *;generalize getR R m.b=B at *;generalize getR R m.c=C at *;rcases y34 with y3|⟨n3,y4⟩;all_goals
   go_wp2_with fail
   refine (hv.out _ (H.out.keep HS.out)).mono ?_;rw[hi.out];rintro e5 w5 ⟨v5,rfl,hc,he⟩;obtain⟨ka,kc,rfl⟩:=Zb hc;obtain⟨_,hr⟩:=Zx hc;obtain⟨kb,ko,rfl,_,ha⟩:=hr kU;have hE:w5.cell? ⟨kb,ko,none⟩=some (.int .i64 m.d):=ha 0 _ rfl;have hb:=hid (HS.out.trans he);have hg:w5.cell? ⟨w.heap.size+1,0,none⟩=_:=(he.cell (p:=⟨w.heap.size+1,0,none⟩) hH.out).trans (hJ.out 0);have hp:=hy.out m.d (m.imm) w5 (w.heap.size+1) (HW.out.keep hb.out) (hg.trans (ZW _ _ _ _));have hI:=hid hp;clear hr ha hc he hg hu ht hp;go_wp2
   go_loopw [189] (fun i wr=>∃ t:Nat,i=.int .i64 t∧(t=0∧wr=w5∨t=1∧wr=Y9 w5 rb R m.d (m.imm))) (fun i _=>1-(intOf i).toNat)
   case atStart=>exact⟨0,rfl,.inl ⟨rfl,rfl⟩⟩
   case round =>
    exact zs
theorem ZeB (m:Mach) (av mv0:Value) (R M:List Int) (rb rc:Nat) (rest:List Value) (T:TypeId) (w:World) (h:Zi w av m.args) (hf:Yw m) (hw:WAt w rb R rest T) (hR:∀ x∈R,In32 x) (hl:R.length≤1000) (hm:MemIs w mv0 M)
  (hd:(∀ q,av.ownBlock=some q→q≠rb∧mv0.ownBlock≠some q)∧mv0.ownBlock≠some rb) (ho:m.op=23) :
  Calls Tryz.prog 169 #[mv m av,.slice (some ⟨rb,0,none⟩) R.length rc,mv0] w (YN none (setR R m.d (wrap32 (wrap32 (getR R m.a*getR R m.b)+getR R m.c))) M rb rest T mv0 w):=by
 have hD:=hid (fun r w h=>Zv R rb rc rest T r w h kT)
 have hy:=hid (fun r v w bx h hx=>Z0 R rb rc bx rest T r v w h kT hx)
 have hv:=hid (fun w h=>ZK m av w h hf.2.2);have hA:=Zl hR m.a;have hB:=Zl hR m.b;have hC:=Zl hR m.c;obtain⟨ma,mc,rfl,hK⟩:=hm.shape;obtain⟨aa,ac,hF⟩:=Zb h;subst hF;have H:=hid h;have HW:=hid hw;have HM:=hid hm;have hz:=hid hd;have HF:=hid hf;have hS:=hid hw.lt;clear h hw hm hd hf hR;unfold mv at hv;unfold mv;have hi:=zH (makes7 m=[m.d]) jZ;have n1:=zN m.op 1;have n2:=zN m.op 2;have n3:=zN m.op 3;have n4:=zN m.op 4;have y23:(m.op==23)=true:=beq_iff_eq.2 kT;have g1:¬ m.op≤17:=kT
 have g2:¬ m.op≤22:=kT
 have g3:18≤m.op:=kT
 have g4:5≤m.op:=kT
 clear ho;obtain⟨hQ,hP⟩:=hA;obtain⟨hO,hN⟩:=hB;obtain⟨hM,hL⟩:=hC;go_enter Tryz.func169,Tryz.ntmps169
 go_wp2
 refine Zd rfl kK kK
  [Is (.slice (some ⟨rb,0,none⟩) R.length rc),Is (.pointer (some ⟨w.heap.size,3,none⟩)),Is (.int .i64 m.a),Is (.int .i32 (getR R m.a)),Is (.slice (some ⟨rb,0,none⟩) R.length rc),Is (.pointer (some ⟨w.heap.size,4,none⟩)),Is (.int .i64 m.b),Is (.int .i32 (getR R m.b)),Is (.slice (some ⟨rb,0,none⟩) R.length rc),Is (.pointer (some ⟨w.heap.size,5,none⟩)),Is (.int .i64 m.c),Is (.int .i32 (getR R m.c)),Is (.int .i32 (getR R m.a)),Is (.int .i32 (getR R m.b)),Is (.int .i32 (getR R m.c))]
  jS ⟨?_,?_,?_,?_,?_,?_,?_,?_,?_,?_,?_,?_,?_,?_,?_,trivial⟩ ?_
 all_goals
  intro vs w1 hs hk;have hu:∀ i,w1.cell? ⟨w.heap.size,i,none⟩=_:=fun i=>hs.cell (p:=⟨w.heap.size,i,none⟩) kM
  have ht:∀ i,w1.cell? ⟨w.heap.size+1,i,none⟩=_:=fun i=>hs.cell (p:=⟨w.heap.size+1,i,none⟩) kU
  have hH:=zH (w.heap.size+1<w1.heap.size) kh;have HS:=hid (Since.trans (((Since.refl w).alloc _).alloc _) hs);clear hs;simp only[putAll,Act.put,Zk,Zc,Ze,Is,List.setIfInBounds_toArray,List.set_cons_zero,List.set_cons_succ,Nat.reduceAdd,List.length_cons,List.length_nil]at hk ⊢;try simp only[hk]
 iterate 3
  iterate 3
   ·exact jK
  ·exact qS
 iterate 3
  ·exact jK
 ·have hT:=hid hu;have hJ:=hid ht;clear hk;generalize getR R m.a=A at *;generalize getR R m.b=B at *;generalize getR R m.c=C at *;go_wp2_with fail
  refine (hv.out _ (H.out.keep HS.out)).mono ?_;rw[hi.out];rintro e5 w5 ⟨v5,rfl,hc,he⟩;obtain⟨ka,kc,rfl⟩:=Zb hc;obtain⟨_,hr⟩:=Zx hc;obtain⟨kb,ko,rfl,_,ha⟩:=hr kU;have hE:w5.cell? ⟨kb,ko,none⟩=some (.int .i64 m.d):=ha 0 _ rfl;have hb:=hid (HS.out.trans he);have hg:w5.cell? ⟨w.heap.size+1,0,none⟩=_:=(he.cell (p:=⟨w.heap.size+1,0,none⟩) hH.out).trans (hJ.out 0);have hp:=hy.out m.d (wrap32 (wrap32 (A*B)+C)) w5 (w.heap.size+1) (HW.out.keep hb.out) (hg.trans (ZW _ _ _ _));have hI:=hid hp;clear hr ha hc he hg hu ht hp;go_wp2
  go_loopw [189] (fun i wr=>∃ t:Nat,i=.int .i64 t∧(t=0∧wr=w5∨t=1∧wr=Y9 w5 rb R m.d (wrap32 (wrap32 (A*B)+C)))) (fun i _=>1-(intOf i).toNat)
  case atStart=>exact⟨0,rfl,.inl ⟨rfl,rfl⟩⟩
  case round =>
   exact zs
end Go.Proofs.YtimpddecdodddaaGreat
