/- jacquardref07's maker: take, temp. jacquardref07's maker: put. jacquardref07's maker: copied, word. -/
import Derived.Test.YtkpbmbhejpmboaaPkB12
namespace Go.Proofs.Ytkpbmbhejpmboaa
open Go.RowKit
set_option linter.unusedVariables false
def K7At (w:World) (mb:Nat) (sv:Value) (at_:Nat) (rest:List Value):Prop:=HeapIs w mb (sv::.int .i64 at_::rest).toArray 173
theorem K7At.keep {w w':World} {mb:Nat} {sv:Value} {at_:Nat} {rest:List Value} (h:K7At w mb sv at_ rest) (s:Since w w'):K7At w' mb sv at_ rest:=HeapIs.keep h s
def TakeQ7 (w:World) (mb:Nat) (sv:Value) (at_ k:Nat) (rest:List Value) (r:Value) (e:Ending) (w':World):Prop:=e=.returned r∧K7At w' mb sv (at_+k) rest∧Turn (fun q=>q=mb) w w'∧w'.heap.size=w.heap.size
theorem K7At.next {w : World} {mb:Nat} {sv:Value} {at_:Nat} {rest:List Value} (h:K7At w mb sv at_ rest):K7At (w.setCell ⟨mb,1,none⟩ (.int .i64 (at_+1))) mb sv (at_+1) rest:=by
 have h1:=HeapIs.set (show HeapIs w mb _ _ from h) 1 (.int .i64 (at_+1))
 simpa [K7At]using h1
set_option maxHeartbeats 1000000 in
set_option maxRecDepth 100000 in
theorem take7_any (sv:Value) (l:List Int) (w:World) (mb at_:Nat) (rest:List Value) (n:Int) (hm:K7At w mb sv at_ rest) (hs:Ints w sv l) (hat:at_≤1000000) (hn:1≤n∧n≤1048576):Calls Try.prog 140 #[.pointer (some ⟨mb,0,none⟩),.int .i64 n] w (TakeQ7 w mb sv at_ 1 rest (.int .i64 (takeF l at_ n))):=by
 obtain⟨sa,sc,rfl⟩:=nums_lenI hs
 have hlen:=hs.len
 unfold maxLen at hlen
 obtain⟨x,hx⟩:∃ x,l.getD at_ 0=x:=⟨_,rfl⟩
 unfold takeF
 rw[hx]
 have hb1:=Int.tmod_lt_of_pos x (show 0<n by omega)
 have hb2 : -n<x.tmod n:=Int.lt_tmod_of_pos x (by omega)
 have HX:=Lib.hid hx
 have HM:=Lib.hid hm
 have HS:=Lib.hid hs
 have c0:w.cell? ⟨mb,0,none⟩=some (.slice sa l.length sc):=hm.cell 0
 have c1:w.cell? ⟨mb,1,none⟩=some (.int .i64 at_):=hm.cell 1
 have hl:=hm.lt
 have hfz:=hm.frozen
 clear hx hm hs
 by_cases hlt:at_<l.length
 ·obtain⟨_,hcc⟩:=nums_cell HS.out
  obtain⟨B,off,rfl,hB,hcell⟩:=hcc (by intro e;rw[e]at hlt;simp at hlt)
  have hxx:l[at_]? = some x:=by rw[←HX.out,List.getD_eq_getElem?_getD,List.getElem?_eq_getElem hlt];rfl
  have c2:=hcell at_ x hxx
  clear hcell hcc hxx
  go_enter Try.func140,Try.ntmps140
  go_wp2_with fail
  go_quiet (fail)
  go_wp2_with fail
  go_quiet (fail)
  go_wp2
  go_ret
  exact⟨rfl,(HM.out.keep (Since.drewN (Since.refl w) _)).next,(Turn.since (Since.drewN (Since.refl w) _)).trans ((Turn.refl (fun q=>q=mb) _).setCell (p:=⟨mb,1,none⟩) rfl _),by rw[setCell_size];rfl⟩
 ·obtain rfl:x=0:=by rw[←HX.out,List.getD_eq_getElem?_getD,List.getElem?_eq_none (by omega)];rfl
  rw[show ((0:Int).tmod n+n) % n=0 from by simp]
  go_enter Try.func140,Try.ntmps140
  go_wp2_with fail
  go_quiet (fail)
  go_wp2
  go_ret
  exact⟨rfl,(HM.out.keep (Since.drewN (Since.refl w) _)).next,(Turn.since (Since.drewN (Since.refl w) _)).trans ((Turn.refl (fun q=>q=mb) _).setCell (p:=⟨mb,1,none⟩) rfl _),by rw[setCell_size];rfl⟩
section
variable {C : Nat→Prop} {kb:Nat} {sv:Value} {l : List Int} {m : K7} {w : World}
theorem k7_take (h:K7Ok C kb sv l m w) (n:Int) (hn:1≤n∧n≤1048576) (hs:m.at_≤100000) :
  Calls Try.prog 140 #[.pointer (some ⟨kb,0,none⟩),.int .i64 n] w (K7Q C kb sv l w m 1 0 0 fun m' e=>∃ x:Int,e=.returned (.int .i64 x)∧(0≤x∧x<n)∧m'={ m with at_:=m.at_+1 }):=by
 refine (take7_any sv l w kb m.at_ [.int .i64 m.next,m.lv] n h.made h.src.1 (by omega) hn).mono ?_
 rintro e w' ⟨rfl,hm,t,hz⟩
 exact⟨_,⟨_,rfl,takeF_bounds _ _ (by omega),rfl⟩,h.box hm t,Mv7.box t (Nat.le_refl _) (by omega)⟩
set_option maxHeartbeats 1000000 in
set_option maxRecDepth 100000 in
theorem k7_temp (h:K7Ok C kb sv l m w) (hs:0≤m.next∧m.next≤9000) :
  Calls Try.prog 141 #[.pointer (some ⟨kb,0,none⟩)] w (K7Q C kb sv l w m 0 1 0 fun m' e=>e=.returned (.int .i64 m.next)∧m'={ m with next:=m.next+1 }):=by
 have H:=Lib.hid h
 have c2:w.cell? ⟨kb,2,none⟩=some (.int .i64 m.next):=h.made.cell 2
 have hl:=h.made.lt
 have hfz:=h.made.frozen
 obtain⟨nx,hnx⟩:∃ x,m.next=x:=⟨_,rfl⟩
 rw[hnx]at c2 hs
 have HNX:=Lib.hid hnx
 have HM:=Lib.hid (show HeapIs (w.setCell ⟨kb,2,none⟩ (.int .i64 (nx+1))) kb #[sv,.int .i64 m.at_,.int .i64 (nx+1),m.lv] 173 from h.made.set 2 (.int .i64 (nx+1)))
 clear h hnx
 go_enter Try.func141,Try.ntmps141
 go_wp2
 go_ret
 have t:Turn (fun q=>q=kb) w (w.setCell ⟨kb,2,none⟩ (.int .i64 (nx+1))):=(Turn.refl (fun q=>q=kb) w).setCell (p:=⟨kb,2,none⟩) rfl _
 exact⟨{ m with next:=nx+1 },⟨by rw[HNX.out];rfl,by rw[HNX.out]⟩,H.out.box HM.out t,Mv7.box t (Nat.le_refl _) (by rw[HNX.out];omega)⟩
end
def mav (x:MaV):Value:=.agg #[.int .i64 x.m.op,.int .i64 x.m.d,.int .i64 x.m.e,.int .i64 x.m.a,.int .i64 x.m.b,.int .i64 x.m.c,.int .i32 x.m.imm,x.av]
def OneMa (S:Nat→Prop) (x:MaV) (v:Value) (w:World):Prop:=∃ b,v=.slice (some ⟨b,0,none⟩) 1 1∧HeapIs w b (macells x).toArray 46∧¬ S b
theorem OneMa.stable (S:Nat→Prop) (x:MaV):Stable (OneMa S x):=fun v w w' ⟨b,h1,h2,h3⟩ s=>⟨b,h1,h2.keep s,h3⟩
theorem OneMa.stableT (S:Nat→Prop) (x:MaV):StableT S (OneMa S x):=fun v w w' ⟨b,h1,h2,h3⟩ t=>⟨b,h1,h2.turn t h3,h3⟩
def AppMa (w0:World) (base:Nat) (v0:Value) (xs:List MaV) (v:Value) (w:World):Prop:=∃ wa,Since w0 wa∧Turn (fun q=>v0.ownBlock=some q) wa w∧NewOr wa v0 v∧OwnRow macells 8 46 base w v xs
theorem AppMa.stable (w0:World) (base:Nat) (v0:Value) (xs:List MaV):Stable (AppMa w0 base v0 xs):=fun v w w' ⟨wa,h1,h2,h3,h4⟩ s=>⟨wa,h1,h2.trans (Turn.since s),h3,h4.keep s⟩
structure PutPh (w:World) (kb:Nat) (x:MaV) (m:K7) (sv:Value) (w1:World):Prop where
 made:HeapIs w1 kb #[sv,.int .i64 m.at_,.int .i64 m.next,m.lv] 173
 box:HeapIs w1 w.heap.size (macells x).toArray 46
def PutP (w0 w:World) (kb:Nat) (x:MaV) (m:K7) (sv:Value) (p:Nat) (w1:World):Prop:=PutPh w kb x m sv w1∧(p=0→Since w0 w1)
theorem PutPh.keep {w w1 w2:World} {kb:Nat} {x : MaV} {m : K7} {sv:Value} (h:PutPh w kb x m sv w1) (s:Since w1 w2):PutPh w kb x m sv w2:=⟨h.made.keep s,h.box.keep s⟩
theorem PutPh.turn {S : Nat→Prop} {w w1 w2:World} {kb:Nat} {x : MaV} {m : K7} {sv:Value} (h:PutPh w kb x m sv w1) (t:Turn S w1 w2) (hn:¬ S kb∧¬ S w.heap.size):PutPh w kb x m sv w2:=⟨h.made.turn t hn.1,h.box.turn t hn.2⟩
section
variable {C : Nat→Prop} {kb:Nat} {sv:Value} {l : List Int} {m : K7} {w : World}
set_option maxHeartbeats 4000000 in
set_option maxRecDepth 100000 in
theorem k7_put (h:K7Ok C kb sv l m w) (hs:Sm7 80 m) (x:MaV) (hx:Ints w x.av x.m.args∧Stays (OwnC7 C kb m) w x.av) (hxb:∀ q,x.av.ownBlock=some q→m.base≤q) (hg:MGood x.m) :
  Calls Try.prog 138 #[.pointer (some ⟨kb,0,none⟩),mav x] w (K7Q C kb sv l w m 0 0 1 fun m' e=>e=.returned (.tuple #[])∧m'.next=m.next∧m'.at_=m.at_):=by
 obtain⟨hs1,hs2,hs3⟩:=hs
 obtain⟨ia,ic,hiv⟩:=own_shape (show w.ownsRow _ _ _ _ _ _ from h.row)
 obtain⟨il,hill⟩:∃ n,m.l.length=n:=⟨_,rfl⟩
 rw[hill]at hiv hs3
 obtain⟨w0,hw0⟩:∃ w0,w0=w.alloc (.cells (macells x).toArray 46):=⟨_,rfl⟩
 have hs0:Since w w0:=by rw[hw0];exact (Since.refl w).alloc _
 have hbx:HeapIs w0 w.heap.size (macells x).toArray 46:=by rw[hw0];exact HeapIs.new _ _ _
 have HOK0:=Lib.hid (h.keep hs0)
 have HROW:=Lib.hid (show OwnRow macells 8 46 m.base w0 (.slice ia il ic) m.l from by rw[←hiv];exact h.row.keep hs0)
 have HPH0:=Lib.hid (show PutP w0 w kb x m sv 0 w0.drew from⟨⟨h.made.keep (hs0.trans (Since.refl _).drew),hbx.keep (Since.refl _).drew⟩,fun _=>(Since.refl _).drew⟩)
 have HIL:=Lib.hid (show ∀ q,(Value.slice ia il ic).ownBlock=some q→q<w0.heap.size from fun q hq=>own_some_lt HROW.out hq)
 have HIO:=Lib.hid (show ¬ (Value.slice ia il ic).ownBlock=some kb∧¬ (Value.slice ia il ic).ownBlock=some w.heap.size from by
  rw[←hiv]
  exact⟨h.kb_row,fun e=>by have:=own_some_lt h.row e;omega⟩)
 have HCI:=Lib.hid (show (#[sv,.int .i64 m.at_,.int .i64 m.next,m.lv]:Array Value)[3]? = some (.slice ia il ic) from by rw[←hiv];rfl)
 have HAV:=Lib.hid (show x.av.oneCell'=true from by obtain⟨a,c,e⟩:=nums_lenI hx.1;rw[e];rfl)
 have HX:=Lib.hid hx
 have HG:=Lib.hid hg
 have HXB:=Lib.hid hxb
 have HIV:=Lib.hid hiv
 have HILL:=Lib.hid hill
 have HS0:=Lib.hid hs0
 clear h hx hg hxb hiv hill hs0 hbx hs1 hs2
 go_enter Try.func138,Try.ntmps138
 unfold mav
 go_wp2_with fail
 rw[show (.cells #[.int .i64 x.m.op,.int .i64 x.m.d,.int .i64 x.m.e,.int .i64 x.m.a,.int .i64 x.m.b,.int .i64 x.m.c,.int .i32 x.m.imm,x.av] 46:Obj)=.cells (macells x).toArray 46 from rfl,←hw0]
 clear hw0
 refine wp_region_one 8 7 [7] [0,0,0,0,0,0,0,0] [1,0,0,0,0,0,0,0] [0,0,0,0,0,0,0,1] (fun q=>(Value.slice ia il ic).ownBlock=some q) (PutP w0 w kb x m sv) rfl (by decide +kernel) (by decide +kernel) (by decide +kernel) (by decide) (by decide +kernel)
  [Is (.pointer (some ⟨kb,0,none⟩)),Is (.pointer (some ⟨kb,0,none⟩)),Is (.pointer (some ⟨kb,0,none⟩)),Is (.pointer (some ⟨kb,3,none⟩)),Is (.slice ia il ic),Is (mav x),OneMa (fun q=>(Value.slice ia il ic).ownBlock=some q) x,AppMa w0 m.base (.slice ia il ic) (m.l++[x])]
  (by repeat (first | exact trivial | refine⟨fun h=>absurd rfl h,?_⟩ | refine⟨fun _=>Is.stableT _ _,?_⟩ | refine⟨fun _=>Any.stableT _,?_⟩ | refine⟨fun _=>OneMa.stableT _ _,?_⟩)) (by repeat (first | exact trivial | refine⟨Is.stable _,?_⟩ | refine⟨Any.stable,?_⟩ | refine⟨OneMa.stable _ _,?_⟩ | refine⟨AppMa.stable _ _ _ _,?_⟩)) HPH0.out ⟨?_,?_,?_,?_,?_,?_,?_,?_,trivial⟩ ?_
 rotate_right
 ·intro vs w2 ht hph hk
  simp only[List.take,List.drop,putAll,Act.put,KnowsAll,nthF,Is,List.setIfInBounds_toArray,List.set_cons_zero,List.set_cons_succ,Nat.reduceAdd]at hk ⊢
  try simp only[hk]
  obtain⟨wa,hsa,hta,hnew,hown⟩:AppMa w0 m.base (.slice ia il ic) (m.l++[x]) (vs 7) w2:=by exact hk.2.2.2.2.2.2.2.1
  generalize vs 7=nv at *
  have hc3:w2.cell? ⟨kb,3,none⟩=some (.slice ia il ic):=(hph.1.made.cell 3).trans HCI.out
  have hfz:=hph.1.made.frozen
  have hl:=hph.1.made.lt
  have HPH:=Lib.hid hph.1
  have HSA:=Lib.hid hsa
  have HTA:=Lib.hid hta
  have HNEW:=Lib.hid hnew
  have HOWN:=Lib.hid hown
  clear hk hph ht hsa hta hnew hown
  obtain⟨na,nc,hnv⟩:=own_shape (show w2.ownsRow _ _ _ _ _ _ from HOWN.out)
  rw[show (m.l++[x]).length=il+1 from by rw[List.length_append,HILL.out];rfl]at hnv
  subst hnv
  go_wp2_with fail
  go_end0
  have t2:Turn (fun q=>q=kb) w2 (w2.setCell ⟨kb,3,none⟩ (.slice na (il+1) nc)):=(Turn.refl (fun q=>q=kb) w2).setCell (p:=⟨kb,3,none⟩) rfl _
  have hput:=(HOK0.out.keep HSA.out).put (x:=x) HOWN.out (by rw[HIV.out];exact HTA.out) (by rw[HIV.out];exact HNEW.out) t2 (HPH.out.made.set 3 _) ⟨HX.out.1.keep (HS0.out.trans HSA.out),HX.out.2.keep (HS0.out.trans HSA.out)⟩ HXB.out HG.out (own_not HOWN.out HPH.out.made (by decide))
  exact⟨{ m with l:=m.l++[x],lv:=.slice na (il+1) nc },⟨rfl,rfl,rfl⟩,hput.1,Mv7.since (HS0.out.trans HSA.out) hput.2⟩
 all_goals
  intro p vs w2 hlo hhi ht hph hk
  simp only[List.take,putAll,Act.put,Knows,nthF,Is,List.setIfInBounds_toArray,List.set_cons_zero,List.set_cons_succ,Nat.reduceAdd]at hk ⊢
  try simp only[hk]
 ·go_wp2
  exact⟨_,rfl,rfl,Since.refl _,hph⟩
 ·go_wp2
  exact⟨_,rfl,rfl,Since.refl _,hph⟩
 ·go_wp2
  exact⟨_,rfl,rfl,Since.refl _,hph⟩
 ·go_wp2
  exact⟨_,rfl,rfl,Since.refl _,hph⟩
 ·have hc:w2.cell? ⟨kb,3,none⟩=some (.slice ia il ic):=(hph.1.made.cell 3).trans HCI.out
  have hl:=hph.1.made.lt
  go_wp2
  exact⟨_,rfl,rfl,Since.refl _,hph⟩
 ·have hbx:=hph.1.box
  clear hk
  refine wpList_load_row rfl _ _ rfl w.heap.size rfl 46 _ (0,0) _ hbx Try.underlying46 rfl (by kernel_rfl) ?_
  go_wp2
  exact⟨_,rfl,rfl,Since.refl _,hph⟩
 ·have hne:¬ (Value.slice ia il ic).ownBlock=some w2.heap.size:=fun e=>by have:=HIL.out _ e;have:=ht.size;omega
  have hs2:=(Since.refl w2).alloc (.cells (macells x).toArray 46)
  have HP:=Lib.hid (show PutP w0 w kb x m sv p _ from And.intro (hph.1.keep hs2) (fun (e:p=0)=>(hph.2 e).trans hs2))
  clear hk hph
  unfold mav
  go_wp2
  exact⟨_,rfl,⟨_,rfl,HeapIs.new _ _ _,hne⟩,hs2,HP.out⟩
 ·obtain rfl:p=0:=by omega
  have hs0:=hph.2 rfl
  obtain⟨b1,hb1,hb2,hb3⟩:OneMa (fun q=>(Value.slice ia il ic).ownBlock=some q) x (vs 6) w2:=hk.2.1
  simp only[hb1]
  have hrow:=HROW.out.keep hs0
  have HPH:=Lib.hid hph.1
  have HS0:=Lib.hid hs0
  clear hk hph hb1
  refine wpList_append_one2 (base:=m.base) macells 8 macells_len (by decide) rfl _ _ 76 rfl 46 (.agg #[.int .i64 0,.int .i64 0,.int .i64 0,.int .i64 0,.int .i64 0,.int .i64 0,.int .i32 0,.slice none 0 0]) 80 Try.underlying76 (by kernel_rfl) rfl (.slice ia il ic) m.l x b1 1 _ rfl rfl hrow hb2 (by unfold macells;simp[Value.oneCell'];exact HAV.out) (by rw[HILL.out];unfold maxLen;omega) (by rw[HILL.out];omega) (Nat.le_trans HOK0.out.low hs0.size) ?_
  intro v' w3 hown ht3 hnew
  have HA:=Lib.hid (show AppMa w0 m.base (.slice ia il ic) (m.l++[x]) v' w3 from⟨w2,HS0.out,ht3,hnew,hown⟩)
  have HP3:=Lib.hid (HPH.out.turn ht3 HIO.out)
  have HT3:=Lib.hid ht3
  clear hown ht3 hnew hrow hb2 hb3
  go_wp2
  exact⟨_,rfl,HA.out,HT3.out,HP3.out,fun e=>absurd e (by decide)⟩
end
theorem mgood {op d e a b c imm:Int} (hi:In32 imm) (hd:0≤d∧d<10000) (he:0≤e∧e<10000) (ha:0≤a∧a<10000) (hb:0≤b∧b<10000) (hc:0≤c∧c<10000)
  (ho:op=1∨(op=3∧-32768≤imm∧imm≤32767)∨op=4∨(5≤op∧op≤17)∨(op=18∧-128≤imm∧imm≤127)∨(op=20∧0≤imm∧imm≤31)∨op=23∨((op=24∨op=26)∧0≤imm∧imm≤255)∨op=25∨op=27∨op=28∨op=29):MGood ⟨op,d,e,a,b,c,imm,[]⟩:=
 ⟨hi,Nat.zero_le _,fun _ h=>(by cases h),hd,he,ha,hb,hc,ho,.inr rfl⟩
section
variable {C : Nat→Prop} {kb:Nat} {sv:Value} {l : List Int} {m : K7} {w : World}
set_option maxHeartbeats 1000000 in
set_option maxRecDepth 100000 in
theorem k7_copied (h:K7Ok C kb sv l m w) (hs:Sm7 70 m) (r:Int) (hr:0≤r∧r<10000) :
  Calls Try.prog 142 #[.pointer (some ⟨kb,0,none⟩),.int .i64 r] w (K7Q C kb sv l w m 1 1 1 fun m' e=>∃ x:Int,e=.returned (.int .i64 x)∧0≤x∧x<10000):=by
 obtain⟨m0,hm0⟩:∃ x,x=m:=⟨_,rfl⟩
 subst hm0
 have H0:=Lib.hid h
 have MV0:=Lib.hid (Mv7.refl kb w m0)
 have SM0:=Lib.hid hs
 clear h hs
 go_enter Try.func142,Try.ntmps142
 go_wp2_with fail
 refine (k7_take H0.out 4 (by decide) (by have:=SM0.out.1;omega)).mono ?_
 rintro e w1 ⟨m1,⟨x,rfl,⟨hx0,hx1⟩,hm1⟩,h1,mv1⟩
 have H1:=Lib.hid h1
 have MV1:=Lib.hid (MV0.out.trans mv1)
 have SM1:=Lib.hid (SM0.out.mv mv1 (by decide) (by decide) (by decide))
 clear h1 mv1 hm1
 by_cases hq:x=0
 ·skip
  subst hq
  go_wp2_with fail
  have hz1:0≤m1.next∧m1.next<9000:=by have:=SM1.out.2.1;omega
  refine (k7_temp H1.out ⟨hz1.1,by omega⟩).mono ?_
  rintro e w2 ⟨m2,⟨rfl,hm2⟩,h2,mv2⟩
  have H2:=Lib.hid h2
  have MV2:=Lib.hid (MV1.out.trans mv2)
  have SM2:=Lib.hid (SM1.out.mv mv2 (by decide) (by decide) (by decide))
  clear h2 mv2 hm2
  go_wp2_with fail
  refine (k7_put H2.out (SM2.out.mono (by decide)) ⟨⟨1,m1.next,0,r,0,0,0,[]⟩,.slice none 0 0⟩ ⟨.nil _ _,Stays.nil _ _⟩ (fun q hq=>by cases hq) (mgood (by unfold In32;omega) (by omega) (by omega) (by omega) (by omega) (by omega) (by omega))).mono ?_
  rintro e w3 ⟨m3,⟨rfl,hm3,hn3⟩,h3,mv3⟩
  have H3:=Lib.hid h3
  have MV3:=Lib.hid (MV2.out.trans mv3)
  have SM3:=Lib.hid (SM2.out.mv mv3 (by decide) (by decide) (by decide))
  clear h3 mv3 hm3 hn3
  go_wp2_with fail
  go_ret
  refine⟨_,?_,H3.out,MV3.out.more (by decide) (by decide) (by decide)⟩
  exact⟨_,rfl,by omega,by omega⟩
 ·skip
  have hg:0<x:=by omega
  go_wp2_with fail
  go_ret
  refine⟨_,?_,H1.out,MV1.out.more (by decide) (by decide) (by decide)⟩
  exact⟨_,rfl,hr⟩
set_option maxHeartbeats 1000000 in
set_option maxRecDepth 100000 in
theorem k7_word (h:K7Ok C kb sv l m w) (hs:Sm7 70 m) (d:Int) (hd:0≤d∧d<10000) (n:Int) (hn:In32 n) :
  Calls Try.prog 136 #[.pointer (some ⟨kb,0,none⟩),.int .i64 d,.int .i32 n] w (K7Q C kb sv l w m 1 0 1 fun m' e=>e=.returned (.tuple #[])):=by
 obtain⟨m0,hm0⟩:∃ x,x=m:=⟨_,rfl⟩
 subst hm0
 have H0:=Lib.hid h
 have MV0:=Lib.hid (Mv7.refl kb w m0)
 have SM0:=Lib.hid hs
 clear h hs
 have hn2:=hn
 unfold In32 at hn2
 go_enter Try.func136,Try.ntmps136
 by_cases hlo : -32768≤n
 ·skip
  by_cases hhi:n<32768
  ·skip
   have h1 : -32768≤n:=hlo
   have h2:n<32768:=hhi
   go_wp2_with fail
   refine (k7_take H0.out 2 (by decide) (by have:=SM0.out.1;omega)).mono ?_
   rintro e w1 ⟨m1,⟨x,rfl,⟨hx0,hx1⟩,hm1⟩,h1,mv1⟩
   have H1:=Lib.hid h1
   have MV1:=Lib.hid (MV0.out.trans mv1)
   have SM1:=Lib.hid (SM0.out.mv mv1 (by decide) (by decide) (by decide))
   clear h1 mv1 hm1
   by_cases hq:x=0
   ·skip
    subst hq
    go_wp2_with fail
    refine (k7_put H1.out (SM1.out.mono (by decide)) ⟨⟨3,d,0,0,0,0,n,[]⟩,.slice none 0 0⟩ ⟨.nil _ _,Stays.nil _ _⟩ (fun q hq=>by cases hq) (mgood hn hd (by omega) (by omega) (by omega) (by omega) (by omega))).mono ?_
    rintro e w2 ⟨m2,⟨rfl,hm2,hn2⟩,h2,mv2⟩
    have H2:=Lib.hid h2
    have MV2:=Lib.hid (MV1.out.trans mv2)
    have SM2:=Lib.hid (SM1.out.mv mv2 (by decide) (by decide) (by decide))
    clear h2 mv2 hm2 hn2
    go_wp2_with fail
    go_end0
    refine⟨_,?_,H2.out,MV2.out.more (by decide) (by decide) (by decide)⟩
    exact rfl
   ·skip
    have hr:(x==0)=false:=by simpa using hq
    go_wp2_with fail
    refine (k7_put H1.out (SM1.out.mono (by decide)) ⟨⟨4,d,0,0,0,0,n,[]⟩,.slice none 0 0⟩ ⟨.nil _ _,Stays.nil _ _⟩ (fun q hq=>by cases hq) (mgood hn hd (by omega) (by omega) (by omega) (by omega) (by omega))).mono ?_
    rintro e w2 ⟨m2,⟨rfl,hm2,hn2⟩,h2,mv2⟩
    have H2:=Lib.hid h2
    have MV2:=Lib.hid (MV1.out.trans mv2)
    have SM2:=Lib.hid (SM1.out.mv mv2 (by decide) (by decide) (by decide))
    clear h2 mv2 hm2 hn2
    go_wp2_with fail
    go_end0
    refine⟨_,?_,H2.out,MV2.out.more (by decide) (by decide) (by decide)⟩
    exact rfl
  ·skip
   go_wp2_with fail
   refine (k7_put H0.out (SM0.out.mono (by decide)) ⟨⟨4,d,0,0,0,0,n,[]⟩,.slice none 0 0⟩ ⟨.nil _ _,Stays.nil _ _⟩ (fun q hq=>by cases hq) (mgood hn hd (by omega) (by omega) (by omega) (by omega) (by omega))).mono ?_
   rintro e w1 ⟨m1,⟨rfl,hm1,hn1⟩,h1,mv1⟩
   have H1:=Lib.hid h1
   have MV1:=Lib.hid (MV0.out.trans mv1)
   have SM1:=Lib.hid (SM0.out.mv mv1 (by decide) (by decide) (by decide))
   clear h1 mv1 hm1 hn1
   go_wp2_with fail
   go_end0
   refine⟨_,?_,H1.out,MV1.out.more (by decide) (by decide) (by decide)⟩
   exact rfl
 ·skip
  go_wp2_with fail
  refine (k7_put H0.out (SM0.out.mono (by decide)) ⟨⟨4,d,0,0,0,0,n,[]⟩,.slice none 0 0⟩ ⟨.nil _ _,Stays.nil _ _⟩ (fun q hq=>by cases hq) (mgood hn hd (by omega) (by omega) (by omega) (by omega) (by omega))).mono ?_
  rintro e w1 ⟨m1,⟨rfl,hm1,hn1⟩,h1,mv1⟩
  have H1:=Lib.hid h1
  have MV1:=Lib.hid (MV0.out.trans mv1)
  have SM1:=Lib.hid (SM0.out.mv mv1 (by decide) (by decide) (by decide))
  clear h1 mv1 hm1 hn1
  go_wp2_with fail
  go_end0
  refine⟨_,?_,H1.out,MV1.out.more (by decide) (by decide) (by decide)⟩
  exact rfl
end
end Go.Proofs.Ytkpbmbhejpmboaa
