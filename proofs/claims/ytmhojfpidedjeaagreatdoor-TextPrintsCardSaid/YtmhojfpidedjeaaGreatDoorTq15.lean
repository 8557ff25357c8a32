/- The program's parser of texts: must, nums. The program's parser: its last block; whether a row of words has an odd one. -/
import Derived.Test.YtmhojfpidedjeaaGreatDoorTq05
import Derived.Test.YtmhojfpidedjeaaGreatDoorTq07
namespace Go.Proofs.YtmhojfpidedjeaaGreatDoor
open Go.RowKit
set_option linter.unusedVariables false
abbrev TPa (w0:World) (pb:Nat) (tv:Value) (params pl e:Int) (bv:Value) (bl:List FBlk) (w:World):Prop:=PaM 93 w0 pb [tv] params pl e bv bl w
def MustQ (w0:World) (pb:Nat) (tv:Value) (params pl e:Int) (bv:Value) (bl:List FBlk) (w:World) (x:Ending) (w':World):Prop:=x=.returned (.bool (e==0))∧TPa w0 pb tv params pl e bv bl w'∧Turn (fun q=>q=pb) w w'
section
variable {w0:World} {pb:Nat} {tv:Value} {params pl e:Int} {bv:Value} {bl:List FBlk}
set_option maxHeartbeats 1000000 in
set_option maxRecDepth 100000 in
theorem must_any (w:World) (h:TPa w0 pb tv params pl e bv bl w) (b:Bool) (n:Int) (hn:n≠0):Calls Tryz.prog 76 #[.pointer (some ⟨pb,0,none⟩),.bool b,.int .i64 n] w (MustQ w0 pb tv params pl (failE e (!b) n) bv bl w):=by
 have c3:w.cell? ⟨pb,3,none⟩=some (.int .i64 e):=h.cell 3
 have hl:=h.box.lt
 have hz:=h.box.frozen 3
 have H:=Lib.hid h
 clear h
 cases b with
 | true =>
  have he:failE e (!true) n=e:=by unfold failE;rw[if_neg (by simp)]
  rw[he]
  clear he
  go_enter Tryz.func76,Tryz.ntmps76
  go_wp2
  go_ret
  exact⟨rfl,H.out,Turn.refl _ _⟩
 | false =>
  by_cases he:e=0
  ·subst he
   have e1:failE 0 (!false) n=n:=by unfold failE;rw[if_pos ⟨rfl,rfl⟩]
   rw[e1]
   have HP:=Lib.hid (H.out.put 3 (.int .i64 n) (params':=params) (pl':=pl) (e':=n) (tl':=[tv]) rfl)
   have hn2:(n==0)=false:=by simpa using hn
   have h9:=HP.out.cell 3
   have h9:(w.setCell ⟨pb,3,none⟩ (.int .i64 n)).cell? ⟨pb,3,none⟩=some (.int .i64 n):=h9
   clear e1 hn
   go_enter Tryz.func76,Tryz.ntmps76
   go_wp2
   go_ret
   exact⟨by rw[hn2];rfl,HP.out,(Turn.refl (fun q=>q=pb) w).setCell (p:=⟨pb,3,none⟩) rfl _⟩
  ·have h1:(e==0)=false:=by simpa using he
   have e1:failE e (!false) n=e:=by unfold failE;rw[if_neg (fun h=>he h.2)]
   rw[e1]
   clear he e1
   go_enter Tryz.func76,Tryz.ntmps76
   go_wp2
   go_ret
   exact⟨by rw[h1];rfl,H.out,Turn.refl _ _⟩
end
def NumsTQ (w0:World) (pb:Nat) (tv:Value) (params pl e:Int) (bv:Value) (bl:List FBlk) (l:List ByteArray) (w:World) (x:Ending) (w':World):Prop:=
 ∃ rv,x=.returned rv∧w'.ownsRow w.heap.size 3 1 rv (numsW l).length ((numsW l).map (Value.int .i64))∧TPa w0 pb tv params pl (numsE e l) bv bl w'∧Turn (fun q=>q=pb) w w'
section
variable {w0:World} {pb:Nat} {tv:Value} {params pl e:Int} {bv:Value} {bl:List FBlk}
set_option maxHeartbeats 2000000 in
set_option maxRecDepth 100000 in
theorem nums_any (w:World) (h:TPa w0 pb tv params pl e bv bl w) (hL:LaidT w0) (v:Value) (l:List ByteArray) (hl:StrsIn w v l) (hs:Stays (fun q=>q=pb) w v) (hn:l.length≤500000):Calls Tryz.prog 77 #[.pointer (some ⟨pb,0,none⟩),v] w (NumsTQ w0 pb tv params pl e bv bl l w):=by
 obtain⟨a,c,e1,_⟩:=RowIn.shape hl
 obtain rfl:v=.slice a l.length c:=e1
 have H:=Lib.hid h
 have HL:=Lib.hid (fun w' (t:Turn (fun q=>q=pb) w w')=>(RowIn.turn hl t (fun q hq hr=>(hs q hq).1 hr) (fun _ _ h=>h):StrsIn w' _ l))
 have HLT:=Lib.hid hL
 clear h hl hs hL
 go_enter Tryz.func77,Tryz.ntmps77
 go_wp2_with fail
 go_loopw [5,13] (fun oo io wr=>∃ (k:Nat) (out:Value),out=oo∧io=.int .i64 k∧k≤l.length∧wr.ownsRow w.heap.size 3 1 out (numsW (l.take k)).length ((numsW (l.take k)).map (Value.int .i64))∧TPa w0 pb tv params pl (numsE e (l.take k)) bv bl wr∧Turn (fun q=>q=pb) w wr) (fun _ io _=>l.length-(intOf io).toNat)
 case atStart =>
  refine⟨0,_,rfl,rfl,Nat.zero_le _,?_,?_,(Turn.refl _ _).alloc _⟩
  ·exact own_new (fun x:Int=>[Value.int .i64 x]) 1 3 w [] 0 (fun _=>rfl) rfl (by decide) _ rfl
  ·rw[List.take_zero,numsE_nil];exact H.out.keep ((Since.refl _).alloc _)
 case round =>
  obtain⟨k,out,rfl,rfl,hk,ho,hp,ht⟩:=hrel
  by_cases hlt:k<l.length
  ·obtain⟨b,off,x,rfl,hb,hx,hc,hxs⟩:=StrsIn.at (HL.out wr ht) hlt
   obtain⟨nv,hnv⟩:∃ n,numW x=n:=⟨_,rfl⟩
   obtain⟨ok,hok⟩:∃ b,isNum x=b:=⟨_,rfl⟩
   have hpar:Calls Tryz.prog 102 #[.string x] wr fun e w'=>e=.returned (.tuple #[.int .i32 (numW x),.bool (isNum x)])∧Since wr w':=wparse_any x wr (by omega) (HLT.out.keep hp.old).s
   rw[hnv,hok]at hpar
   have hn1:=(numW_32 x).1
   have hn2:=(numW_32 x).2
   rw[hnv]at hn1 hn2
   have hfe:=numsE_next e hx
   rw[hok]at hfe
   have hnw:=numsW_next hx
   rw[hnv]at hnw
   have HFE:=Lib.hid hfe
   have HNW:=Lib.hid hnw
   have HPAR:=Lib.hid hpar
   have HP:=Lib.hid hp
   have HO:=Lib.hid ho
   have HT:=Lib.hid ht
   have hpbl:=H.out.box.lt
   have HPB:=Lib.hid hpbl
   clear hfe hnw hpar hp ho ht hpbl hnv hok hx hxs
   go_wp2_with fail
   refine HPAR.out.mono ?_
   rintro e2 w2 ⟨rfl,hs2⟩
   have HP2:=Lib.hid (HP.out.keep hs2)
   have HS2:=Lib.hid hs2
   clear hs2 hc hb
   go_wp2_with fail
   refine (must_any w2 HP2.out ok 71 (by decide)).mono ?_
   rintro e3 w3 ⟨rfl,hp3,ht3⟩
   rw[HFE.out]at hp3
   have ho3:=own_turn (own_keep HO.out HS2.out) ht3 fun q hq hr=>by have:=(World.ownsRow.lt HO.out q hq).1;have:=HPB.out;omega
   have HB3:=Lib.hid (hp3.box.keep ((Since.refl w3).alloc (.cells #[.int .i64 nv] 3)))
   have HO3:=Lib.hid (own_keep ho3 ((Since.refl w3).alloc (.cells #[.int .i64 nv] 3)))
   have HT3:=Lib.hid ((HT.out.later (Turn.since (S:=fun q=>q=pb) HS2.out) (fun _ h=>.inl h)).trans ht3 |>.alloc (.cells #[.int .i64 nv] 3))
   have HNN:=Lib.hid (nums_new (k:=.i64) (w:=w3.alloc (.cells #[.int .i64 nv] 3)) (b:=w3.heap.size) [nv] 3 1 (by simp) (by decide) (cs:=[.int .i64 nv]) (heap_last w3 _) (fun j n hj=>by match j,hj with | 0,hj=>simp at hj;subst hj;rfl))
   have HW3:=Lib.hid (show w.heap.size≤(w3.alloc (.cells #[.int .i64 nv] 3)).heap.size from HT3.out.size)
   have HLEN:=Lib.hid (show (numsW (l.take k)).length + [nv].length≤1000000 from by unfold numsW;simp only[List.length_map,List.length_take,List.length_cons,List.length_nil];omega)
   clear hp3 ht3 ho3 HP HP2 HO HPAR
   go_wp2_with (at_builtin;refine wpList_append_nums2 .i64 rfl _ _ 32 rfl 3 (.int .i64 0) 8 Tryz.underlying32 Tryz.infoInt rfl (by decide) _ _ (numsW (l.take k)) [nv] rfl rfl HO3.out HNN.out HLEN.out HW3.out ?_;intro v2 w4 ho4 ht4 hn4;have HO4:=Lib.hid ho4;have HT4:=Lib.hid ht4;clear ho4 ht4 hn4)
   have hlow:∀ q,out.ownBlock=some q→w.heap.size≤q:=fun q hq=>(World.ownsRow.lt HO3.out q hq).1
   have HB4:=Lib.hid (HB3.out.turn HT4.out fun hq=>by have:=hlow pb hq;have:=HPB.out;omega)
   have HT5:=Lib.hid (HT3.out.later HT4.out fun q hq=>.inr (hlow q hq))
   have HP5:=Lib.hid (H.out.reBox HT5.out HB4.out)
   rw[←HNW.out]at HO4
   clear hlow
   go_roundw
   case rel=>exact⟨k+1,_,rfl,by go_num,by omega,HO4.out,HP5.out,HT5.out⟩
   case measure=>simp[intOf];omega
  ·obtain rfl:l.length=k:=by omega
   rw[List.take_length]at ho hp
   have HP:=Lib.hid hp
   have HO:=Lib.hid ho
   have HT:=Lib.hid ht
   clear hp ho ht
   go_wp2
   go_ret
   exact⟨_,rfl,HO.out,HP.out,HT.out⟩
end
set_option maxHeartbeats 2000000 in
set_option maxRecDepth 100000 in
theorem last_any (w:World) {pb bb m bc:Nat} (c1:w.cell? ⟨pb,1,none⟩=some (.slice (some ⟨bb,0,none⟩) (m+1) bc)) (hl:pb<w.heap.size) (hm:m≤1000000):Calls Tryz.prog 106 #[.pointer (some ⟨pb,0,none⟩)] w fun e w'=>e=.returned (.pointer (some ⟨bb,m*6,none⟩))∧Since w w':=by
 go_enter Tryz.func106,Tryz.ntmps106
 go_wp2_with fail
 refine wp_region_since_tail 13 rfl (by decide +kernel) (by decide +kernel) (by decide +kernel) (by decide)
  [Is (.pointer (some ⟨pb,0,none⟩)),Is (.pointer (some ⟨pb,0,none⟩)),Is (.pointer (some ⟨pb,0,none⟩)),Is (.pointer (some ⟨pb,1,none⟩)),Is (.slice (some ⟨bb,0,none⟩) (m+1) bc),Is (.pointer (some ⟨pb,0,none⟩)),Is (.pointer (some ⟨pb,0,none⟩)),Is (.pointer (some ⟨pb,0,none⟩)),Is (.pointer (some ⟨pb,1,none⟩)),Is (.slice (some ⟨bb,0,none⟩) (m+1) bc),Is (.int .i64 ((m+1:Nat):Int)),Is (.int .i64 m),Is (.pointer (some ⟨bb,m*6,none⟩))]
  (by repeat (first | exact trivial | refine⟨Is.stable _,?_⟩ | refine⟨Any.stable,?_⟩)) ⟨?_,?_,?_,?_,?_,?_,?_,?_,?_,?_,?_,?_,?_,trivial⟩ ?_
 rotate_right
 ·intro vs w8 hs hk
  simp only[List.take,List.drop,putAll,Act.put,KnowsAll,nthF,Is,List.setIfInBounds_toArray,List.set_cons_zero,List.set_cons_succ,Nat.reduceAdd]at hk ⊢
  try simp only[hk]
  go_wp2
  go_ret
  exact⟨rfl,hs⟩
 all_goals
  intro vs w8 hs hk _
  simp only[List.take,putAll,Act.put,Knows,nthF,Is,List.setIfInBounds_toArray,List.set_cons_zero,List.set_cons_succ,Nat.reduceAdd]at hk ⊢
  try simp only[hk]
 ·go_wp2
  exact⟨_,rfl,rfl,Since.refl _⟩
 ·go_wp2
  exact⟨_,rfl,rfl,Since.refl _⟩
 ·go_wp2
  exact⟨_,rfl,rfl,Since.refl _⟩
 ·go_wp2
  exact⟨_,rfl,rfl,Since.refl _⟩
 ·have k1:=(hs.cell (p:=⟨pb,1,none⟩) hl).trans c1
  have k2:=Nat.lt_of_lt_of_le hl hs.size
  go_wp2
  exact⟨_,rfl,rfl,Since.refl _⟩
 ·go_wp2
  exact⟨_,rfl,rfl,Since.refl _⟩
 ·go_wp2
  exact⟨_,rfl,rfl,Since.refl _⟩
 ·go_wp2
  exact⟨_,rfl,rfl,Since.refl _⟩
 ·go_wp2
  exact⟨_,rfl,rfl,Since.refl _⟩
 ·have k1:=(hs.cell (p:=⟨pb,1,none⟩) hl).trans c1
  have k2:=Nat.lt_of_lt_of_le hl hs.size
  go_wp2
  exact⟨_,rfl,rfl,Since.refl _⟩
 ·go_wp2
  exact⟨_,rfl,rfl,Since.refl _⟩
 ·go_wp2
  exact⟨_,rfl,rfl,Since.refl _⟩
 ·go_wp2
  exact⟨_,rfl,rfl,Since.refl _⟩
def oddW (x:ByteArray):Bool:=((colons x:Nat):Int) != 1
set_option maxHeartbeats 400000 in
set_option maxRecDepth 100000 in
theorem odd_any (s:ByteArray) (w:World) (hs:s.size≤1000000):Calls Tryz.prog 103 #[.string s] w fun e w'=>e=.returned (.bool (oddW s))∧w'=w:=by
 have HC:=Lib.hid (Tryz.strings_Count_one s 58 w)
 go_enter Tryz.func103,Tryz.ntmps103
 go_wp2_with fail
 refine HC.out.mono ?_
 rintro e w1 ⟨rfl,rfl⟩
 go_wp2
 go_ret
 exact⟨rfl,rfl⟩
def OddAt (l:List ByteArray) (w:World) (e:Ending) (w':World):Prop:=∃ r:Int,e=.returned (.int .i64 r)∧decide (r≥0)=l.any oddW∧w'=w
set_option maxHeartbeats 1000000 in
set_option maxRecDepth 100000 in
theorem oddIndex_any (v:Value) (l:List ByteArray) (w:World) (h:StrsIn w v l) (hn:l.length≤1000000):Calls Tryz.prog 123 #[v,.func (.func 103) #[] #[]] w (OddAt l w):=by
 obtain⟨a,c,e1,_⟩:=RowIn.shape h
 obtain rfl:v=.slice a l.length c:=e1
 have HL:=Lib.hid h
 clear h
 go_enter Tryz.func123,Tryz.ntmps123
 go_wp2_with fail
 go_loop [8] (fun i=>∃ k:Nat,k≤l.length∧i=.int .i64 k∧(l.take k).any oddW=false) (fun i=>l.length-(intOf i).toNat)
 case atStart=>exact⟨0,Nat.zero_le _,rfl,rfl⟩
 case round =>
  obtain⟨k,hk,rfl,hno⟩:=hrel
  by_cases hlt:k<l.length
  ·obtain⟨b,off,x,rfl,hb,hx,hc,hxs⟩:=StrsIn.at HL.out hlt
   have HNX:=Lib.hid (show (l.take (k+1)).any oddW=oddW x from by rw[List.take_add_one,hx];simp[hno])
   have HXI:=Lib.hid (List.mem_of_getElem? hx)
   obtain⟨o,ho⟩:∃ o,oddW x=o:=⟨_,rfl⟩
   have hod:=odd_any x w hxs
   rw[ho]at hod
   have HOD:=Lib.hid hod
   have HO:=Lib.hid ho
   clear hx hxs hno ho hod
   cases o with
   | true =>
    go_wp2_with fail
    refine HOD.out.mono ?_
    rintro e w1 ⟨rfl,rfl⟩
    go_wp2
    go_ret
    exact⟨k,rfl,by rw[List.any_eq_true.2 ⟨x,HXI.out,HO.out⟩];simp,rfl⟩
   | false =>
    go_wp2_with fail
    refine HOD.out.mono ?_
    rintro e w1 ⟨rfl,rfl⟩
    go_wp2
    go_round
    case rel=>exact⟨k+1,by omega,by go_num,by rw[HNX.out,HO.out]⟩
    case measure=>simp[intOf];omega
  ·obtain rfl:l.length=k:=by omega
   rw[List.take_length]at hno
   have HNO:=Lib.hid hno
   clear hno
   go_wp2
   go_ret
   exact⟨-1,rfl,by rw[HNO.out];rfl,rfl⟩
set_option maxHeartbeats 400000 in
set_option maxRecDepth 100000 in
theorem odds_any (v:Value) (l:List ByteArray) (w:World) (h:StrsIn w v l) (hn:l.length≤1000000):Calls Tryz.prog 105 #[v,.func (.func 103) #[] #[]] w fun e w'=>e=.returned (.bool (l.any oddW))∧w'=w:=by
 have HC:=Lib.hid (oddIndex_any v l w h hn)
 clear h
 go_enter Tryz.func105,Tryz.ntmps105
 go_wp2_with fail
 refine HC.out.mono ?_
 rintro e w1 ⟨r,rfl,hr,rfl⟩
 have HR:=Lib.hid hr
 clear hr
 go_wp2
 go_ret
 exact⟨by rw[←HR.out];rfl,rfl⟩
end Go.Proofs.YtmhojfpidedjeaaGreatDoor
