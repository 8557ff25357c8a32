/- The document's line: the walk. The program's phi: the walk. Laws of runs over a map of integer keys whose entries are written out: an update of a new block, and a look-up; over any program. -/
import Derived.Test.YtmhojfpidedjeaaGreatDoorTq02
import Derived.Test.YtmhojfpidedjeaaGreatDoorTq07
import Derived.Test.YtmhojfpidedjeaaGreatDoorTq15
import Derived.WalkKit
namespace Go.Proofs.YtmhojfpidedjeaaGreatDoor
open Go.RowKit
set_option linter.unusedVariables false
def StAns (r:Except Int PSt) (e params pl:Int) (bl:List FBlk):Prop:=match r with
 | .error n=>e=n∧n≠0
 | .ok s=>e=0∧s=⟨params,bl.map FBlk.d,pl⟩
theorem RowIn.rest {α:Type} {f : α→List Value} {sz:Nat} {p : World→α→Prop} {w : World} {b off n c:Nat} {x : α} {l : List α} (h:RowIn f sz p w (.slice (some ⟨b,off,none⟩) n c) (x::l)):RowIn f sz p w (.slice (some ⟨b,off+sz,none⟩) (n-1) (c-1)) l:=by
 rcases h with ⟨_,_,h2⟩|⟨b',off',cap,h1,h2,h3,h4,h5⟩
 ·cases h2
 ·cases h1
  refine .inr ⟨b,off+sz,_,rfl,by rw[List.length_cons]at h2;omega,by omega,h4,fun j y hj=>?_⟩
  obtain⟨h6,h7⟩:=h5 (j+1) y (by simpa using hj)
  exact⟨fun t ht=>by rw[←h6 t ht];congr 2;rw[Nat.succ_mul];omega,h7⟩
theorem wFunc_list:wFunc.toList=[102,117,110,99]:=by kernel_rfl
theorem wBlock_list:wBlock.toList=[98,108,111,99,107]:=by kernel_rfl
theorem wPhi_list:wPhi.toList=[112,104,105]:=by kernel_rfl
theorem not_func {f : ByteArray} (h:¬ f=wFunc):(f.toList==[102,117,110,99])=false:=by have:=(Lib.bytes_beq_false_iff f wFunc).2 h;rwa [wFunc_list]at this
theorem not_block {f : ByteArray} (h:¬ f=wBlock):(f.toList==[98,108,111,99,107])=false:=by have:=(Lib.bytes_beq_false_iff f wBlock).2 h;rwa [wBlock_list]at this
theorem not_phi {f : ByteArray} (h:¬ f=wPhi):(f.toList==[112,104,105])=false:=by have:=(Lib.bytes_beq_false_iff f wPhi).2 h;rwa [wPhi_list]at this
theorem is_func {f : ByteArray} (h:f=wFunc):(f.toList==[102,117,110,99])=true:=by have:=(Lib.bytes_beq_iff f wFunc).2 h;rwa [wFunc_list]at this
theorem is_block {f : ByteArray} (h:f=wBlock):(f.toList==[98,108,111,99,107])=true:=by have:=(Lib.bytes_beq_iff f wBlock).2 h;rwa [wBlock_list]at this
theorem is_phi {f : ByteArray} (h:f=wPhi):(f.toList==[112,104,105])=true:=by have:=(Lib.bytes_beq_iff f wPhi).2 h;rwa [wPhi_list]at this
theorem insSt_pl {s t:PSt} {op:Int} {l : List ByteArray} (h:insSt s op l=.ok t):t.pl=3:=by
 unfold insSt at h
 split at h
 ·split at h
  ·cases h;rfl
  ·cases h
 ·cases h
theorem termSt_pl {s t:PSt} {k : Int} {l : List ByteArray} (h:termSt s k l=.ok t):t.pl=1:=by
 unfold termSt at h
 split at h
 ·split at h
  ·cases h;rfl
  ·cases h
 ·cases h
theorem st_ans {r : Except Int PSt} {e params pl:Int} {bl:List FBlk} (hpl:∀ s,r=.ok s→s.pl=pl) (h:PaAns r e params bl):StAns r e params pl bl:=by
 cases r with
 | error n=>exact h
 | ok s=>obtain⟨h1,h2,h3⟩:=h;exact⟨h1,by obtain⟨a,b,c⟩:=s;have:=hpl _ rfl;simp at h2 h3 this;rw[h2,h3,this]⟩
theorem step_func {s : PSt} {f : ByteArray} {r : List ByteArray} (h:f=wFunc):stepSt s (f::r)=if s.pl=0∧r.length=1 then (if areNums r then .ok ⟨(numsW r).getD 0 0,s.blocks,1⟩ else .error 71) else .error 70:=if_pos h
theorem step_block {s : PSt} {f : ByteArray} {r : List ByteArray} (h1:¬ f=wFunc) (h:f=wBlock):stepSt s (f::r)=if s.pl=1∧r.length=1 then (if areNums r then (if (numsW r).getD 0 0=s.blocks.length then .ok ⟨s.params,s.blocks++[zeroBlk],2⟩ else .error 70) else .error 71) else .error 70:=(if_neg h1).trans (if_pos h)
theorem number_le (s:ByteArray):0≤numberF s∧numberF s≤18:=by
 have:=idx_bounds s
 unfold numberF;omega
theorem idx_all (l:List ByteArray) (s:ByteArray) : -1≤Lib.idxOfS l s∧Lib.idxOfS l s<l.length∨l.length=0:=by
 by_cases h0:l.length=0
 ·exact .inr h0
 refine .inl ?_
 by_cases h:∃ k,k<l.length∧l.getD k ByteArray.empty=s∧∀ j,j<k→l.getD j ByteArray.empty≠s
 ·obtain⟨k,h1,h2,h3⟩:=h
  have:=Lib.idxFromS_hit s l k 0 h1 h2 h3
  unfold Lib.idxOfS
  omega
 ·have hne:∀ k,k<l.length→l.getD k ByteArray.empty≠s:=by
   intro k
   induction k using Nat.strongRecOn with
   | _ k ih=>exact fun hk he=>h ⟨k,hk,he,fun j hj=>ih j hj (by omega)⟩
  have:=Lib.idxOfS_miss l l.length s hne
  rw[List.take_length]at this
  omega
theorem kind_le (s:ByteArray):0≤kindF s∧kindF s≤5:=by
 have h:=idx_all termNames s
 have h5:termNames.length=5:=rfl
 rw[h5]at h
 unfold kindF;omega
section
variable {w0:World} {pb:Nat} {params pl:Int} {bv:Value} {bl:List FBlk}
theorem phiSt_pl {s t:PSt} {l : List ByteArray} (h:phiSt s l=.ok t):t.pl=s.pl:=by
 unfold phiSt at h
 split at h
 ·cases h
 ·split at h
  ·split at h
   ·cases h;rfl
   ·cases h
  ·cases h
end
def PhiTQ (w0:World) (pb:Nat) (tv:Value) (params pl:Int) (bv:Value) (bl:List FBlk) (l:List ByteArray) (w:World) (x:Ending) (w':World):Prop:=
 x=.returned (.tuple #[])∧∃ e' bl',TPa w0 pb tv params pl e' bv bl' w'∧Turn (PaOwn pb bv bl) w w'∧PaAns (phiSt ⟨params,bl.map FBlk.d,pl⟩ l) e' params bl'
theorem odd_all:∀ r:List ByteArray,r.any oddW = !(r.all (fun w=>colons w==1))
 | []=>rfl
 | x::r=>by
  have h:oddW x = !(colons x==1):=by
   unfold oddW
   by_cases hc:colons x=1
   ·rw[hc];rfl
   ·have h2:((colons x:Nat):Int)≠1:=by omega
    rw[bne_iff_ne.2 h2,beq_eq_false_iff_ne.2 hc];rfl
  rw[List.any_cons,List.all_cons,odd_all r,h,Bool.not_and]
theorem phi_odd {d : ByteArray} {r : List ByteArray} (s:PSt) (h:r.any oddW=true):phiSt s (d::r)=.error 70:=by
 rw[odd_all]at h
 show (if r.all (fun w=>colons w==1)=true then _ else _)=_
 rw[if_neg (by simpa using h)]
theorem phi_even {d : ByteArray} {r : List ByteArray} (s:PSt) (h:r.any oddW=false):phiSt s (d::r)=if isNum d&&r.all isPair then .ok ⟨s.params,onLast s (fun b=>⟨b.phis++[⟨numW d,r.map pairW⟩],b.ins,b.term⟩),s.pl⟩ else .error 71:=by
 rw[odd_all]at h
 have h2:r.all (fun w=>colons w==1)=true:=by simpa using h
 show (if r.all (fun w=>colons w==1)=true then _ else _)=_
 rw[if_pos h2]
theorem strs_one (w : World) (d : ByteArray) (T : TypeId) (h1 : d.size ≤ 1000000) : StrsIn (w.alloc (.cells #[.string d] T)) (.slice (some ⟨w.heap.size, 0, none⟩) 1 1) [d] := by
  have hb : HeapIs (w.alloc (.cells #[.string d] T)) w.heap.size #[.string d] T := HeapIs.new _ _ _
  refine .inr ⟨w.heap.size, 0, 1, rfl, Nat.le_refl _, by decide, hb.lt, fun j y hj => ?_⟩
  match j, hj with
  | 0, hj => obtain rfl : d = y := by simpa using hj
             exact ⟨fun t ht => by obtain rfl : t = 0 := by omega
                                   exact hb.cell 0, h1⟩
  | j + 1, hj => simp at hj
def CutTQ (s:ByteArray) (w:World) (e:Ending) (w':World):Prop:=∃ ok,e=.returned (.tuple #[.string (front s),.string (behind s),.bool ok])∧Since w w'
theorem drew_since (w:World) (k:Nat):Since w (w.drewN k):=⟨rfl,rfl,rfl,by simp[World.drewN],fun i hi=>by simp[World.drewN]⟩
theorem cut_any (s:ByteArray) (w:World) (hs:s.size≤1000000) (hL:LaidT w):Calls Tryz.prog 68 #[.string s,.string ⟨#[58]⟩] w (CutTQ s w):=by
 obtain⟨m,hm⟩:=hL.mx
 refine (Tryz.strings_Cut s ⟨#[58]⟩ m w (by omega) hm).mono ?_
 rintro e w' ⟨rfl,k,rfl⟩
 have h:=cut_ahead 58 s.data.toList
 refine⟨(Lib.cut s.data.toList [58]).2.2,?_,drew_since w k⟩
 have e1:(⟨(Lib.cut s.data.toList [58]).1.toArray⟩:ByteArray)=front s:=by unfold front;rw[h.1]
 have e2:(⟨(Lib.cut s.data.toList [58]).2.1.toArray⟩:ByteArray)=behind s:=by unfold behind;rw[h.2]
 rw[←e1,←e2]
section
variable {w0:World} {pb:Nat} {tv:Value} {params pl:Int} {bv:Value} {bl:List FBlk}
set_option maxHeartbeats 4000000 in
set_option maxRecDepth 100000 in
theorem phi_nil (w:World) (h:TPa w0 pb tv params pl 0 bv bl w) (a:Option Addr) (c:Nat):Calls Tryz.prog 78 #[.pointer (some ⟨pb,0,none⟩),.slice a 0 c] w (PhiTQ w0 pb tv params pl bv bl [] w):=by
 have H:=Lib.hid h
 clear h
 go_enter Tryz.func78,Tryz.ntmps78
 go_wp2_with fail
 refine (must_any w H.out _ 70 (by decide)).mono ?_
 rintro e1 w1 ⟨rfl,hp,ht⟩
 have HP:=Lib.hid hp
 have HT:=Lib.hid ht
 clear hp ht
 go_wp2
 go_end0
 exact⟨rfl,70,bl,HP.out,HT.out.mono (fun q _ hq=>.inl hq),rfl,by decide⟩
set_option maxHeartbeats 8000000 in
set_option maxRecDepth 100000 in
theorem phi_cons (w:World) (h:TPa w0 pb tv params pl 0 bv bl w) (hL:LaidT w0) (v:Value) (d:ByteArray) (r:List ByteArray) (hl:StrsIn w v (d::r)) (hst:Stays (PaOwn pb bv bl) w v) (hn:r.length≤400000) (b:FBlk) (hb:bl[bl.length-1]? = some b) (hb1:bl.length≤1000000) (hb2:b.phis.length≤1000000):Calls Tryz.prog 78 #[.pointer (some ⟨pb,0,none⟩),v] w (PhiTQ w0 pb tv params pl bv bl (d::r) w):=by
 obtain⟨a,c,e1,_⟩:=RowIn.shape hl
 obtain⟨n,hnn⟩:∃ n,r.length=n:=⟨_,rfl⟩
 rw[List.length_cons,hnn]at e1
 subst e1
 obtain⟨vb,vo,x0,ha,hvb,hx0,hc0,hds⟩:=StrsIn.at hl (k:=0) (by simp)
 obtain rfl:d=x0:=by simpa using hx0
 subst ha
 rw[Nat.add_zero]at hc0
 have hcap:n+1≤c:=by
  rcases hl with ⟨_,_,h2⟩|⟨_,_,_,h1,h2,_⟩
  ·cases h2
  ·cases h1;rw[List.length_cons,hnn]at h2;exact h2
 obtain⟨ra,hra⟩:∃ ra,(if c=1 then some (⟨vb,vo,none⟩:Addr) else some ⟨vb,vo+1,none⟩)=ra:=⟨_,rfl⟩
 have hrb:∀ q,(Value.slice ra n (c-1)).ownBlock=some q→q=vb:=fun q hq=>by
  rw[←hra]at hq
  by_cases h1:c=1
  ·rw[if_pos h1]at hq;cases hq;rfl
  ·rw[if_neg h1]at hq;cases hq;rfl
 have hrow:StrsIn w (.slice ra n (c-1)) r:=by
  rw[←hra]
  by_cases h1:c=1
  ·rw[if_pos h1]
   have:n=0:=by omega
   subst this
   subst h1
   exact .inl ⟨_,rfl,List.length_eq_zero_iff.1 hnn⟩
  ·rw[if_neg h1]
   exact RowIn.rest hl
 have hmin:min ((n:Int)+1) 1=1:=by omega
 have HRB:=Lib.hid hrb
 have HLW:=Lib.hid hrow
 have H:=Lib.hid h
 have HL:=Lib.hid (fun (S:Nat→Prop) w' (hS:∀ q,S q→PaOwn pb bv bl q∨w.heap.size≤q) (t:Turn S w w')=>(RowIn.turn hrow t (fun q hq hr=>by have:=hrb q hq;subst this;rcases hS _ hr with h1 | h1;exact (hst _ rfl).1 h1;omega) (fun _ _ h=>h):StrsIn w' _ r))
 have HST:=Lib.hid hst
 have HB:=Lib.hid hb
 have HNN:=Lib.hid hnn
 have HLT0:=Lib.hid hL
 have HVB:=Lib.hid hvb
 have HDS:=Lib.hid hds
 have hnpos:0<n+1:=Nat.succ_pos n
 rw[hnn]at hn
 clear h hl hst hb hnn hL hds hx0 hrb hrow
 obtain⟨o,ho⟩:∃ o,r.any oddW=o:=⟨_,rfl⟩
 have hodd:=odds_any (.slice ra n (c-1)) r w HLW.out (by rw[HNN.out];omega)
 rw[ho]at hodd
 have HODD:=Lib.hid hodd
 have HO:=Lib.hid ho
 clear hodd ho
 go_enter Tryz.func78,Tryz.ntmps78
 go_wp2_with fail
 refine HODD.out.mono ?_
 rintro e1 w1 ⟨rfl,hw1⟩
 obtain rfl:w=w1:=hw1.symm
 cases o with
 | true =>
  go_wp2_with fail
  refine (must_any _ H.out _ 70 (by decide)).mono ?_
  rintro e1 w1 ⟨rfl,hp,ht⟩
  have HP:=Lib.hid hp
  have HT:=Lib.hid ht
  have HBD:=Lib.hid (phi_odd (d:=d) ⟨params,bl.map FBlk.d,pl⟩ HO.out)
  clear hp ht
  go_wp2
  go_end0
  exact⟨rfl,70,bl,HP.out,HT.out.mono (fun q _ hq=>.inl hq),by rw[HBD.out];exact⟨rfl,by decide⟩⟩
 | false =>
  go_wp2_with fail
  refine (must_any _ H.out _ 70 (by decide)).mono ?_
  rintro e1 w1 ⟨rfl,hp,ht⟩
  have hp:TPa w0 pb tv params pl 0 bv bl w1:=hp
  have HP:=Lib.hid hp
  have HT:=Lib.hid ht
  have HGD:=Lib.hid (phi_even (d:=d) ⟨params,bl.map FBlk.d,pl⟩ HO.out)
  have hc1:w1.cell? ⟨vb,vo,none⟩=some (.string d):=(ht.cell hvb (fun e=>(HST.out vb rfl).1 (.inl e))).trans hc0
  have hvb1:=Nat.lt_of_lt_of_le hvb ht.size
  clear hp ht hc0 hvb
  go_wp2_with fail
  have hal:=(Since.refl w1).alloc (.cells #[.string d] 9)
  have hst6:Stays (fun q=>q=pb) (w1.alloc (.cells #[.string d] 9)) (.slice (some ⟨w1.heap.size,0,none⟩) 1 1):=fun q hq=>by cases hq;exact⟨fun e=>by have:=HP.out.box.lt;have e2:w1.heap.size=pb:=e;omega,(HeapIs.new w1 _ _).lt⟩
  refine (nums_any _ (HP.out.keep hal) HLT0.out _ [d] (strs_one w1 d _ HDS.out) hst6 (by simp)).mono ?_
  rintro e4 w4 ⟨rv,rfl,hrow,hp4,ht4⟩
  rw[phiN_zero d r]at hp4
  obtain⟨g4,c4,rfl,hg1,hg2,hg3,hg4,hg5⟩:=own_one (show w4.ownsRow _ _ 1 _ 1 [.int .i64 (numW d)] from hrow)
  obtain⟨dn,hdn⟩:∃ dn,numW d=dn:=⟨_,rfl⟩
  rw[hdn]at hg5
  have HDN:=Lib.hid hdn
  have HP4:=Lib.hid hp4
  have HT4:=Lib.hid ((HT.out.alloc (.cells #[.string d] 9)).trans ht4)
  clear hrow hp4 ht4 hdn hg3 hc1 hvb1 hal hst6
  go_wp2_with fail
  obtain⟨xb,hxb⟩:∃ xb,w4.heap.size=xb:=⟨_,rfl⟩
  have HXB:=Lib.hid hxb
  have hbox:HeapIs (w4.alloc (.cells #[.int .i64 dn,.slice none 0 0] 60)) xb #[.int .i64 dn,.slice none 0 0] 60:=by rw[←hxb];exact HeapIs.new _ _ _
  have HBOX:=Lib.hid hbox
  have hal:w.heap.size≤xb:=by rw[←hxb];exact HT4.out.size
  have HAL:=Lib.hid hal
  rw[hxb]
  clear hbox hxb hg5 hg4 hal
  go_loopw [40] (fun io w9=>∃ (k:Nat) (inv:Value),io=.int .i64 k∧k≤n∧HeapIs w9 xb #[.int .i64 dn,inv] 60∧OwnRow prcells 2 71 w.heap.size w9 inv ((r.take k).map pairW)∧TPa w0 pb tv params pl (phiN d r k) bv bl w9∧Turn (fun q=>q=pb) w w9) (fun io _=>n-(intOf io).toNat)
  case atStart=>exact⟨0,_,rfl,by omega,HBOX.out,OwnRow.nil _ _ _ _ _,HP4.out.keep ((Since.refl _).alloc _),HT4.out.alloc _⟩
  case round =>
   obtain⟨k,inv,rfl,hk,hx9,ho9,hp9,ht9⟩:=hrel
   obtain⟨ia,ic,hiv⟩:=own_shape ho9
   obtain⟨ps,hps⟩:∃ ps,(r.take k).map pairW=ps:=⟨_,rfl⟩
   rw[hps]at ho9 hiv
   obtain⟨il,hil⟩:∃ il,ps.length=il:=⟨_,rfl⟩
   have HPS:=Lib.hid hps
   rw[hil]at hiv
   subst hiv
   have hil2:il≤400000:=by rw[←hil,←hps,List.length_map,List.length_take];omega
   clear hps
   have HIL:=Lib.hid hil
   have HX9:=Lib.hid hx9
   have HO9:=Lib.hid ho9
   have HP9:=Lib.hid hp9
   have HT9:=Lib.hid ht9
   clear hil hx9 ho9 hp9 ht9
   by_cases hlt:k<n
   ·obtain⟨bx,off,x,e9,hbx,hx,hc,hxs⟩:=StrsIn.at (HL.out _ wr (fun q hq=>.inl (.inl hq)) HT9.out) (by rw[HNN.out];exact hlt)
    subst e9
    have HXX:=Lib.hid hx
    have HCUT:=Lib.hid (cut_any x wr hxs (HLT0.out.keep HP9.out.old))
    have HSZ:=Lib.hid hxs
    clear hx hxs
    go_wp2_with fail
    refine HCUT.out.mono ?_
    rintro e5 w5 ⟨cok,rfl,hs5⟩
    have HS5:=Lib.hid hs5
    clear hs5 hc hbx
    obtain⟨fx,hfx⟩:∃ fx,front x=fx:=⟨_,rfl⟩
    obtain⟨gx,hgx⟩:∃ gx,behind x=gx:=⟨_,rfl⟩
    have h1:=frontB_len x
    have h2:=behindB_len x
    have HF2:=Lib.hid (show fx.size≤1000000∧gx.size≤1000000 from by have:=HSZ.out;rw[←hfx,←hgx];omega)
    rw[hfx,hgx]
    have HFX:=Lib.hid hfx
    have HGX:=Lib.hid hgx
    clear h1 h2 hfx hgx
    go_wp2_with fail
    have HS6:=Lib.hid (HS5.out.alloc (.cells #[.string fx,.string gx] 9))
    have HP6:=Lib.hid (HP9.out.keep HS6.out)
    have hpl5:pb<w5.heap.size:=Nat.lt_of_lt_of_le HP9.out.box.lt HS5.out.size
    have hst6:Stays (fun q=>q=pb) (w5.alloc (.cells #[.string fx,.string gx] 9)) (.slice (some ⟨w5.heap.size,0,none⟩) 2 2):=fun q hq=>by cases hq;exact⟨fun e=>by have e2:w5.heap.size=pb:=e;omega,(HeapIs.new w5 _ _).lt⟩
    refine (nums_any _ HP6.out HLT0.out _ [fx,gx] (strs_two w5 fx gx _ HF2.out.1 HF2.out.2) hst6 (by simp)).mono ?_
    rintro e7 w7 ⟨rv,rfl,hrow,hp7,ht7⟩
    rw[←HFX.out,←HGX.out,phiN_next HXX.out]at hp7
    have hpw:pb<w.heap.size:=H.out.box.lt
    have hx7:=(HX9.out.keep HS6.out).turn ht7 (by have:=HAL.out;omega)
    have ho7:=own_turn (OwnRow.keep HO9.out HS6.out) ht7 (fun q hq hr=>by have:=(World.ownsRow.lt HO9.out q hq).1;omega)
    have HT7:=Lib.hid ((HT9.out.later (Turn.since (S:=fun q=>q=pb) HS6.out) (fun q hq=>.inl hq)).trans ht7)
    obtain⟨na,hna⟩:∃ na,numW fx=na:=⟨_,rfl⟩
    obtain⟨nv,hnv⟩:∃ nv,numW gx=nv:=⟨_,rfl⟩
    obtain⟨nb,nc,rfl,hnc1,hnc2,hnb,hnbl,hc0,hc1⟩:=own_two (show w7.ownsRow _ _ 1 _ 2 [.int .i64 (numW fx),.int .i64 (numW gx)] from hrow)
    rw[hna]at hc0
    rw[hnv]at hc1
    have HNP:=Lib.hid (show (numW (front x),numW (behind x))=(na,nv) from by rw[HFX.out,HGX.out,hna,hnv])
    have HP7:=Lib.hid hp7
    have HX7:=Lib.hid hx7
    have HO7:=Lib.hid ho7
    have hq5:w5.heap.size<(w5.alloc (.cells #[.string fx,.string gx] 9)).heap.size:=(HeapIs.new w5 _ _).lt
    have HIN:=Lib.hid (show ¬ (Value.slice ia il ic).ownBlock=some pb∧¬ (Value.slice ia il ic).ownBlock=some xb∧¬ (Value.slice ia il ic).ownBlock=some nb from
     ⟨fun e=>by have:=(World.ownsRow.lt HO9.out pb e).1;omega,own_not ho7 hx7 (by decide),fun e=>by have:=(World.ownsRow.lt HO9.out nb e).2;have:=HS5.out.size;omega⟩)
    have HC0:=Lib.hid hc0
    have HC1:=Lib.hid hc1
    have HNBL:=Lib.hid hnbl
    have HPW:=Lib.hid hpw
    clear hrow hp7 ht7 hx7 ho7 hna hnv hc0 hc1 hnb hnbl hq5 hpl5 hst6 hpw hnc2
    go_wp2_with fail
    refine wp_region_one 11 10 [10] [0,0,0,0,0,0,0,0,0,0,0] [0,0,0,0,0,0,0,0,0,0,0] [0,0,0,0,0,0,0,0,0,0,1] (fun q=>(Value.slice ia il ic).ownBlock=some q) (fun p w8=>p=0→Since w7 w8) rfl (by decide +kernel) (by decide +kernel) (by decide +kernel) (by decide) (by decide +kernel)
     [Is (.pointer (some ⟨xb,1,none⟩)),Is (.slice ia il ic),Is (.slice (some ⟨nb,0,none⟩) 2 nc),Is (.pointer (some ⟨nb,0,none⟩)),Is (.int .i64 na),Is (.slice (some ⟨nb,0,none⟩) 2 nc),Is (.pointer (some ⟨nb,1,none⟩)),Is (.int .i64 nv),Is (.agg #[.int .i64 na,.int .i64 nv]),OneOf prcells 71 (fun q=>(Value.slice ia il ic).ownBlock=some q) (na,nv),AppOf prcells 2 71 w7 (.slice ia il ic) (ps++[(na,nv)])]
     (by repeat (first | exact trivial | refine⟨fun h=>absurd rfl h,?_⟩ | refine⟨fun _=>Is.stableT _ _,?_⟩ | refine⟨fun _=>Any.stableT _,?_⟩ | refine⟨fun _=>OneOf.stableT _ _ _ _,?_⟩)) (by repeat (first | exact trivial | refine⟨Is.stable _,?_⟩ | refine⟨Any.stable,?_⟩ | refine⟨OneOf.stable _ _ _ _,?_⟩ | refine⟨AppOf.stable _ _ _ _ _ _,?_⟩)) (fun _=>(Since.refl w7).drew) ⟨?_,?_,?_,?_,?_,?_,?_,?_,?_,?_,?_,trivial⟩ ?_
    rotate_right
    ·intro vs w8 ht hph hk
     simp only[List.take,List.drop,putAll,Act.put,KnowsAll,nthF,Is,List.setIfInBounds_toArray,List.set_cons_zero,List.set_cons_succ,Nat.reduceAdd]at hk ⊢
     try simp only[hk]
     obtain⟨wa,hsa,hta,hnew,hown⟩:AppOf prcells 2 71 w7 (.slice ia il ic) (ps++[(na,nv)]) (vs 10) w8:=by exact hk.2.2.2.2.2.2.2.2.2.2.1
     generalize vs 10=nw at *
     have hx8:=HX7.out.turn ht HIN.out.2.1
     have hb8:=HP7.out.box.turn ht HIN.out.1
     have hxl:=hx8.lt
     have hxf:=hx8.frozen
     have k1:w8.cell? ⟨xb,1,none⟩=some (.slice ia il ic):=hx8.cell 1
     have hlow:∀ q,nw.ownBlock=some q→w.heap.size≤q:=fun q hq=>by
      rcases hnew q hq with h1|h1
      ·exact (World.ownsRow.lt HO9.out q h1).1
      ·have:=HT7.out.size;have:=hsa.size;omega
     obtain⟨ja,jc,hjv⟩:=own_shape hown
     rw[List.length_append,HIL.out]at hjv
     subst hjv
     have HT8:=Lib.hid (HT7.out.later ht (fun q hq=>.inr (World.ownsRow.lt HO9.out q hq).1))
     have HX8:=Lib.hid hx8
     have HB8:=Lib.hid hb8
     have HOWN:=Lib.hid hown
     have HLOW:=Lib.hid hlow
     clear hk hph ht hsa hta hnew hx8 hb8 hown hlow
     go_wp2
     go_roundw
     case rel =>
      have hx:=HX8.out.set 1 (.slice ja (il+1) jc)
      have ht10:=HT8.out.later ((Turn.refl (fun q=>q=xb) w8).setCell (p:=⟨xb,1,none⟩) rfl (.slice ja (il+1) jc)) (fun q hq=>.inr (by subst hq;exact HAL.out))
      have hb10:=HB8.out.turn ((Turn.refl (fun q=>q=xb) w8).setCell (p:=⟨xb,1,none⟩) rfl (.slice ja (il+1) jc)) (fun e=>by have:=HPW.out;have:=HAL.out;omega)
      have ho10:=own_turn HOWN.out ((Turn.refl (fun q=>q=xb) w8).setCell (p:=⟨xb,1,none⟩) rfl (.slice ja (il+1) jc)) (fun q hq hr=>by subst hr;exact own_not HOWN.out HX8.out (by decide) hq)
      refine⟨k+1,.slice ja (il+1) jc,by go_num,by omega,hx,?_,H.out.reBox ht10 hb10,ht10⟩
      have e1:(r.take (k+1)).map pairW=ps++[(na,nv)]:=by
       have:=pairs_next HXX.out
       rw[HPS.out,HNP.out]at this
       exact this
      rw[e1]
      exact own_up ho10 HLOW.out
     case measure=>simp[intOf];omega
    all_goals
     intro p vs w8 hlo hhi ht hph hk
     simp only[List.take,putAll,Act.put,Knows,nthF,Is,List.setIfInBounds_toArray,List.set_cons_zero,List.set_cons_succ,Nat.reduceAdd]at hk ⊢
     try simp only[hk]
    ·go_wp2
     exact⟨_,rfl,rfl,Since.refl _,hph⟩
    ·have hx8:=HX7.out.turn ht HIN.out.2.1
     have k1:w8.cell? ⟨xb,1,none⟩=some (.slice ia il ic):=hx8.cell 1
     have k2:=hx8.lt
     go_wp2
     exact⟨_,rfl,rfl,Since.refl _,hph⟩
    ·go_wp2
     exact⟨_,rfl,rfl,Since.refl _,hph⟩
    ·go_wp2
     exact⟨_,rfl,rfl,Since.refl _,hph⟩
    ·have k1:w8.cell? ⟨nb,0,none⟩=some (.int .i64 na):=(ht.cell HNBL.out HIN.out.2.2).trans HC0.out
     have k2:nb<w8.heap.size:=Nat.lt_of_lt_of_le HNBL.out ht.size
     go_wp2
     exact⟨_,rfl,rfl,Since.refl _,hph⟩
    ·go_wp2
     exact⟨_,rfl,rfl,Since.refl _,hph⟩
    ·go_wp2
     exact⟨_,rfl,rfl,Since.refl _,hph⟩
    ·have k1:w8.cell? ⟨nb,1,none⟩=some (.int .i64 nv):=(ht.cell HNBL.out HIN.out.2.2).trans HC1.out
     have k2:nb<w8.heap.size:=Nat.lt_of_lt_of_le HNBL.out ht.size
     go_wp2
     exact⟨_,rfl,rfl,Since.refl _,hph⟩
    ·go_wp2
     exact⟨_,rfl,rfl,Since.refl _,hph⟩
    ·have hne:¬ (Value.slice ia il ic).ownBlock=some w8.heap.size:=fun e=>by have:=(World.ownsRow.lt HO7.out _ e).2;have:=ht.size;omega
     have hs2:=(Since.refl w8).alloc (.cells (prcells (na,nv)).toArray 71)
     have HP:=Lib.hid (fun (e:p=0)=>(hph e).trans hs2)
     clear hk hph
     go_wp2
     exact⟨_,rfl,⟨_,rfl,HeapIs.new _ _ _,hne⟩,hs2,HP.out⟩
    ·obtain rfl:p=0:=by omega
     have hs0:=hph rfl
     obtain⟨b1,hb1,hb2,hb3⟩:OneOf prcells 71 (fun q=>(Value.slice ia il ic).ownBlock=some q) (na,nv) (vs 9) w8:=hk.2.1
     simp only[hb1]
     have hrow:=OwnRow.keep HO7.out hs0
     have HS0:=Lib.hid hs0
     clear hk hph hs0 hb1
     refine wpList_append_one2 prcells 2 prcells_len (by decide) rfl _ _ 58 rfl 71 (.agg #[.int .i64 0,.int .i64 0]) 16 Tryz.underlying58 (by kernel_rfl) rfl (.slice ia il ic) _ (na,nv) b1 1 _ rfl rfl (OwnRow.low hrow) hb2 (by unfold prcells;simp[Value.oneCell']) (by rw[HIL.out];unfold maxLen;omega) (by rw[HIL.out];omega) (Nat.zero_le _) ?_
     intro v' w3 hown ht3 hnew
     have HA:=Lib.hid (show AppOf prcells 2 71 w7 (.slice ia il ic) (ps++[(na,nv)]) v' w3 from⟨w8,HS0.out,ht3,hnew,hown⟩)
     have HT3:=Lib.hid ht3
     clear hown ht3 hnew hrow hb2 hb3
     go_wp2
     exact⟨_,rfl,HA.out,HT3.out,fun e=>absurd e (by decide)⟩
   ·obtain rfl:n=k:=by omega
    have hrt:r.take n=r:=by rw[←HNN.out];exact List.take_of_length_le (Nat.le_refl _)
    have hps:=HPS.out
    rw[hrt]at hps
    have HPS:=Lib.hid hps
    clear hps
    rw[show n=r.length from HNN.out.symm]at HP9
    have hp9:=HP9.out
    have HBL:=Lib.hid (hp9.last b HB.out)
    have hpos:0<bl.length:=by
     rcases Nat.eq_zero_or_pos bl.length with h0|h0
     ·have:=(List.getElem?_eq_some_iff.1 HB.out).1;omega
     ·exact h0
    obtain⟨bb,bc,hbv,hbc,hbc2,_,hbbl,hbbs,hbcell⟩:=own_pos hp9.row hpos
    obtain⟨mm,hmm⟩:∃ mm,bl.length=mm+1:=⟨bl.length-1,by omega⟩
    rw[hmm]at hbv hb1 hbc
    subst hbv
    have hm1:bl.length-1=mm:=by omega
    obtain⟨pa,pc,hpv⟩:=own_shape HBL.out.phis
    obtain⟨pn,hpn⟩:∃ pn,b.phis.length=pn:=⟨_,rfl⟩
    rw[hpn]at hpv hb2
    have c1:wr.cell? ⟨pb,1,none⟩=some (.slice (some ⟨bb,0,none⟩) (mm+1) bc):=hp9.cell 1
    have c2:wr.cell? ⟨bb,mm*6,none⟩=some (.slice pa pn pc):=by
     rw[←hpv]
     refine hbcell (mm*6) b.phv ?_
     have h9:=flat_at fbcells 6 fbcells_len bl mm 0 b (by rw[←hm1];exact HB.out) (by decide)
     exact h9
    obtain⟨cur,hbbh⟩:=own_heap hp9.row (q:=bb) rfl
    have HBB:=Lib.hid (show HeapIs wr bb cur 57 from hbbh)
    have HROW:=Lib.hid (show OwnRow fpcells 2 60 0 wr (.slice pa pn pc) b.phis from by rw[←hpv];exact HBL.out.phis)
    have hpl:pb<wr.heap.size:=hp9.box.lt
    have HC1:=Lib.hid c1
    have HC2:=Lib.hid c2
    have HM1:=Lib.hid hm1
    have HPV:=Lib.hid hpv
    have HPN:=Lib.hid hpn
    have HMM:=Lib.hid hmm
    have HLT:=Lib.hid (show pb<wr.heap.size∧bb<wr.heap.size from⟨hpl,hbbl⟩)
    have HNO:=Lib.hid (show ¬ (Value.slice pa pn pc).ownBlock=some pb∧¬ (Value.slice pa pn pc).ownBlock=some bb∧¬ (Value.slice pa pn pc).ownBlock=some xb from by
     rw[←hpv]
     exact⟨own_not HBL.out.phis hp9.box (by decide),fun e=>own_ne HBL.out.phis hp9.row (by decide) bb e rfl,fun e=>by have:=H.out.lt xb (.inr (.inr ⟨b,HB.out,.inl e⟩));have:=HAL.out;omega⟩)
    clear hp9 hpos hbbl hbbs hbcell hm1 hpv hpn hmm hbc2 c2 hrt hbbh
    go_wp2_with fail
    clear c1 hpl
    refine wp_region_one 10 9 [9] [0,0,0,0,0,0,0,0,0,0] [0,0,0,0,0,0,0,0,0,0] [0,0,0,0,0,0,0,0,0,1] (fun q=>(Value.slice pa pn pc).ownBlock=some q) (fun p w8=>p=0→Since wr w8) rfl (by decide +kernel) (by decide +kernel) (by decide +kernel) (by decide) (by decide +kernel)
     [Is (.pointer (some ⟨pb,0,none⟩)),Is (.pointer (some ⟨bb,mm*6,none⟩)),Is (.pointer (some ⟨pb,0,none⟩)),Is (.pointer (some ⟨bb,mm*6,none⟩)),Is (.pointer (some ⟨bb,mm*6,none⟩)),Is (.pointer (some ⟨bb,mm*6,none⟩)),Is (Value.slice pa pn pc),Is (.agg #[.int .i64 dn,.slice ia il ic]),OneOf fpcells 60 (fun q=>(Value.slice pa pn pc).ownBlock=some q) (⟨dn,ps,.slice ia il ic⟩:FPhi),AppOf fpcells 2 60 wr (Value.slice pa pn pc) (b.phis++[(⟨dn,ps,.slice ia il ic⟩:FPhi)])]
     (by repeat (first | exact trivial | refine⟨fun h=>absurd rfl h,?_⟩ | refine⟨fun _=>Is.stableT _ _,?_⟩ | refine⟨fun _=>Any.stableT _,?_⟩ | refine⟨fun _=>OneOf.stableT _ _ _ _,?_⟩)) (by repeat (first | exact trivial | refine⟨Is.stable _,?_⟩ | refine⟨Any.stable,?_⟩ | refine⟨OneOf.stable _ _ _ _,?_⟩ | refine⟨AppOf.stable _ _ _ _ _ _,?_⟩)) (fun _=>(Since.refl wr).drew) ⟨?_,?_,?_,?_,?_,?_,?_,?_,?_,?_,trivial⟩ ?_
    rotate_right
    ·intro vs w8 ht hph hk
     simp only[List.take,List.drop,putAll,Act.put,KnowsAll,nthF,Is,List.setIfInBounds_toArray,List.set_cons_zero,List.set_cons_succ,Nat.reduceAdd]at hk ⊢
     try simp only[hk]
     obtain⟨wa,hsa,hta,hnew,hown⟩:AppOf fpcells 2 60 wr (Value.slice pa pn pc) (b.phis++[(⟨dn,ps,.slice ia il ic⟩:FPhi)]) (vs 9) w8:=by exact hk.2.2.2.2.2.2.2.2.2.1
     generalize vs 9=nw at *
     obtain⟨ja,jc,hjv⟩:=own_shape hown
     rw[List.length_append,HPN.out]at hjv
     subst hjv
     have hbb8:=HBB.out.turn ht HNO.out.2.1
     have hbl8:=hbb8.lt
     have hbf8:=hbb8.frozen
     have k1:w8.cell? ⟨bb,mm*6,none⟩=some (Value.slice pa pn pc):=(ht.cell HLT.out.2 HNO.out.2.1).trans HC2.out
     have HOWN:=Lib.hid hown
     have HT8:=Lib.hid ht
     have HTA:=Lib.hid hta
     have HSA:=Lib.hid hsa
     have HNEW:=Lib.hid hnew
     clear hk hph ht hsa hta hnew hbb8 hown
     go_wp2
     go_end0
     have hbl:=HBL.out
     have hphi:PhiOk (PaS w0 pb (.slice (some ⟨bb,0,none⟩) (mm+1) bc) bl) wr (⟨dn,ps,.slice ia il ic⟩:FPhi):=⟨row_of_own prcells_len HO9.out (fun _ _=>trivial),fun q hq=>⟨fun h=>by have:=H.out.ltS q h;have:=(World.ownsRow.lt HO9.out q hq).1;omega,(World.ownsRow.lt HO9.out q hq).2⟩⟩
     have hins:=own_turn hbl.ins HT8.out (fun q hq hr=>own_ne hbl.ins hbl.phis (by decide) q hq (by rw[HPV.out];exact hr))
     have hnp:NewOr wr b.phv (.slice ja (pn+1) jc):=fun q hq=>by
      rcases HNEW.out q hq with h1|h1
      ·exact .inl (by rw[HPV.out];exact h1)
      ·have:=HSA.out.size;exact .inr (by omega)
     have hup:=PaM.upd HP9.out (b':={ b with phis:=b.phis++[⟨dn,ps,.slice ia il ic⟩],phv:=.slice ja (pn+1) jc }) HB.out (bb:=bb) (cap:=bc) (by rw[HMM.out]) (w1:=w8) (HT8.out.mono (fun q _ hq=>.inl (by rw[HPV.out];exact hq))) 0 (by decide) (.slice ja (pn+1) jc) rfl HOWN.out hins hnp (fun q hq=>.inl hq) (fun p hp=>by rcases List.mem_append.1 hp with h1 | h1;exact hbl.phi p h1;rw[List.mem_singleton.1 h1];exact hphi) hbl.inx hbl.term
     rw[HM1.out]at hup
     refine⟨rfl,phiN d r r.length,_,hup,?_,?_⟩
     ·refine ((HT9.out.mono fun q _ hq=>.inl hq:Turn (PaOwn pb _ bl) w wr).trans (HT8.out.mono fun q _ hq=>.inr (.inr ⟨b,HB.out,.inl (by rw[HPV.out];exact hq)⟩))).setCell ?_ _
      exact .inr (.inl rfl)
     ·rw[HGD.out,phiN_all]
      cases hok:(isNum d&&r.all isPair)
      ·exact⟨rfl,by decide⟩
      ·refine⟨rfl,rfl,?_⟩
       have:=last_set (b':={ b with phis:=b.phis++[⟨dn,ps,.slice ia il ic⟩],phv:=.slice ja (pn+1) jc }) HB.out ⟨params,bl.map FBlk.d,pl⟩ rfl (fun b=>⟨b.phis++[⟨numW d,r.map pairW⟩],b.ins,b.term⟩) (by rw[HDN.out,HPS.out];simp[FBlk.d,FPhi.d])
       rw[HM1.out]at this
       exact this
    all_goals
     intro p vs w8 hlo hhi ht hph hk
     simp only[List.take,putAll,Act.put,Knows,nthF,Is,List.setIfInBounds_toArray,List.set_cons_zero,List.set_cons_succ,Nat.reduceAdd]at hk ⊢
     try simp only[hk]
    ·go_wp2
     exact⟨_,rfl,rfl,Since.refl _,hph⟩
    ·have k1:w8.cell? ⟨pb,1,none⟩=some (.slice (some ⟨bb,0,none⟩) (mm+1) bc):=(ht.cell HLT.out.1 HNO.out.1).trans HC1.out
     have k2:pb<w8.heap.size:=Nat.lt_of_lt_of_le HLT.out.1 ht.size
     clear hk
     go_wp2_with fail
     refine (last_any w8 k1 k2 (by omega)).mono ?_
     rintro e3 w3 ⟨rfl,hs3⟩
     have HPH:=Lib.hid (fun (e:p=0)=>(hph e).trans hs3)
     have HS3:=Lib.hid hs3
     clear hph hs3 k1
     go_wp2
     exact⟨_,rfl,rfl,HS3.out,HPH.out⟩
    ·go_wp2
     exact⟨_,rfl,rfl,Since.refl _,hph⟩
    ·have k1:w8.cell? ⟨pb,1,none⟩=some (.slice (some ⟨bb,0,none⟩) (mm+1) bc):=(ht.cell HLT.out.1 HNO.out.1).trans HC1.out
     have k2:pb<w8.heap.size:=Nat.lt_of_lt_of_le HLT.out.1 ht.size
     clear hk
     go_wp2_with fail
     refine (last_any w8 k1 k2 (by omega)).mono ?_
     rintro e3 w3 ⟨rfl,hs3⟩
     have HPH:=Lib.hid (fun (e:p=0)=>(hph e).trans hs3)
     have HS3:=Lib.hid hs3
     clear hph hs3 k1
     go_wp2
     exact⟨_,rfl,rfl,HS3.out,HPH.out⟩
    ·go_wp2
     exact⟨_,rfl,rfl,Since.refl _,hph⟩
    ·go_wp2
     exact⟨_,rfl,rfl,Since.refl _,hph⟩
    ·have k1:w8.cell? ⟨bb,mm*6,none⟩=some (Value.slice pa pn pc):=(ht.cell HLT.out.2 HNO.out.2.1).trans HC2.out
     have k2:bb<w8.heap.size:=Nat.lt_of_lt_of_le HLT.out.2 ht.size
     go_wp2
     exact⟨_,rfl,rfl,Since.refl _,hph⟩
    ·have hbx:=HX9.out.turn ht HNO.out.2.2
     clear hk
     refine wpList_load_row rfl _ _ rfl xb rfl 60 _ (0,0) _ hbx Tryz.underlying60 rfl (by kernel_rfl) ?_
     go_wp2
     exact⟨_,rfl,rfl,Since.refl _,hph⟩
    ·have hne:¬ (Value.slice pa pn pc).ownBlock=some w8.heap.size:=fun e=>by have:=(World.ownsRow.lt HROW.out _ e).2;have:=ht.size;omega
     have hs2:=(Since.refl w8).alloc (.cells (fpcells (⟨dn,ps,.slice ia il ic⟩:FPhi)).toArray 60)
     have HP:=Lib.hid (fun (e:p=0)=>(hph e).trans hs2)
     clear hk hph
     go_wp2
     exact⟨_,rfl,⟨_,rfl,HeapIs.new _ _ _,hne⟩,hs2,HP.out⟩
    ·obtain rfl:p=0:=by omega
     have hs0:=hph rfl
     obtain⟨b1,hb3,hb4,hb5⟩:OneOf fpcells 60 (fun q=>(Value.slice pa pn pc).ownBlock=some q) (⟨dn,ps,.slice ia il ic⟩:FPhi) (vs 8) w8:=hk.2.1
     simp only[hb3]
     have hrow:=OwnRow.keep HROW.out hs0
     have HS0:=Lib.hid hs0
     clear hk hph hs0 hb3
     refine wpList_append_one2 fpcells 2 fpcells_len (by decide) rfl _ _ 55 rfl 60 (.agg #[.int .i64 0,.slice none 0 0]) 32 Tryz.underlying55 (by kernel_rfl) rfl (Value.slice pa pn pc) _ (⟨dn,ps,.slice ia il ic⟩:FPhi) b1 1 _ rfl rfl hrow hb4 (by unfold fpcells;simp[Value.oneCell']) (by rw[HPN.out];unfold maxLen;omega) (by rw[HPN.out];omega) (Nat.zero_le _) ?_
     intro v' w3 hown ht3 hnew
     have HA:=Lib.hid (show AppOf fpcells 2 60 wr (Value.slice pa pn pc) (b.phis++[(⟨dn,ps,.slice ia il ic⟩:FPhi)]) v' w3 from⟨w8,HS0.out,ht3,hnew,hown⟩)
     have HT3:=Lib.hid ht3
     clear hown ht3 hnew hrow hb4 hb5
     go_wp2
     exact⟨_,rfl,HA.out,HT3.out,fun e=>absurd e (by decide)⟩
end
theorem alloc_set (w:World) (o o':Obj):({ w.alloc o with heap:=(w.alloc o).heap.setIfInBounds w.heap.size o' }:World)=w.alloc o':=by
 have:(w.heap.push o).setIfInBounds w.heap.size o'=w.heap.push o':=by
  apply Array.ext'
  simp[Array.toList_setIfInBounds,Array.toList_push]
 simp only[World.alloc]
 rw[this]
def fresh (n:Int):List MapEntry→Bool
 | []=>true
 | e::r=>match e.key with
  | .int .i64 m=>!(n==m)&&fresh n r
  | _=>false
def look (n:Int):List MapEntry→Option Value
 | []=>none
 | e::r=>match e.key with
  | .int .i64 m=>if n==m then some e.val else look n r
  | _=>none
theorem fresh_nil (n:Int):fresh n []=true:=Eq.trans (Eq.refl _) (Eq.refl true)
theorem fresh_cons (n m:Int) (v:Value) (b:Nat) (r:List MapEntry):fresh n ({ key:=.int .i64 m,val:=v,born:=b }::r)=(!(n==m)&&fresh n r):=Eq.trans (Eq.refl _) (Eq.refl _)
theorem look_nil (n:Int):look n []=none:=Eq.trans (Eq.refl _) (Eq.refl _)
theorem look_cons (n m:Int) (v:Value) (b:Nat) (r:List MapEntry):look n ({ key:=.int .i64 m,val:=v,born:=b }::r)=if n==m then some v else look n r:=Eq.trans (Eq.refl _) (Eq.refl _)
theorem findNow_fresh (n:Int):∀ (l:List MapEntry) (i:Nat),fresh n l=true→Instr.findNow (.int .i64) (.int .i64 n) l i=some none
 | [],_,_=>rfl
 | e::r,i,h=>by
  unfold fresh at h
  split at h
  ·rename_i m hm
   simp at h
   have hb:(n==m)=false:=by simpa using h.1
   simp[Instr.findNow,hm,Instr.sameNow,hb,findNow_fresh n r _ h.2]
  ·cases h
theorem findNow_look (n:Int) (v:Value):∀ (l:List MapEntry) (i:Nat),look n l=some v→∃ j,Instr.findNow (.int .i64) (.int .i64 n) l i=some (some (j,v))
 | [],_,h=>by cases h
 | e::r,i,h=>by
  unfold look at h
  split at h
  ·rename_i m hm
   by_cases hb:n=m
   ·subst hb;simp at h;exact⟨i,by simp[Instr.findNow,hm,Instr.sameNow,h]⟩
   ·rw[if_neg (by simpa using hb)]at h
    obtain⟨j,hj⟩:=findNow_look n v r (i+1) h
    have hb':(n==m)=false:=by simpa using hb
    exact⟨j,by simp[Instr.findNow,hm,Instr.sameNow,hb',hj]⟩
  ·cases h
theorem run_mapUpdate_new {P : Program} {t K E:TypeId} (ht:P.underlying t=some (.map K E)) (hK:P.underlying K=some (.int .i64)) (w:World) (es:List MapEntry) (b c:Nat) (n:Int) (v:Value) (hs:b=w.heap.size) (hf:fresh n es=true) :
  (Instr.mapUpdate t (.map (some b)) (.int .i64 n) v).run P (w.alloc (.map es.toArray c))=.ok () (w.alloc (.map (es++[({ key:=.int .i64 n,val:=v,born:=c }:MapEntry)]).toArray (c+1))):=by
 subst hs
 have hb:=(MapKept.heap_alloc w (.map es.toArray c)).1
 have hkey:MapKept.IsKey (.int .i64) (.int .i64 n):=rfl
 have hf':Instr.findNow (.int .i64) (.int .i64 n) es.toArray.toList 0=some none:=findNow_fresh n es 0 hf
 simp only[Instr.mapUpdate,Sem.run_bind,run_underlying ht,Result.andThen,MapKept.run_getObj_map hb,MapKept.run_checkKey hK hkey,MapKept.run_findKey hK hf',MapKept.run_setObj_map _ hb]
 rw[alloc_set];simp
theorem run_lookup_hit {P : Program} {t K E:TypeId} (ht:P.underlying t=some (.map K E)) (hK:P.underlying K=some (.int .i64)) (w:World) (es:List MapEntry) (b c:Nat) (n:Int) (v:Value) (hs:b=w.heap.size) (hf:look n es=some v) :
  (Instr.lookup t (.map (some b)) (.int .i64 n) false).run P (w.alloc (.map es.toArray c))=.ok v (w.alloc (.map es.toArray c)):=by
 subst hs
 have hb:=(MapKept.heap_alloc w (.map es.toArray c)).1
 have hkey:MapKept.IsKey (.int .i64) (.int .i64 n):=rfl
 obtain⟨j,hj⟩:=findNow_look n v es.toArray.toList 0 hf
 simp[Instr.lookup,run_underlying ht,MapKept.run_getObj_map hb,MapKept.run_checkKey hK hkey,MapKept.run_findKey hK hj,Result.andThen]
theorem run_lookup_miss {P : Program} {t K E:TypeId} (ht:P.underlying t=some (.map K E)) (hK:P.underlying K=some (.int .i64)) (z:Value) (hz:∀ w:World,(zeroValue E).run P w=.ok z w) (w:World) (es:List MapEntry) (b c:Nat) (n:Int) (hs:b=w.heap.size) (hf:fresh n es=true) :
  (Instr.lookup t (.map (some b)) (.int .i64 n) false).run P (w.alloc (.map es.toArray c))=.ok z (w.alloc (.map es.toArray c)):=by
 subst hs
 have hb:=(MapKept.heap_alloc w (.map es.toArray c)).1
 have hkey:MapKept.IsKey (.int .i64) (.int .i64 n):=rfl
 have hf':Instr.findNow (.int .i64) (.int .i64 n) es.toArray.toList 0=some none:=findNow_fresh n es 0 hf
 simp[Instr.lookup,run_underlying ht,MapKept.run_getObj_map hb,MapKept.run_checkKey hK hkey,MapKept.run_findKey hK hf',hz,Result.andThen]
def intKeys:List MapEntry→Bool
 | []=>true
 | e::r=>match e.key with
  | .int .i64 _=>intKeys r
  | _=>false
theorem intKeys_nil:intKeys []=true:=Eq.trans (Eq.refl _) (Eq.refl true)
theorem intKeys_cons (m:Int) (v:Value) (b:Nat) (r:List MapEntry):intKeys ({ key:=.int .i64 m,val:=v,born:=b }::r)=intKeys r:=Eq.trans (Eq.refl _) (Eq.refl _)
theorem look_fresh (n:Int):∀ l:List MapEntry,intKeys l=true→look n l=none→fresh n l=true
 | [],_,_=>rfl
 | e::r,h,hl=>by
  unfold intKeys at h
  split at h
  ·rename_i m hm
   unfold look at hl
   rw[hm]at hl
   unfold fresh
   rw[hm]
   by_cases hb:n=m
   ·subst hb;simp at hl
   ·have h2:(n==m)=false:=by simpa using hb
    simp only[h2]at hl ⊢
    simpa using look_fresh n r h (by simpa using hl)
  ·cases h
theorem run_lookup_both {P : Program} {t K E:TypeId} (ht:P.underlying t=some (.map K E)) (hK:P.underlying K=some (.int .i64)) (z:Value) (hz:∀ w:World,(zeroValue E).run P w=.ok z w) (w:World) (es:List MapEntry) (b c:Nat) (n:Int) (hs:b=w.heap.size) (hi:intKeys es=true) :
  (Instr.lookup t (.map (some b)) (.int .i64 n) true).run P (w.alloc (.map es.toArray c))=.ok (.tuple #[(look n es).getD z,.bool (look n es).isSome]) (w.alloc (.map es.toArray c)):=by
 subst hs
 have hb:=(MapKept.heap_alloc w (.map es.toArray c)).1
 have hkey:MapKept.IsKey (.int .i64) (.int .i64 n):=rfl
 cases hl:look n es with
 | none =>
  have hf':Instr.findNow (.int .i64) (.int .i64 n) es.toArray.toList 0=some none:=findNow_fresh n es 0 (look_fresh n es hi hl)
  simp[Instr.lookup,run_underlying ht,MapKept.run_getObj_map hb,MapKept.run_checkKey hK hkey,MapKept.run_findKey hK hf',hz,Result.andThen]
 | some v =>
  obtain⟨j,hj⟩:=findNow_look n v es.toArray.toList 0 hl
  simp[Instr.lookup,run_underlying ht,MapKept.run_getObj_map hb,MapKept.run_checkKey hK hkey,MapKept.run_findKey hK hj,Result.andThen]
theorem run_lookup_one {P : Program} {t K E:TypeId} (ht:P.underlying t=some (.map K E)) (hK:P.underlying K=some (.int .i64)) (z:Value) (hz:∀ w:World,(zeroValue E).run P w=.ok z w) (w:World) (es:List MapEntry) (b c:Nat) (n:Int) (hs:b=w.heap.size) (hi:intKeys es=true) :
  (Instr.lookup t (.map (some b)) (.int .i64 n) false).run P (w.alloc (.map es.toArray c))=.ok ((look n es).getD z) (w.alloc (.map es.toArray c)):=by
 cases hl:look n es with
 | none=>exact run_lookup_miss ht hK z hz w es b c n hs (look_fresh n es hi hl)
 | some v=>exact run_lookup_hit ht hK w es b c n v hs hl
theorem zero_pair (w:World):(zeroValue 33).run Tryz.prog w=.ok (.agg #[.int .i64 0,.int .i64 0]) w:=by kernel_rfl
theorem add_zero_map (a:Option Addr):a.map (fun x=>x.add 0)=a:=by
 cases a with
 | none=>rfl
 | some x=>simp[Addr.add]
set_option maxHeartbeats 400000 in
set_option maxRecDepth 100000 in
theorem clip_any (a:Option Addr) (k c:Nat) (w:World) (hk:k≤c) (_:c≤maxLen):Calls Tryz.prog 107 #[.slice a k c] w fun e w'=>e=.returned (.slice a k k)∧w'=w:=by
 have hz:=add_zero_map a
 go_enter Tryz.func107,Tryz.ntmps107
 go_wp2
 all_goals
  go_ret
  first | exact⟨rfl,rfl⟩ | exact⟨by simp,rfl⟩
theorem ints_clip {w : World} {a : Option Addr} {k c:Nat} {l : List Int} (h:Ints w (.slice a k c) l):Ints w (.slice a k k) l:=by
 rcases h with ⟨x,h1,h2⟩|⟨b,off,cap,h1,h2,h3,h4,h5⟩
 ·cases h1;exact .inl ⟨_,rfl,h2⟩
 ·cases h1;exact .inr ⟨b,off,l.length,rfl,Nat.le_refl _,by omega,h4,h5⟩
theorem ints_cap {w : World} {a : Option Addr} {k c:Nat} {l : List Int} (h:Ints w (.slice a k c) l):k≤c∧c≤maxLen:=by
 rcases h with ⟨x,h1,h2⟩|⟨b,off,cap,h1,h2,h3,h4,h5⟩
 ·cases h1;exact⟨Nat.le_refl _,Nat.zero_le _⟩
 ·cases h1;exact⟨h2,h3⟩
end Go.Proofs.YtmhojfpidedjeaaGreatDoor
