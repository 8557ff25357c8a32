/- word.Text and word.Parse, by the library's contracts. -/
import Derived.Test.YtmhojfpidedjeaaGreatDoorTq00
import Derived.Shelf.Unicode.PredsPay
import Derived.WalkSpells
import Derived.WalkLawsBesides
namespace Go.Proofs.YtmhojfpidedjeaaGreatDoor
open Go.RowKit
set_option linter.unusedVariables false
structure LaidS (w:World):Prop where
 tab : Lib.TabIs Tryz.prog w "internal/strconv.uint64pow10" .u64 Lib.pow10Tab
 syn : ∃ tp p, w.var? Tryz.prog "strconv.ErrSyntax" = some #[.iface tp p]
 ran : ∃ tp p, w.var? Tryz.prog "strconv.ErrRange" = some #[.iface tp p]
theorem var_keep {n : String} {g : Nat} {cs:Array Value} {w w':World} (hg:Tryz.prog.globalNamed n=some g) (h:w.var? Tryz.prog n=some cs) (hb:Below w.heap.size w w'):w'.var? Tryz.prog n=some cs:=by
 unfold World.var? at h ⊢
 rw[hg]at h ⊢
 simp only[Option.bind_some]at h ⊢
 have hlt:g<w.heap.size:=by
  rcases Nat.lt_or_ge g w.heap.size with h'|h'
  ·exact h'
  ·rw[Array.getElem?_eq_none h']at h;cases h
 rw[hb.block g hlt]
 exact h
theorem LaidS.keep {w w':World} (h:LaidS w) (hb:Below w.heap.size w w'):LaidS w':=by
 obtain⟨h1,⟨tp,p,h2⟩,⟨tq,q,h3⟩⟩:=h
 exact⟨TabIs_below (g:=2) (by kernel_rfl) h1 hb,⟨tp,p,var_keep (g:=8) (by kernel_rfl) h2 hb⟩,⟨tq,q,var_keep (g:=9) (by kernel_rfl) h3 hb⟩⟩
theorem grow_below (w:World) (k:Nat) (os:Array Obj):Below w.heap.size w (Sort.grow (w.drewN k) os):=
 ⟨rfl,rfl,rfl,by simp[Sort.grow,World.drewN],fun i hi=>by simp[Sort.grow,World.drewN,Array.getElem?_append,hi]⟩
set_option maxHeartbeats 1000000 in
set_option maxRecDepth 100000 in
theorem text_any (n:Int) (w:World) (h0 : -2147483648≤n) (h1:n≤2147483647) (hL:LaidS w) :
  Calls Tryz.prog 44 #[.int .i32 n] w fun e w'=>e=.returned (.string ⟨(Lib.itoa n).toArray⟩)∧Below w.heap.size w w':=by
 have HL:=Lib.hid hL.tab
 clear hL
 go_enter Tryz.func44,Tryz.ntmps44
 go_wp2_with fail
 refine (Tryz.strconv_Itoa n (by omega) (by omega) _ HL.out).mono ?_
 rintro e w1 ⟨rfl,k,os,rfl⟩
 have HB:=Lib.hid (grow_below w k os)
 generalize Sort.grow (w.drewN k) os=w1 at *
 go_wp2
 go_ret
 exact⟨rfl,HB.out⟩
def ParseP (l:List UInt8) (w:World) (e:Ending) (w':World):Prop:=e=.returned (.tuple #[.int .i32 ((wparse l).getD 0),.bool (wparse l).isSome])∧Below w.heap.size w w'
theorem parse_none {l : List UInt8} (h:wparse l=none) (w w':World) (hb:Below w.heap.size w w'):ParseP l w (.returned (.tuple #[.int .i32 0,.bool false])) w':=by
 unfold ParseP;rw[h];exact⟨rfl,hb⟩
theorem parse_some {l : List UInt8} {v : Int} (h:wparse l=some v) (w w':World) (hb:Below w.heap.size w w'):ParseP l w (.returned (.tuple #[.int .i32 v,.bool true])) w':=by
 unfold ParseP;rw[h];exact⟨rfl,hb⟩
theorem parse_fails (s:ByteArray) (w:World) (hw:wparse s.data.toList=none)
  (hp:Calls Tryz.prog 120 #[.string s,.int .i64 10,.int .i64 32] w fun e w'=>∃ N x,e=.returned (.tuple #[.int .i64 x,.iface 219 (.pointer (some ⟨N,0,none⟩))])∧Below w.heap.size w w') :
  Calls Tryz.prog 102 #[.string s] w (ParseP s.data.toList w):=by
 have HW:=Lib.hid hw
 have HP:=Lib.hid hp
 clear hw hp
 go_enter Tryz.func102,Tryz.ntmps102
 go_wp2_with fail
 refine HP.out.mono ?_
 rintro e w1 ⟨N,x,rfl,hb1⟩
 have HB1:=Lib.hid hb1
 clear hb1
 go_wp2
 go_ret2
 exact parse_none HW.out _ _ HB1.out
set_option maxHeartbeats 1000000 in
set_option maxRecDepth 100000 in
theorem wparse_any (s:ByteArray) (w:World) (hs:s.size≤281474976710656) (hL:LaidS w) :
  Calls Tryz.prog 102 #[.string s] w (ParseP s.data.toList w):=by
 rcases h:Lib.parseIntB 32 s.data.toList with v|_|_
 ·have hv32:In32W v:=parse_32 h
  obtain⟨hv1,hv2⟩:=hv32
  have hpi:=Tryz.strconv_ParseInt_10_at32_ok s (by omega) v h w
  have HL:=Lib.hid hL
  have HP:=Lib.hid hpi
  have H:=Lib.hid h
  clear hL hpi h
  have hq:((Lib.itoa v).toArray==s.data)=true∨((Lib.itoa v).toArray==s.data)=false:=by cases h:((Lib.itoa v).toArray==s.data)<;>simp
  rcases hq with hq|hq
  ·have hq2:Lib.itoa v=s.data.toList:=by rw[←eq_of_beq hq]
   have hw:wparse s.data.toList=some v:=by unfold wparse;rw[H.out];dsimp only;rw[if_pos hq2]
   have hse:s=⟨(Lib.itoa v).toArray⟩:=by rw[hq2]
   have HW:=Lib.hid hw
   have HSE:=Lib.hid hse
   clear hw hse hq hq2
   go_enter Tryz.func102,Tryz.ntmps102
   go_wp2_with fail
   refine HP.out.mono ?_
   rintro e w1 ⟨rfl,hw1⟩
   have hb1:Below w.heap.size w w1:=by
    rcases hw1 with rfl|⟨t,rfl⟩
    ·exact Below.refl _ _
    ·exact Lib.bytesWorld_below _ _ _
   have HB1:=Lib.hid hb1
   clear hw1 hb1
   have HT:=Lib.hid (text_any v w1 hv1 hv2 (HL.out.keep HB1.out))
   rw[←HSE.out]at HT
   go_wp2_with fail
   refine HT.out.mono ?_
   rintro e w2 ⟨rfl,hb2⟩
   have HB2:=Lib.hid (HB1.out.trans (hb2.mono HB1.out.size))
   clear hb2
   go_wp2
   go_ret2
   exact parse_some HW.out _ _ HB2.out
  ·have hq2:¬ Lib.itoa v=s.data.toList:=by
    intro e;rw[e]at hq;simp at hq
   have hw:wparse s.data.toList=none:=by unfold wparse;rw[H.out];dsimp only;rw[if_neg hq2]
   have HW:=Lib.hid hw
   have HQ2:=Lib.hid hq2
   clear hw hq hq2
   go_enter Tryz.func102,Tryz.ntmps102
   go_wp2_with fail
   refine HP.out.mono ?_
   rintro e w1 ⟨rfl,hw1⟩
   have hb1:Below w.heap.size w w1:=by
    rcases hw1 with rfl|⟨t,rfl⟩
    ·exact Below.refl _ _
    ·exact Lib.bytesWorld_below _ _ _
   have HB1:=Lib.hid hb1
   clear hw1 hb1
   have HT:=Lib.hid (text_any v w1 hv1 hv2 (HL.out.keep HB1.out))
   obtain⟨y,hy⟩:∃ y:ByteArray,(⟨(Lib.itoa v).toArray⟩:ByteArray)=y:=⟨_,rfl⟩
   have hne:(y.toList==s.toList)=false:=by
    rw[ByteArray.toList_eq,ByteArray.toList_eq,←hy]
    exact beq_false_of_ne HQ2.out
   rw[hy]at HT
   clear hy
   go_wp2_with fail
   refine HT.out.mono ?_
   rintro e w2 ⟨rfl,hb2⟩
   have HB2:=Lib.hid (HB1.out.trans (hb2.mono HB1.out.size))
   clear hb2
   go_wp2
   go_ret2
   exact parse_none HW.out _ _ HB2.out
 ·have hw:wparse s.data.toList=none:=by unfold wparse;rw[h]
  obtain⟨tp,p,hv⟩:=hL.syn
  exact parse_fails s w hw ((Any.strconv_ParseInt_10_at32_syntax_var Tryz.laysC174 s hs h tp p w hv).mono fun e w' ⟨N,he,_,_,hb⟩=>⟨N,_,he,hb⟩)
 ·have hw:wparse s.data.toList=none:=by unfold wparse;rw[h]
  obtain⟨tp,p,hv⟩:=hL.ran
  exact parse_fails s w hw ((Any.strconv_ParseInt_10_at32_range_var Tryz.laysC174 s hs h tp p w hv).mono fun e w' ⟨N,he,_,_,hb⟩=>⟨N,_,he,hb⟩)
end Go.Proofs.YtmhojfpidedjeaaGreatDoor
