/- Names: those of terms, those of tiles; the program's and the document's. -/
import Derived.Test.YtmhojfpidedjeaaGreatDoorRz04
namespace Go.Proofs.YtmhojfpidedjeaaGreatDoor
open Go.RowKit
set_option linter.unusedVariables false
def termsText:ByteArray:=⟨#[106,117,109,112,32,98,114,97,110,99,104,32,115,119,105,116,99,104,32,114,101,116,32,116,114,97,112]⟩
def tilesText:ByteArray:=⟨(([108,105]++(patNames.drop 1).flatMap (fun b=>32::b.data.toList)):Bs).toArray⟩
def StrsAt (w:World) (b:Nat) (l:List ByteArray):Prop:=b<w.heap.size∧∀ j,j<l.length→w.cell? ⟨b,0+j,none⟩=some (.string (l.getD j ByteArray.empty))
theorem strs_block (w:World) (l:List ByteArray) (T:TypeId):StrsAt (w.alloc (.cells (l.map Value.string).toArray T)) w.heap.size l:=by
 refine⟨by simp,fun j hj=>?_⟩
 have h:(l.map Value.string)[j]? = some (.string (l.getD j ByteArray.empty)):=by
  rw[List.getElem?_map,List.getElem?_eq_getElem hj,List.getD_eq_getElem?_getD,List.getElem?_eq_getElem hj]
  rfl
 simp only[World.cell?,heap_last,Nat.zero_add]
 simpa using h
theorem StrsAt.keep {w w':World} {b : Nat} {l : List ByteArray} (h:StrsAt w b l) (s:Since w w'):StrsAt w' b l:=⟨Nat.lt_of_lt_of_le h.1 s.size,fun j hj=>(s.cell (p:=⟨b,0+j,none⟩) h.1).trans (h.2 j hj)⟩
def FieldsQ (n:Nat) (l:List ByteArray) (w:World) (e:Ending) (w':World):Prop:=e=.returned (.slice (some ⟨w.heap.size,0,none⟩) n n)∧StrsAt w' w.heap.size l∧Since w w'
theorem fields_const (s : ByteArray) (n : Nat) (l : List ByteArray) (hn : l.length = n) (h : Lib.fields s.data.toList = l.map fun b => b.data.toList) (ha : s.data.toList.all (fun b => decide (b.toNat < 128)) = true) (hs : s.size < 4294967281) (w : World) (htab : Lib.TabIs Tryz.prog w "strings.asciiSpace" .u8 Lib.asciiSpaceTab) :
  Calls Tryz.prog 48 #[.string s] w (FieldsQ n l w):=by
 subst hn
 refine (Tryz.strings_Fields s w hs (fun j b hb=>by have:=List.all_eq_true.1 ha b (List.mem_of_getElem? hb);simpa using this) htab).mono ?_
 rintro e w' ⟨rfl,rfl⟩
 have e1:((Lib.fields s.data.toList).map fun l=>Value.string ⟨l.toArray⟩)=l.map Value.string:=by
  rw[h,List.map_map]
  refine List.map_congr_left fun s _=>?_
  obtain⟨⟨l⟩⟩:=s
  rfl
 rw[e1,h,List.length_map]
 exact⟨rfl,strs_block w _ _,(Since.refl _).alloc _⟩
theorem fields_terms (w : World) (htab : Lib.TabIs Tryz.prog w "strings.asciiSpace" .u8 Lib.asciiSpaceTab) : Calls Tryz.prog 48 #[.string termsText] w (FieldsQ 5 termNames w) := fields_const termsText 5 termNames rfl (by decide +kernel) (by decide +kernel) (by decide +kernel) w htab
theorem fields_tiles (w : World) (htab : Lib.TabIs Tryz.prog w "strings.asciiSpace" .u8 Lib.asciiSpaceTab) : Calls Tryz.prog 48 #[.string tilesText] w (FieldsQ 37 patNames w) := fields_const tilesText 37 patNames rfl (by decide +kernel) (by decide +kernel) (by decide +kernel) w htab
theorem getD_at {l : List ByteArray} {k : Nat} (h:k<l.length):l[k]? = some (l.getD k ByteArray.empty):=by rw[List.getD_eq_getElem?_getD,List.getElem?_eq_getElem h];rfl
set_option maxHeartbeats 1000000 in
set_option maxRecDepth 100000 in
theorem nth_any (n : Int) (w : World) (ho : In64 n) (htab : Lib.TabIs Tryz.prog w "strings.asciiSpace" .u8 Lib.asciiSpaceTab) :
  Calls Tryz.prog 25 #[.string termsText,.int .i64 n] w (StrQ (termB n) w):=by
 unfold In64 at ho
 obtain⟨t,ht⟩:∃ t,termsText=t:=⟨_,rfl⟩
 have HF:=Lib.hid (fields_terms w htab)
 rw[ht]at HF ⊢
 obtain⟨y,hy⟩:∃ y,termB n=y:=⟨_,rfl⟩
 have HY:=Lib.hid hy
 rw[hy]
 clear hy htab ht
 by_cases h1:n<1
 ·obtain rfl:⟨#[63]⟩=y:=by rw[←HY.out];unfold termB;rw[if_pos (.inl h1)]
  go_enter Tryz.func25,Tryz.ntmps25
  go_wp2_with fail
  refine HF.out.mono ?_
  rintro e w1 ⟨rfl,hn,hb⟩
  have HB:=Lib.hid hb
  clear hn hb
  go_wp2
  go_ret
  exact⟨rfl,HB.out⟩
 ·by_cases h2:5<n
  ·obtain rfl:⟨#[63]⟩=y:=by rw[←HY.out];unfold termB;rw[if_pos (.inr h2)]
   go_enter Tryz.func25,Tryz.ntmps25
   go_wp2_with fail
   refine HF.out.mono ?_
   rintro e w1 ⟨rfl,hn,hb⟩
   have HB:=Lib.hid hb
   clear hn hb
   go_wp2
   go_ret
   exact⟨rfl,HB.out⟩
  ·obtain⟨k,rfl⟩:∃ k:Nat,n=(k:Int)+1:=⟨(n-1).toNat,by omega⟩
   have hk:k<5:=by omega
   have he:termB ((k:Int)+1)=termNames.getD k ByteArray.empty:=by unfold termB;rw[if_neg (by omega),show ((k:Int)+1-1).toNat=k from by omega]
   rw[he]at HY
   clear he
   go_enter Tryz.func25,Tryz.ntmps25
   go_wp2_with fail
   refine HF.out.mono ?_
   rintro e w1 ⟨rfl,hn,hb⟩
   have hc:w1.cell? ⟨w.heap.size,0+k,none⟩=some (.string y):=by rw[←HY.out];exact hn.2 k hk
   rw[Nat.zero_add]at hc
   have hl:=hn.1
   have HB:=Lib.hid hb
   clear hn hb
   go_wp2
   go_ret
   exact⟨rfl,HB.out⟩
set_option maxHeartbeats 1000000 in
set_option maxRecDepth 100000 in
theorem tname_any (n : Int) (w : World) (ho : In64 n) (htab : Lib.TabIs Tryz.prog w "strings.asciiSpace" .u8 Lib.asciiSpaceTab) :
  Calls Tryz.prog 30 #[.int .i64 n] w (StrQ (patB n) w):=by
 unfold In64 at ho
 have HF:=Lib.hid (fields_tiles w htab)
 obtain⟨y,hy⟩:∃ y,patB n=y:=⟨_,rfl⟩
 have HY:=Lib.hid hy
 rw[hy]
 clear hy htab
 by_cases h1:n<1
 ·obtain rfl:ByteArray.empty=y:=by rw[←HY.out];unfold patB;rw[if_pos (.inl h1)]
  go_enter Tryz.func30,Tryz.ntmps30
  go_wp2_with fail
  refine HF.out.mono ?_
  rintro e w1 ⟨rfl,hn,hb⟩
  have HB:=Lib.hid hb
  clear hn hb
  go_wp2
  go_ret
  exact⟨rfl,HB.out⟩
 ·by_cases h2:37<n
  ·obtain rfl:ByteArray.empty=y:=by rw[←HY.out];unfold patB;rw[if_pos (.inr h2)]
   go_enter Tryz.func30,Tryz.ntmps30
   go_wp2_with fail
   refine HF.out.mono ?_
   rintro e w1 ⟨rfl,hn,hb⟩
   have HB:=Lib.hid hb
   clear hn hb
   go_wp2
   go_ret
   exact⟨rfl,HB.out⟩
  ·obtain⟨k,rfl⟩:∃ k:Nat,n=(k:Int)+1:=⟨(n-1).toNat,by omega⟩
   have hk:k<37:=by omega
   have he:patB ((k:Int)+1)=patNames.getD k ByteArray.empty:=by unfold patB;rw[if_neg (by omega),show ((k:Int)+1-1).toNat=k from by omega]
   rw[he]at HY
   clear he
   go_enter Tryz.func30,Tryz.ntmps30
   go_wp2_with fail
   refine HF.out.mono ?_
   rintro e w1 ⟨rfl,hn,hb⟩
   have hc:w1.cell? ⟨w.heap.size,0+k,none⟩=some (.string y):=by rw[←HY.out];exact hn.2 k hk
   rw[Nat.zero_add]at hc
   have hl:=hn.1
   have HB:=Lib.hid hb
   clear hn hb
   go_wp2
   go_ret
   exact⟨rfl,HB.out⟩
def patRowA:Array Value:=(Value.string ⟨#[]⟩::patNames.map Value.string).toArray
theorem wpList_build_as {P : Program} {ops:Array Oper} {rest:List Oper} {o : Oper} {a : Act} {w : World} {Q : Exit→Act→World→Prop} (hg:o.guard=none) (t:TypeId) (parts:Array (Nat × Operand)) (ho:o.op=.build t parts) (cs:Array Value)
  (hf:P.built t (parts.map fun (i,x)=>(i,a.eval x)).toList=some cs) (h:wpList P ops Q rest (a.put o.dst (.agg cs)) w):wpList P ops Q (o::rest) a w:=
 wpList_build hg t parts ho (by rw[hf];rfl) (by rw[hf];exact h)
theorem since_setRow {w0 w:World} (s:Since w0 w) {g : Nat} (hg:w0.heap.size≤g) (cs:Array Value):Since w0 (w.setRow g cs):=
 Below.trans s ⟨rfl,rfl,rfl,by simp[World.setRow],fun i hi=>setRow_other w g i cs (by omega)⟩
theorem pat_mid {n : Int} (h1:¬ n<1) (h2:¬ 37<n):(Value.string ⟨#[]⟩::patNames.map Value.string).toArray[n.toNat]? = some (.string (patB n)):=by
 obtain⟨k,rfl⟩:∃ k:Nat,n=(k:Int)+1:=⟨(n-1).toNat,by omega⟩
 unfold patB
 rw[if_neg (by omega),show ((k:Int)+1-1).toNat=k from by omega,show ((k:Int)+1).toNat=k+1 from by omega]
 have hk:k<patNames.length:=by show k<37;omega
 rw[List.getElem?_toArray,List.getElem?_cons_succ,List.getElem?_map,getD_at hk];rfl
set_option maxHeartbeats 1000000 in
set_option maxRecDepth 100000 in
theorem rtname_any (n:Int) (w:World) (ho:In64 n):Calls Tryz.prog 31 #[.int .i64 n] w (StrQ (patB n) w):=by
 unfold In64 at ho
 obtain⟨y,hy⟩:∃ y,patB n=y:=⟨_,rfl⟩
 rw[hy]
 by_cases h1:n<1
 ·obtain rfl:ByteArray.empty=y:=by rw[←hy];unfold patB;rw[if_pos (.inl h1)]
  clear hy
  go_enter Tryz.func31,Tryz.ntmps31
  go_wp2_with (first | (refine wpList_build_as rfl 113 _ rfl patRowA (by kernel_rfl) ?_) | (refine wpList_store_row rfl 113 _ _ rfl w.heap.size patRowA rfl rfl 113 _ (heap_last w _) (by kernel_rfl) (by kernel_rfl) (by kernel_rfl) ?_;generalize hW:(World.alloc w _).setRow w.heap.size patRowA=W;have HS:=Lib.hid (show Since w W from by rw[←hW];exact since_setRow ((Since.refl w).alloc _) (Nat.le_refl _) _);have hlt:w.heap.size<W.heap.size:=(by rw[←hW];simp[World.setRow]);clear hW))
  go_ret
  exact⟨rfl,HS.out⟩
 ·by_cases h2:37<n
  ·obtain rfl:ByteArray.empty=y:=by rw[←hy];unfold patB;rw[if_pos (.inr h2)]
   clear hy
   go_enter Tryz.func31,Tryz.ntmps31
   go_wp2_with (first | (refine wpList_build_as rfl 113 _ rfl patRowA (by kernel_rfl) ?_) | (refine wpList_store_row rfl 113 _ _ rfl w.heap.size patRowA rfl rfl 113 _ (heap_last w _) (by kernel_rfl) (by kernel_rfl) (by kernel_rfl) ?_;generalize hW:(World.alloc w _).setRow w.heap.size patRowA=W;have HS:=Lib.hid (show Since w W from by rw[←hW];exact since_setRow ((Since.refl w).alloc _) (Nat.le_refl _) _);have hlt:w.heap.size<W.heap.size:=(by rw[←hW];simp[World.setRow]);clear hW))
   go_ret
   exact⟨rfl,HS.out⟩
  ·have hm:=pat_mid h1 h2
   rw[hy]at hm
   clear hy
   obtain⟨k,rfl⟩:∃ k:Nat,n=(k:Int):=⟨n.toNat,by omega⟩
   have hk:k<38:=by omega
   rw[Int.toNat_natCast]at hm
   have HM:=Lib.hid hm
   clear hm
   go_enter Tryz.func31,Tryz.ntmps31
   go_wp2_with (first | (refine wpList_build_as rfl 113 _ rfl patRowA (by kernel_rfl) ?_) | (refine wpList_store_row rfl 113 _ _ rfl w.heap.size patRowA rfl rfl 113 _ (heap_last w _) (by kernel_rfl) (by kernel_rfl) (by kernel_rfl) ?_;generalize hW:(World.alloc w _).setRow w.heap.size patRowA=W;have HS:=Lib.hid (show Since w W from by rw[←hW];exact since_setRow ((Since.refl w).alloc _) (Nat.le_refl _) _);have hcl:W.cell? ⟨w.heap.size,k,none⟩=some (.string y):=(by rw[←hW];exact (cell_setRow_same _ _ _ _ _ _ _ (heap_last w _)).trans HM.out);have hlt:w.heap.size<W.heap.size:=(by rw[←hW];simp[World.setRow]);clear hW))
   go_ret
   exact⟨rfl,HS.out⟩
end Go.Proofs.YtmhojfpidedjeaaGreatDoor
