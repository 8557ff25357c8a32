/- Plain: the library's cutting of a text, byte by byte. -/
import Derived.Test.YtmhojfpidedjeaaGreatDoorRz02
import Derived.Lib.FieldsP
import Derived.Lib.SplitLaws
namespace Go.Proofs.YtmhojfpidedjeaaGreatDoor
open Go.Lib
set_option linter.unusedVariables false
theorem dec_low (n b0 b1 b2 b3:Nat) (h:b0<128):decodeN n b0 b1 b2 b3=(b0,1):=by unfold decodeN;rw[if_pos h]
theorem dec_high (n b0 b1 b2 b3:Nat) (h:¬ b0<128):128≤(decodeN n b0 b1 b2 b3).1∧(decodeN n b0 b1 b2 b3).2≤4∧(1<(decodeN n b0 b1 b2 b3).2→128≤b1)∧(2<(decodeN n b0 b1 b2 b3).2→128≤b2)∧(3<(decodeN n b0 b1 b2 b3).2→128≤b3):=by
 unfold decodeN
 rw[if_neg h]
 repeat' split
 all_goals (simp only;omega)
def isSepR (r:Nat):Bool:=r==32||r==9
theorem sep_low (b:UInt8):isSepR b.toNat=isSep b:=by
 unfold isSepR isSep
 congr 1
 ·rw[Bool.eq_iff_iff];simp[←UInt8.toNat_inj]
 ·rw[Bool.eq_iff_iff];simp[←UInt8.toNat_inj]
theorem sep_high (b:UInt8) (h:128≤b.toNat):isSep b=false:=by
 rw[←sep_low];unfold isSepR;simp;omega
theorem fldGo_run:∀ (a cur r:Bs),(∀ x∈a,isSep x=false)→fldGo cur (a++r)=fldGo (cur++a) r
 | [],cur,r,_=>by simp
 | x::a,cur,r,h=>by
  rw[List.cons_append,fldGo,if_neg (by rw[h x List.mem_cons_self];simp),fldGo_run a _ _ fun y hy=>h y (List.mem_cons_of_mem _ hy)]
  simp
theorem drop_at (l:Bs) (p:Nat) (h:p<l.length):l.drop p=l.getD p 0::l.drop (p+1):=by
 rw[List.drop_eq_getElem_cons h];simp[List.getD,h]
theorem rune_step (s:ByteArray) (pos:Nat) (h:pos<s.size):(isSepR (Utf8.decode s pos).1=true∧isSep (s.data.toList.getD pos 0)=true∧(Utf8.decode s pos).2=1) ∨
  (isSepR (Utf8.decode s pos).1=false∧∀ x∈(s.data.toList.drop pos).take (Utf8.decode s pos).2,isSep x=false):=by
 have hs:s.data.toList.length=s.size:=(size_eq s).symm
 generalize hL:s.data.toList=L at *
 by_cases hb:(L.getD pos 0).toNat<128
 ·have hd:Utf8.decode s pos=((L.getD pos 0).toNat,1):=by rw[decode_N,hL,dec_low _ _ _ _ _ hb]
  rw[hd,sep_low]
  cases hq:isSep (L.getD pos 0)
  ·refine .inr ⟨rfl,fun x hx=>?_⟩
   rw[drop_at L pos (by omega)]at hx
   simp at hx
   rw[hx];simpa using hq
  ·exact .inl ⟨rfl,rfl,rfl⟩
 ·have hd:=decode_N s pos
  rw[hL]at hd
  obtain⟨h1,h2,h3,h4,h5⟩:=dec_high (L.length-pos) (L.getD pos 0).toNat (L.getD (pos+1) 0).toNat (L.getD (pos+2) 0).toNat (L.getD (pos+3) 0).toNat hb
  rw[←hd]at h1 h2 h3 h4 h5
  refine .inr ⟨by unfold isSepR;simp;omega,fun x hx=>sep_high x ?_⟩
  obtain⟨j,hj,rfl⟩:=List.getElem_of_mem hx
  rw[List.getElem_take,List.getElem_drop]
  have hj2:j<(Utf8.decode s pos).2:=by rw[List.length_take]at hj;omega
  have hj3:pos+j<L.length:=by rw[List.length_take,List.length_drop]at hj;omega
  have e:L[pos+j]=L.getD (pos+j) 0:=by simp[List.getD,hj3]
  rw[e]
  rcases (show j=0∨j=1∨j=2∨j=3 by omega) with rfl|rfl|rfl|rfl
  ·rw[Nat.add_zero];omega
  ·exact h3 (by omega)
  ·exact h4 (by omega)
  ·exact h5 (by omega)
theorem fldGo_nil (cur:Bs):fldGo cur []=if cur=[] then [] else [cur]:=by rw[fldGo]
theorem spans_fld (s:ByteArray):∀ (f pos:Nat) (st:Option Nat) (acc:List (Nat × Nat)),s.size≤pos+f→pos≤s.size→(∀ a,st=some a→a<pos) →
  acc.map (fun p=>pieceU s.data.toList p.1 p.2)++fldGo (openPiece s.data.toList st pos) (s.data.toList.drop pos)=(closeSpans s (spansFromP isSepR s f pos st acc)).map (fun p=>pieceU s.data.toList p.1 p.2)
 | f,pos,st,acc,h,hp,hst=>by
  by_cases hlt:pos<s.size
  ·obtain⟨f,rfl⟩:∃ g,f=g+1:=⟨f-1,by omega⟩
   have hw:=width_pos s pos
   have hwn:pos+(Utf8.decode s pos).2≤s.size:=by
    have:=decodeN_le_n' (s.size-pos) (s.get! pos).toNat (s.get! (pos+1)).toNat (s.get! (pos+2)).toNat (s.get! (pos+3)).toNat (by omega)
    rw[←decode_at]at this
    omega
   have hL:pos<s.data.toList.length:=by rw[←size_eq];exact hlt
   simp only[spansFromP,if_pos hlt]
   rcases rune_step s pos hlt with ⟨h1,h2,h3⟩|⟨h1,h2⟩
   ·rw[h1,h3]
    simp only[if_true]
    rw[drop_at _ _ hL,fldGo,if_pos h2]
    cases st with
    | none =>
     have ih:=spans_fld s f (pos+1) none acc (by omega) (by omega) (fun a h=>by cases h)
     simpa [openPiece]using ih
    | some a =>
     have hpn:=pieceU_ne s.data.toList a pos (hst a rfl) (by omega)
     have ih:=spans_fld s f (pos+1) none (acc++[(a,pos)]) (by omega) (by omega) (fun a h=>by cases h)
     simpa [openPiece,hpn]using ih
   ·rw[h1]
    simp only[Bool.false_eq_true,if_false]
    have e0:s.data.toList.drop pos=(s.data.toList.drop pos).take (Utf8.decode s pos).2++s.data.toList.drop (pos+(Utf8.decode s pos).2):=by
     rw[←List.drop_drop,List.take_append_drop]
    rw[e0,fldGo_run _ _ _ h2]
    cases st with
    | none =>
     have ih:=spans_fld s f (pos+(Utf8.decode s pos).2) (some pos) acc (by omega) hwn (fun a h=>by cases h;omega)
     have e:([]:List UInt8)++(s.data.toList.drop pos).take (Utf8.decode s pos).2=pieceU s.data.toList pos (pos+(Utf8.decode s pos).2):=by
      unfold pieceU
      rw[List.nil_append,Nat.add_sub_cancel_left]
     simp only[openPiece]at ih ⊢
     rw[e]
     exact ih
    | some a =>
     have ih:=spans_fld s f (pos+(Utf8.decode s pos).2) (some a) acc (by omega) hwn (fun b h=>by cases h;have:=hst a rfl;omega)
     simp only[openPiece]at ih ⊢
     rw[pieceU_grow _ _ _ _ (Nat.le_of_lt (hst a rfl))]
     exact ih
  ·obtain rfl:pos=s.size:=by omega
   have hd:s.data.toList.drop s.size=[]:=List.drop_eq_nil_of_le (by rw[←size_eq];exact Nat.le_refl _)
   rw[hd,fldGo_nil,spansFromP_end _ s _ _ _ _ hlt]
   cases st with
   | none=>simp[closeSpans,openPiece]
   | some a =>
    have:=pieceU_ne s.data.toList a s.size (hst a rfl) (by rw[←size_eq];exact Nat.le_refl _)
    simp[closeSpans,openPiece,this]
theorem goFields_fld (s:ByteArray):goFieldsP isSepR s=(fldGo [] s.data.toList).map fun x=>(⟨x.toArray⟩:ByteArray):=by
 have h:=spans_fld s s.size 0 none [] (by omega) (Nat.zero_le _) (fun a h=>by cases h)
 simp only[List.map_nil,List.nil_append,openPiece,List.drop_zero]at h
 rw[h,List.map_map]
 unfold goFieldsP spansOfP
 refine List.map_congr_left fun p _=>?_
 apply ByteArray.ext
 apply Array.toList_inj.mp
 simp[pieceU]
theorem index_one_eq (c:UInt8) (r:Bs):index (c::r) [c]=0:=by rw[index];simp[List.isPrefixOf]
theorem index_one_ne (x c:UInt8) (r:Bs) (h:x≠c):index (x::r) [c]=if index r [c]==-1 then -1 else index r [c]+1:=by
 have hp:([c]:List UInt8).isPrefixOf (x::r)=false:=by simp[List.isPrefixOf,Ne.symm h]
 rw[index,hp];simp
theorem index_miss {x c:UInt8} {r : Bs} (h:x≠c) (hm:index r [c]=-1):index (x::r) [c]=-1:=by rw[index_one_ne x c r h,hm];rfl
theorem index_hit {x c:UInt8} {r : Bs} (h:x≠c) {j : Nat} (hm:index r [c]=j):index (x::r) [c]=((j+1:Nat):Int):=by
 rw[index_one_ne x c r h,hm,if_neg (by simp)];omega
theorem index_nat {c : UInt8} {r : Bs} (h:index r [c]≠-1):∃ j:Nat,index r [c]=j:=by
 have:=index_ge r [c]
 exact⟨(index r [c]).toNat,by omega⟩
theorem split_spl (c:UInt8):∀ s:Bs,split s [c]=spl c s
 | []=>by unfold split;rw[count_miss (by simp[index])];rfl
 | x::r=>by
  have ih:=split_spl c r
  by_cases hx:x=c
  ·subst hx
   unfold split
   rw[count_cons_eq,Nat.add_comm,splitK,index_one_eq,if_neg (by decide),spl,if_pos rfl,←ih]
   rfl
  ·unfold split at ih ⊢
   rw[count_cons_ne x c r hx,spl,if_neg hx,←ih]
   cases hn:count r [c]with
   | zero=>rfl
   | succ k =>
    obtain⟨j,hj⟩:=index_nat (c:=c) (r:=r) fun e=>by rw[count_miss e]at hn;omega
    rw[splitK,splitK,index_hit hx hj,hj,if_neg (by simp;omega),if_neg (by simp)]
    rfl
theorem cut_ahead (c:UInt8):∀ s:Bs,(cut s [c]).1=ahead c s∧(cut s [c]).2.1=s.drop ((ahead c s).length+1)
 | []=>by simp[cut,index,ahead]
 | x::r=>by
  obtain⟨h1,h2⟩:=cut_ahead c r
  by_cases hx:x=c
  ·subst hx
   unfold cut
   rw[index_one_eq,if_pos (by decide)]
   simp[ahead]
  ·have ha:ahead c (x::r)=x::ahead c r:=by unfold ahead;rw[List.takeWhile_cons,if_pos (by simpa using hx)]
   rw[ha]
   unfold cut at h1 h2 ⊢
   by_cases hm:index r [c]=-1
   ·rw[hm,if_neg (by decide)]at h1 h2
    rw[index_miss hx hm,if_neg (by decide)]
    exact⟨congrArg (x::·) h1,h2⟩
   ·obtain⟨j,hj⟩:=index_nat hm
    rw[hj,if_pos (by omega)]at h1 h2
    rw[index_hit hx hj,if_pos (by omega)]
    rw[Int.toNat_natCast]at h1 h2 ⊢
    refine⟨congrArg (x::·) h1,?_⟩
    show (x::r).drop (j+1+1)=_
    exact h2
end Go.Proofs.YtmhojfpidedjeaaGreatDoor
