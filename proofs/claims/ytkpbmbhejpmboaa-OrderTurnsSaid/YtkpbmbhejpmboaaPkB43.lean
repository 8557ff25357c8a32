/- A map from int to int whose entries all say what f says; its block alone is written. The closure that counts: order.Orders$1. -/
import Derived.Test.YtkpbmbhejpmboaaPkB00
import Derived.Test.YtkpbmbhejpmboaaPkB01
import Derived.Test.YtkpbmbhejpmboaaPkB04
import Derived.Test.YtkpbmbhejpmboaaPkB42
namespace Go.Proofs.Ytkpbmbhejpmboaa
open Go.RowKit
def Memo (f:Nat→Int) (w:World) (mb:Nat):Prop:=
 ∃ es clock,w.heap[mb]? = some (.map es clock)∧∀ e∈es.toList,∃ g:Nat,e.key=.int .i64 g∧e.val=.int .i64 (f g)
def HasKey (w:World) (mb:Nat) (g:Nat):Prop:=∃ es clock,w.heap[mb]? = some (.map es clock)∧∃ e∈es.toList,e.key=.int .i64 g
structure But (mb:Nat) (w w':World):Prop where
 os:w'.os=w.os
 tape:w'.tape=w.tape
 output:w'.output=w.output
 size:w'.heap.size=w.heap.size
 block:∀ k,k≠mb→w'.heap[k]? = w.heap[k]?
theorem But.refl (mb:Nat) (w:World):But mb w w:=⟨rfl,rfl,rfl,rfl,fun _ _=>rfl⟩
theorem But.trans {mb:Nat} {a b c:World} (h:But mb a b) (k:But mb b c):But mb a c:=⟨k.os.trans h.os,k.tape.trans h.tape,k.output.trans h.output,k.size.trans h.size,fun i hi=>(k.block i hi).trans (h.block i hi)⟩
theorem But.cell {mb:Nat} {a b:World} (h:But mb a b) {p : Addr} (hp:p.block≠mb):b.cell? p=a.cell? p:=World.cell?_of_block (h.block p.block hp)
theorem But.nums {mb:Nat} {a b:World} (h:But mb a b) {k : IntKind} {v : Value} {l : List Int} (hv:Nums k a v l) (hne:∀ q,v.ownBlock=some q→q≠mb):Nums k b v l:=by
 rcases hv with hv|⟨q,off,cap,h1,h2,h3,h4,h5⟩
 ·exact .inl hv
 ·subst h1
  have hq:=hne q rfl
  exact .inr ⟨q,off,cap,rfl,h2,h3,by rw[h.size];exact h4,fun j n hj=>by rw[h.cell (p:=⟨q,off+j,none⟩) hq];exact h5 j n hj⟩
section
variable {P : Program} {t K E:TypeId} {f : Nat→Int} {w : World} {mb:Nat}
theorem memo_lookup (ht:P.underlying t=some (.map K E)) (hK:P.underlying K=some (.int .i64)) (hz:∀ w:World,(zeroValue E).run P w=.ok (.int .i64 0) w) (h:Memo f w mb) (g:Nat) :
  (Instr.lookup t (.map (some mb)) (.int .i64 g) true).run P w=.ok (.tuple #[.int .i64 (f g),.bool true]) w ∨
  ((Instr.lookup t (.map (some mb)) (.int .i64 g) true).run P w=.ok (.tuple #[.int .i64 0,.bool false]) w∧¬ HasKey w mb g):=by
 obtain⟨es,clock,hb,hall⟩:=h
 have hkey:MapKept.IsKey (.int .i64) (.int .i64 (g:Int)):=rfl
 have hks:∀ x∈es.toList,MapKept.IsKey (.int .i64) x.key:=fun x hx=>by obtain⟨g',hg',_⟩:=hall x hx;rw[hg'];rfl
 rcases MapKept.findNow_spec hkey es.toList 0 hks with ⟨h1,h2⟩|⟨j,e,h1,h2,h3⟩
 ·right
  refine⟨by simp[Instr.lookup,run_underlying ht,MapKept.run_getObj_map hb,MapKept.run_checkKey hK hkey,MapKept.run_findKey hK h1,hz,Result.andThen],?_⟩
  rintro⟨es',c',hb',e,he,hek⟩
  rw[hb]at hb'
  cases hb'
  exact h2 e he hek
 ·left
  obtain⟨g',hg',hv'⟩:=hall e (List.mem_of_getElem? h2)
  have:g'=g:=by rw[hg']at h3;injection h3 with _ h3;omega
  subst this
  simp[Instr.lookup,run_underlying ht,MapKept.run_getObj_map hb,MapKept.run_checkKey hK hkey,MapKept.run_findKey hK h1,hv',Result.andThen]
theorem memo_update (ht:P.underlying t=some (.map K E)) (hK:P.underlying K=some (.int .i64)) (h:Memo f w mb) (g:Nat) :
  ∃ w',(Instr.mapUpdate t (.map (some mb)) (.int .i64 g) (.int .i64 (f g))).run P w=.ok () w'∧Memo f w' mb∧But mb w w'∧HasKey w' mb g∧∀ k,HasKey w mb k→HasKey w' mb k:=by
 obtain⟨es,clock,hb,hall⟩:=h
 have hlt:mb<w.heap.size:=(Array.getElem?_eq_some_iff.1 hb).1
 have hkey:MapKept.IsKey (.int .i64) (.int .i64 (g:Int)):=rfl
 have hks:∀ x∈es.toList,MapKept.IsKey (.int .i64) x.key:=fun x hx=>by obtain⟨g',hg',_⟩:=hall x hx;rw[hg'];rfl
 have hput:∀ o,({ w with heap:=w.heap.setIfInBounds mb o }:World).heap[mb]? = some o:=fun o=>by simp[hlt]
 have hbut:∀ o,But mb w { w with heap:=w.heap.setIfInBounds mb o }:=fun o=>⟨rfl,rfl,rfl,by simp,fun k hk=>by simp[Ne.symm hk]⟩
 rcases MapKept.findNow_spec hkey es.toList 0 hks with ⟨h1,h2⟩|⟨j,e0,h1,h2,h3⟩
 ·refine⟨_,by simp[Instr.mapUpdate,run_underlying ht,MapKept.run_getObj_map hb,MapKept.run_checkKey hK hkey,MapKept.run_findKey hK h1,MapKept.run_setObj_map _ hb,Result.andThen];rfl,?_,hbut _,?_,?_⟩
  ·refine⟨_,_,hput _,fun x hx=>?_⟩
   simp only[Array.toList_push,List.mem_append,List.mem_singleton]at hx
   rcases hx with hx|rfl
   ·exact hall x hx
   ·exact⟨g,rfl,rfl⟩
  ·exact⟨_,_,hput _,{ key:=.int .i64 g,val:=.int .i64 (f g),born:=clock },by simp,rfl⟩
  ·rintro k ⟨es',c',hb',e,he,hek⟩
   rw[hb]at hb'
   cases hb'
   exact⟨_,_,hput _,e,by simp only[Array.toList_push,List.mem_append];exact .inl he,hek⟩
 ·have hj:es[j]? = some e0:=by simpa using h2
  rw[Nat.zero_add]at h1
  refine⟨_,by simp[Instr.mapUpdate,run_underlying ht,MapKept.run_getObj_map hb,MapKept.run_checkKey hK hkey,MapKept.run_findKey hK h1,hj,h3,MapKept.run_keyThatStays hkey,MapKept.run_setObj_map _ hb,Result.andThen];rfl,?_,hbut _,?_,?_⟩
  ·refine⟨_,_,hput _,fun x hx=>?_⟩
   rcases MapFrom.mem_modify hx with hx|⟨e',he',rfl⟩
   ·exact hall x hx
   ·exact⟨g,rfl,rfl⟩
  ·refine⟨_,_,hput _,{ e0 with key:=.int .i64 g,val:=.int .i64 (f g) },?_,rfl⟩
   rw[Array.mem_toList_iff,Array.mem_iff_getElem?]
   exact⟨j,by rw[Array.getElem?_modify,if_pos rfl,hj];rfl⟩
  ·rintro k ⟨es',c',hb',e,he,hek⟩
   rw[hb]at hb'
   cases hb'
   rw[Array.mem_toList_iff,Array.mem_iff_getElem?]at he
   obtain⟨i,hi⟩:=he
   refine⟨_,_,hput _,?_⟩
   by_cases hji:j=i
   ·subst hji
    have:e0=e:=by rw[hj]at hi;simpa using hi
    subst this
    refine⟨{ e0 with key:=.int .i64 g,val:=.int .i64 (f g) },?_,by rw[←hek,h3]⟩
    rw[Array.mem_toList_iff,Array.mem_iff_getElem?]
    exact⟨j,by rw[Array.getElem?_modify,if_pos rfl,hj];rfl⟩
   ·refine⟨e,?_,hek⟩
    rw[Array.mem_toList_iff,Array.mem_iff_getElem?]
    exact⟨i,by rw[Array.getElem?_modify,if_neg hji];exact hi⟩
end
set_option linter.unusedVariables false
theorem zero_int (w:World):(zeroValue 3).run Try.prog w=.ok (.int .i64 0) w:=by kernel_rfl
structure Ready (bh:List Int) (mb bk bl bb bc:Nat) (w:World):Prop where
 known:w.cell? ⟨bk,0,none⟩=some (.map (some mb))
 rows:∃ a cap,w.cell? ⟨bl,0,none⟩=some (.slice a bh.length cap)
 behind:∃ bv,w.cell? ⟨bb,0,none⟩=some bv∧Nums .i64 w bv bh∧∀ q,bv.ownBlock=some q→q≠mb
 count:w.cell? ⟨bc,0,none⟩=some (.func (.func 71) #[] #[.pointer (some ⟨bk,0,none⟩),.pointer (some ⟨bl,0,none⟩),.pointer (some ⟨bb,0,none⟩),.pointer (some ⟨bc,0,none⟩)])
 ne:bk≠mb∧bl≠mb∧bb≠mb∧bc≠mb
theorem Ready.but {bh:List Int} {mb bk bl bb bc:Nat} {w w':World} (h:Ready bh mb bk bl bb bc w) (s:But mb w w'):Ready bh mb bk bl bb bc w':=by
 obtain⟨h1,⟨a,cap,h2⟩,⟨bv,h3,h4,h5⟩,h6,n1,n2,n3,n4⟩:=h
 exact⟨by rw[s.cell (p:=⟨bk,0,none⟩) n1];exact h1,⟨a,cap,by rw[s.cell (p:=⟨bl,0,none⟩) n2];exact h2⟩,⟨bv,by rw[s.cell (p:=⟨bb,0,none⟩) n3];exact h3,s.nums h4 h5,h5⟩,by rw[s.cell (p:=⟨bc,0,none⟩) n4];exact h6,n1,n2,n3,n4⟩
def Keeps (bh:List Int) (mb:Nat) (x y:World):Prop:=But mb x y∧(Memo (cnt bh bh.length) x mb→Memo (cnt bh bh.length) y mb)∧∀ k,HasKey x mb k→HasKey y mb k
theorem Keeps.refl (bh:List Int) (mb:Nat) (x:World):Keeps bh mb x x:=⟨But.refl _ _,id,fun _ h=>h⟩
theorem Keeps.trans {bh:List Int} {mb:Nat} (x y z:World) (h:Keeps bh mb x y) (k:Keeps bh mb y z):Keeps bh mb x z:=⟨h.1.trans k.1,fun m=>k.2.1 (h.2.1 m),fun q hq=>k.2.2 q (h.2.2 q hq)⟩
theorem Keeps.drew (bh:List Int) (mb:Nat) (x:World):Keeps bh mb x x.drew:=⟨⟨rfl,rfl,rfl,rfl,fun _ _=>rfl⟩,fun h=>h,fun _ h=>h⟩
def atV:List Value→Nat→Value→Prop
 | [],_,_=>True
 | x::_,0,v=>v=x
 | _::r,i+1,v=>atV r i v
def nthV (l:List Value) (i:Nat) (v:Value) (_:World):Prop:=atV l i v
def CountPost (bh:List Int) (mb g:Nat) (w:World) (e:Ending) (w':World):Prop:=
 e=.returned (.int .i64 (cnt bh bh.length g))∧But mb w w'∧Memo (cnt bh bh.length) w' mb∧∀ k,HasKey w mb k→HasKey w' mb k
set_option maxHeartbeats 4000000 in
set_option maxRecDepth 100000 in
theorem count_any (bh:List Int) (hn:bh.length≤12) (mb bk bl bb bc:Nat):∀ (f g:Nat) (w:World),unset bh.length g≤f→g<2 ^ bh.length→Ready bh mb bk bl bb bc w→Memo (cnt bh bh.length) w mb→HasKey w mb (2 ^ bh.length-1) →
  Calls Try.prog 71 #[.int .i64 g,.pointer (some ⟨bk,0,none⟩),.pointer (some ⟨bl,0,none⟩),.pointer (some ⟨bb,0,none⟩),.pointer (some ⟨bc,0,none⟩)] w (CountPost bh mb g w):=by
 intro f
 induction f with
 | zero =>
  intro g w hf hg hr hm hk
  have hfull:=(unset_full bh.length g hg).1 (by omega)
  have hkn:=hr.known
  rcases memo_lookup (P:=Try.prog) Try.underlying112 Try.underlying3 zero_int hm g with hl|⟨_,hno⟩
  ·clear hfull
   have HM:=Lib.hid hm
   clear hr hk hm
   generalize hc:cnt bh bh.length g=c at *
   have HC:=Lib.hid hc;clear hc
   go_enter Try.func71,Try.ntmps71
   go_wp2
   go_ret
   exact⟨by rw[HC.out];rfl,But.refl _ _,HM.out,fun _ h=>h⟩
  ·subst hfull;exact absurd hk hno
 | succ f ih =>
  intro g w hf hg hr hm hk
  have hkn:=hr.known
  rcases memo_lookup (P:=Try.prog) Try.underlying112 Try.underlying3 zero_int hm g with hl|⟨hl,hno⟩
  ·have HM:=Lib.hid hm
   clear hr hk hm ih
   generalize hc:cnt bh bh.length g=c at *
   have HC:=Lib.hid hc;clear hc
   go_enter Try.func71,Try.ntmps71
   go_wp2
   go_ret
   exact⟨by rw[HC.out];rfl,But.refl _ _,HM.out,fun _ h=>h⟩
  ·have hne:g≠2 ^ bh.length-1:=fun e=>by subst e;exact hno hk
   have hce:=cnt_eq bh bh.length g (by omega) hg hne
   have HCE:=Lib.hid hce;clear hce
   have HR:=Lib.hid hr
   have HM:=Lib.hid hm
   have HK:=Lib.hid hk
   have HN:=Lib.hid hno
   have IH:=Lib.hid ih
   have HG:=Lib.hid hg
   have HF:=Lib.hid hf
   have HNE:=Lib.hid hne
   obtain⟨a,cap,hrows⟩:=hr.rows
   clear hr hm hk hno ih hne hg hf
   go_enter Try.func71,Try.ntmps71
   go_wp2
   go_loopw [7,20] (fun s i wr=>∃ k:Nat,k≤bh.length∧i=.int .i64 k∧s=.int .i64 (psum (term bh bh.length g) k)∧But mb w wr∧Memo (cnt bh bh.length) wr mb∧(∀ k,HasKey w mb k→HasKey wr mb k)) (fun _ i _=>bh.length-(intOf i).toNat)
   case atStart=>exact⟨0,Nat.zero_le _,rfl,rfl,But.refl _ _,HM.out,fun _ h=>h⟩
   case round =>
    obtain⟨k,hkb,rfl,rfl,hbut,hmr,hkeys⟩:=hrel
    have HMR:=Lib.hid hmr
    have HKEYS:=Lib.hid hkeys
    clear hmr hkeys
    clear hl
    by_cases hlt:k<bh.length
    ·obtain⟨bv,hbv,hnum,hbne⟩:=(HR.out.but hbut).behind
     obtain⟨a2,cap2,rfl⟩:=nums_lenI hnum
     obtain⟨_,hc⟩:=nums_cell hnum
     obtain⟨b2,off2,rfl,hb2,hcell⟩:=hc (by intro e;rw[e]at hlt;simp at hlt)
     obtain⟨y,hy⟩:∃ y,bh[k]? = some y:=⟨_,List.getElem?_eq_getElem hlt⟩
     have hcy:=hcell k y hy
     have hcount:=(HR.out.but hbut).count
     clear hcell hc hbne hnum
     have hps:psum (term bh bh.length g) (k+1)=psum (term bh bh.length g) k+term bh bh.length g k:=rfl
     have hbd:=psum_bound (t:=term bh bh.length g) (B:=23298085122481) k (fun i _=>term_bound bh bh.length g i hn)
     have hgd:bh.getD k 0=y:=by simp[List.getD_eq_getElem?_getD,hy]
     have HPS:=Lib.hid hps
     have hb1:0≤psum (term bh bh.length g) k:=hbd.1
     have hb2':psum (term bh bh.length g) k≤300000000000000:=by
      have:(k:Int)*23298085122481≤12*23298085122481:=Int.mul_le_mul_of_nonneg_right (by omega) (by omega)
      omega
     clear hps hbd hy
     have hu:unsetI g k=(bits .and .i64 ((g:Int) / 2 ^ k) 1==0):=rfl
     have hr2:readyI bh g k=(bits .andNot .i64 y (g:Int)==0):=by unfold readyI;rw[hgd]
     clear hgd
     have hterm:term bh bh.length g k=if unsetI g k&&readyI bh g k then cnt bh bh.length (g ||| 2 ^ k) else 0:=rfl
     have HT:=Lib.hid hterm;clear hterm
     generalize hs0:psum (term bh bh.length g) k=s0 at *
     clear hs0
     cases h1:(bits .and .i64 ((g:Int) / 2 ^ k) 1==0) with
     | false =>
      rw[h1]at hu
      have HU:=Lib.hid hu
      clear hu hr2
      go_wp2
      go_roundw
      case rel=>exact⟨k+1,by omega,by go_num,by rw[HPS.out,HT.out,HU.out];simp,hbut,HMR.out,HKEYS.out⟩
      case measure=>simp[intOf];omega
     | true =>
      cases h2:(bits .andNot .i64 y (g:Int)==0) with
      | false =>
       rw[h1]at hu
       rw[h2]at hr2
       have HU:=Lib.hid hu
       have HR2:=Lib.hid hr2
       clear hu hr2
       go_wp2
       go_roundw
       case rel=>exact⟨k+1,by omega,by go_num,by rw[HPS.out,HT.out,HU.out,HR2.out];simp,hbut,HMR.out,HKEYS.out⟩
       case measure=>simp[intOf];omega
      | true =>
       rw[h1]at hu
       rw[h2]at hr2
       have hor:=or_eq g k (Nat.lt_of_lt_of_le HG.out (Nat.pow_le_pow_right (by decide) (by omega))) (by omega)
       have hbit:g.testBit k=false:=by
        have:=unsetI_eq g k (Nat.lt_of_lt_of_le HG.out (Nat.pow_le_pow_right (by decide) (by omega)))
        rw[hu]at this;simpa using this.symm
       have hcb:=cnt_bound bh bh.length (g ||| 2 ^ k) hn
       have hcall:∀ w1,Keeps bh mb wr w1→Calls Try.prog 71 #[.int .i64 ((g ||| 2 ^ k:Nat):Int),.pointer (some ⟨bk,0,none⟩),.pointer (some ⟨bl,0,none⟩),.pointer (some ⟨bb,0,none⟩),.pointer (some ⟨bc,0,none⟩)] w1 (CountPost bh mb (g ||| 2 ^ k) w1):=fun w1 hs =>
        IH.out (g ||| 2 ^ k) w1 (by have:=unset_or bh.length g k hlt hbit;have:=HF.out;omega) (Nat.or_lt_two_pow HG.out (Nat.pow_lt_pow_right (by decide) hlt)) ((HR.out.but hbut).but hs.1) (hs.2.1 HMR.out) (hs.2.2 _ (HKEYS.out _ HK.out))
       have HCALL:=Lib.hid hcall
       have HU:=Lib.hid hu
       have HR2:=Lib.hid hr2
       clear hu hr2 hcall hbit
       unfold CountPost at HCALL
       generalize hc:cnt bh bh.length (g ||| 2 ^ k)=c at *
       have HC:=Lib.hid hc;clear hc
       have hp1:(0:Int)≤2 ^ k:=Int.le_of_lt (Int.pow_pos (by decide))
       have hp2:(2:Int) ^ k≤8192:=by
        have:(2:Nat) ^ k≤2 ^ 13:=Nat.pow_le_pow_right (by decide) (by omega)
        have e:(2:Int) ^ k=((2 ^ k:Nat):Int):=by push_cast;rfl
        omega
       go_wp2
       refine wp_region_rel (Keeps bh mb) Keeps.trans (Keeps.drew _ _ _) rfl (by decide +kernel) (by decide +kernel)
        (nthV [.int .i64 s0,.func (.func 71) #[] #[.pointer (some ⟨bk,0,none⟩),.pointer (some ⟨bl,0,none⟩),.pointer (some ⟨bb,0,none⟩),.pointer (some ⟨bc,0,none⟩)],.int .i64 g,.int .i64 k,.int .i64 (2 ^ k),.int .i64 ((g ||| 2 ^ k:Nat):Int),.int .i64 c,.int .i64 (s0+c),.int .i64 (s0+c)])
        (fun _ _ _ _ h _=>h) ⟨?_,?_,?_,?_,?_,?_,?_,?_,?_,trivial⟩ ?_
       rotate_right
       all_goals
        intro vs w1 hs hk
        have hcount:=((HR.out.but hbut).but hs.1).count
        simp only[putAll,Act.put,Knows,KnowsAll,nthV,atV,List.setIfInBounds_toArray,List.set_cons_zero,List.set_cons_succ,Nat.reduceAdd,List.length_cons,List.length_nil]at hk ⊢
        try simp only[hk]
       ·have HS:=Lib.hid hs
        clear hcount
        go_wp2
        go_roundw
        case rel=>exact⟨k+1,by omega,by go_num,by rw[HPS.out,HT.out,HU.out,HR2.out];rfl,hbut.trans HS.out.1,HS.out.2.1 HMR.out,fun q hq=>HS.out.2.2 q (HKEYS.out q hq)⟩
        case measure=>simp[intOf];omega
       ·intro hold
        have h8:vs 8=.int .i64 s0:=hold 8 (by decide +kernel)
        rw[h8]
        clear hold
        go_wp2
        exact⟨_,rfl,rfl,Keeps.refl _ _ _⟩
       ·intro _
        go_wp2
        exact⟨_,rfl,rfl,Keeps.refl _ _ _⟩
       ·intro _
        go_wp2
        exact⟨_,rfl,rfl,Keeps.refl _ _ _⟩
       ·intro _
        go_wp2
        exact⟨_,rfl,rfl,Keeps.refl _ _ _⟩
       ·intro _
        go_wp2
        exact⟨_,rfl,rfl,Keeps.refl _ _ _⟩
       ·intro _
        go_wp2
        exact⟨_,rfl,rfl,Keeps.refl _ _ _⟩
       ·intro _
        have hcall:=HCALL.out w1 hs
        have HC1:=Lib.hid hcall
        clear hcall
        go_wp2_with fail
        refine HC1.out.mono ?_
        rintro e w9 ⟨rfl,hb9,hm9,hk9⟩
        have HM9:=Lib.hid (fun (_:Memo (cnt bh bh.length) w1 mb)=>hm9)
        have HK9:=Lib.hid hk9
        clear hm9 hk9
        go_wp2
        exact⟨_,rfl,rfl,hb9,HM9.out,HK9.out⟩
       ·intro _
        go_wp2
        exact⟨_,rfl,rfl,Keeps.refl _ _ _⟩
       ·intro _
        go_wp2
        exact⟨_,rfl,rfl,Keeps.refl _ _ _⟩
    ·obtain rfl:k=bh.length:=by omega
     obtain⟨w2,hup,hm2,hbut2,hkey2,hkeys2⟩:=memo_update (P:=Try.prog) Try.underlying112 Try.underlying3 HMR.out g
     rw[HCE.out]at hup
     have hkn2:=(HR.out.but hbut).known
     have HM2:=Lib.hid hm2
     have HK2:=Lib.hid hkeys2
     clear hm2 hkeys2 hkey2
     go_wp2
     go_ret
     exact⟨by rw[HCE.out];rfl,hbut.trans hbut2,HM2.out,fun q hq=>HK2.out q (HKEYS.out q hq)⟩
end Go.Proofs.Ytkpbmbhejpmboaa
