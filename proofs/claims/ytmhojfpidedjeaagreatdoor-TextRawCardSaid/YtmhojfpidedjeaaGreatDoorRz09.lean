/- jacquardlaw25.tiles: tables of the same tiles are the same. -/
import Derived.Test.YtmhojfpidedjeaaGreatDoorRz08
namespace Go.Proofs.YtmhojfpidedjeaaGreatDoor
open Go.RowKit
set_option linter.unusedVariables false
set_option maxHeartbeats 2000000 in
set_option maxRecDepth 100000 in
theorem tiles_same (va vb:Value) (l:List DTile) (w:World) (ha:TilesIn w va l) (hb:TilesIn w vb l):Calls Tryz.prog 35 #[va,vb] w fun e w'=>e=.returned (.bool true)∧Since w w':=by
 obtain⟨a1,c1,e1,hl1⟩:=RowIn.shape ha
 obtain⟨a2,c2,e2,hl2⟩:=RowIn.shape hb
 obtain rfl:va=.slice a1 l.length c1:=e1
 obtain rfl:vb=.slice a2 l.length c2:=e2
 unfold maxLen at hl1
 clear hl2
 have HA:=Lib.hid ha
 have HB:=Lib.hid hb
 obtain⟨n,hn⟩:∃ n,l.length=n:=⟨_,rfl⟩
 rw[hn]at hl1
 clear ha hb
 simp only[hn]
 go_enter Tryz.func35,Tryz.ntmps35
 go_wp2_with fail
 go_loopw [5] (fun i wr=>∃ k:Nat,i=.int .i64 k∧k≤n∧Since w wr) (fun i _=>n-(intOf i).toNat)
 case atStart=>exact⟨0,rfl,Nat.zero_le _,Since.refl _⟩
 case round =>
  obtain⟨k,rfl,hk,hs1⟩:=hrel
  have HS1:=Lib.hid hs1
  by_cases hlt:k<n
  ·obtain⟨rb,off,x,rfl,hrb,hx,hc,hxr⟩:=RowIn.at (hn ▸ HA.out) (hn ▸ hlt)
   obtain⟨rb2,off2,y,rfl,hrb2,hy,hc2,hyr⟩:=RowIn.at (hn ▸ HB.out) (hn ▸ hlt)
   obtain rfl:x=y:=by rw[hx]at hy;exact Option.some.inj hy
   obtain⟨pat,cost⟩:=x
   have C0:=Lib.hid (show wr.cell? ⟨rb,off+k*2,none⟩=some (.int .i64 pat) from (hs1.cell (p:=⟨rb,off+k*2+0,none⟩) hrb).trans (hc 0 (by decide)))
   have C1:=Lib.hid (show wr.cell? ⟨rb,off+k*2+1,none⟩=some (.int .i64 cost) from (hs1.cell (p:=⟨rb,off+k*2+1,none⟩) hrb).trans (hc 1 (by decide)))
   have D0:=Lib.hid (show wr.cell? ⟨rb2,off2+k*2,none⟩=some (.int .i64 pat) from (hs1.cell (p:=⟨rb2,off2+k*2+0,none⟩) hrb2).trans (hc2 0 (by decide)))
   have D1:=Lib.hid (show wr.cell? ⟨rb2,off2+k*2+1,none⟩=some (.int .i64 cost) from (hs1.cell (p:=⟨rb2,off2+k*2+1,none⟩) hrb2).trans (hc2 1 (by decide)))
   have HR1:=Lib.hid (Nat.lt_of_lt_of_le hrb hs1.size)
   have HR2:=Lib.hid (Nat.lt_of_lt_of_le hrb2 hs1.size)
   clear hs1 hc hc2 hx hy hxr hyr hrb hrb2
   go_wp2_with fail
   refine wp_region_list_facts rfl (by decide +kernel) (by decide +kernel)
    [Is (.slice (some ⟨rb,off,none⟩) n c1),Is (.int .i64 k),Is (.pointer (some ⟨rb,off+k*2,none⟩)),Is (.agg #[.int .i64 pat,.int .i64 cost]),Is (.slice (some ⟨rb2,off2,none⟩) n c2),Is (.int .i64 k),Is (.pointer (some ⟨rb2,off2+k*2,none⟩)),Is (.agg #[.int .i64 pat,.int .i64 cost]),Is (.bool false)]
    (by repeat (first | exact trivial | refine⟨Is.stable _,?_⟩ | refine⟨IsNums.stable _ _,?_⟩ | refine⟨IsRows.stable _ _,?_⟩)) ⟨?_,?_,?_,?_,?_,?_,?_,?_,?_,trivial⟩ ?_
   all_goals
    intro vs w8 hs hk
    simp only[putAll,Act.put,Knows,KnowsAll,nthF,Is,List.setIfInBounds_toArray,List.set_cons_zero,List.set_cons_succ,Nat.reduceAdd,List.length_cons,List.length_nil]at hk ⊢
    try simp only[hk]
   ·go_wp2
    exact⟨_,rfl,rfl,Since.refl _⟩
   ·go_wp2
    exact⟨_,rfl,rfl,Since.refl _⟩
   ·go_wp2
    exact⟨_,rfl,rfl,Since.refl _⟩
   ·have z0:w8.cell? ⟨rb,off+k*2,none⟩=some (.int .i64 pat):=(hs.cell (p:=⟨rb,off+k*2,none⟩) HR1.out).trans C0.out
    have z1:w8.cell? ⟨rb,off+k*2+1,none⟩=some (.int .i64 cost):=(hs.cell (p:=⟨rb,off+k*2+1,none⟩) HR1.out).trans C1.out
    have z2:=Nat.lt_of_lt_of_le HR1.out hs.size
    clear hs
    go_wp2
    exact⟨_,rfl,rfl,Since.refl _⟩
   ·go_wp2
    exact⟨_,rfl,rfl,Since.refl _⟩
   ·go_wp2
    exact⟨_,rfl,rfl,Since.refl _⟩
   ·go_wp2
    exact⟨_,rfl,rfl,Since.refl _⟩
   ·have z0:w8.cell? ⟨rb2,off2+k*2,none⟩=some (.int .i64 pat):=(hs.cell (p:=⟨rb2,off2+k*2,none⟩) HR2.out).trans D0.out
    have z1:w8.cell? ⟨rb2,off2+k*2+1,none⟩=some (.int .i64 cost):=(hs.cell (p:=⟨rb2,off2+k*2+1,none⟩) HR2.out).trans D1.out
    have z2:=Nat.lt_of_lt_of_le HR2.out hs.size
    clear hs
    go_wp2
    exact⟨_,rfl,rfl,Since.refl _⟩
   ·go_wp2
    exact⟨_,rfl,rfl,Since.refl _⟩
   ·have HS9:=Lib.hid (HS1.out.trans hs)
    clear hs hk
    go_wp2
    go_roundw
    case rel=>exact⟨k+1,by go_num,by omega,HS9.out⟩
    case measure=>simp[intOf];omega
  ·obtain rfl:k=n:=by omega
   clear hs1
   go_wp2
   go_ret
   exact⟨rfl,HS1.out⟩
end Go.Proofs.YtmhojfpidedjeaaGreatDoor
