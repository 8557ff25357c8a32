/- Laws of runs over a map of integer keys whose entries are written out: an update of a new block, and a look-up; over any program. -/
import Derived.Test.YtmhojfpidedjeaaGreatDoorTb11
import Derived.WalkKit
namespace Go.Proofs.YtmhojfpidedjeaaGreatDoor
open Go.RowKit
theorem alloc_set (w:World) (o o':Obj):({ w.alloc o with heap:=(w.alloc o).heap.setIfInBounds w.heap.size o' }:World)=w.alloc o':=by
 have:(w.heap.push o).setIfInBounds w.heap.size o'=w.heap.push o':=by
  apply Array.ext'
  simp[Array.toList_setIfInBounds,Array.toList_push]
 simp only[World.alloc]
 rw[this]
def fresh (n:Int):List MapEntry→Bool
 | []=>true
 | e::r=>match e.key with
  | .int .i64 m=>!(n==m)&&fresh n r
  | _=>false
def look (n:Int):List MapEntry→Option Value
 | []=>none
 | e::r=>match e.key with
  | .int .i64 m=>if n==m then some e.val else look n r
  | _=>none
theorem fresh_nil (n:Int):fresh n []=true:=Eq.trans (Eq.refl _) (Eq.refl true)
theorem fresh_cons (n m:Int) (v:Value) (b:Nat) (r:List MapEntry):fresh n ({ key:=.int .i64 m,val:=v,born:=b }::r)=(!(n==m)&&fresh n r):=Eq.trans (Eq.refl _) (Eq.refl _)
theorem look_nil (n:Int):look n []=none:=Eq.trans (Eq.refl _) (Eq.refl _)
theorem look_cons (n m:Int) (v:Value) (b:Nat) (r:List MapEntry):look n ({ key:=.int .i64 m,val:=v,born:=b }::r)=if n==m then some v else look n r:=Eq.trans (Eq.refl _) (Eq.refl _)
theorem findNow_fresh (n:Int):∀ (l:List MapEntry) (i:Nat),fresh n l=true→Instr.findNow (.int .i64) (.int .i64 n) l i=some none
 | [],_,_=>rfl
 | e::r,i,h=>by
  unfold fresh at h
  split at h
  ·rename_i m hm
   simp at h
   have hb:(n==m)=false:=by simpa using h.1
   simp[Instr.findNow,hm,Instr.sameNow,hb,findNow_fresh n r _ h.2]
  ·cases h
theorem findNow_look (n:Int) (v:Value):∀ (l:List MapEntry) (i:Nat),look n l=some v→∃ j,Instr.findNow (.int .i64) (.int .i64 n) l i=some (some (j,v))
 | [],_,h=>by cases h
 | e::r,i,h=>by
  unfold look at h
  split at h
  ·rename_i m hm
   by_cases hb:n=m
   ·subst hb;simp at h;exact⟨i,by simp[Instr.findNow,hm,Instr.sameNow,h]⟩
   ·rw[if_neg (by simpa using hb)]at h
    obtain⟨j,hj⟩:=findNow_look n v r (i+1) h
    have hb':(n==m)=false:=by simpa using hb
    exact⟨j,by simp[Instr.findNow,hm,Instr.sameNow,hb',hj]⟩
  ·cases h
theorem run_mapUpdate_new {P : Program} {t K E:TypeId} (ht:P.underlying t=some (.map K E)) (hK:P.underlying K=some (.int .i64)) (w:World) (es:List MapEntry) (b c:Nat) (n:Int) (v:Value) (hs:b=w.heap.size) (hf:fresh n es=true) :
  (Instr.mapUpdate t (.map (some b)) (.int .i64 n) v).run P (w.alloc (.map es.toArray c))=.ok () (w.alloc (.map (es++[({ key:=.int .i64 n,val:=v,born:=c }:MapEntry)]).toArray (c+1))):=by
 subst hs
 have hb:=(MapKept.heap_alloc w (.map es.toArray c)).1
 have hkey:MapKept.IsKey (.int .i64) (.int .i64 n):=rfl
 have hf':Instr.findNow (.int .i64) (.int .i64 n) es.toArray.toList 0=some none:=findNow_fresh n es 0 hf
 simp only[Instr.mapUpdate,Sem.run_bind,run_underlying ht,Result.andThen,MapKept.run_getObj_map hb,MapKept.run_checkKey hK hkey,MapKept.run_findKey hK hf',MapKept.run_setObj_map _ hb]
 rw[alloc_set];simp
theorem run_lookup_hit {P : Program} {t K E:TypeId} (ht:P.underlying t=some (.map K E)) (hK:P.underlying K=some (.int .i64)) (w:World) (es:List MapEntry) (b c:Nat) (n:Int) (v:Value) (hs:b=w.heap.size) (hf:look n es=some v) :
  (Instr.lookup t (.map (some b)) (.int .i64 n) false).run P (w.alloc (.map es.toArray c))=.ok v (w.alloc (.map es.toArray c)):=by
 subst hs
 have hb:=(MapKept.heap_alloc w (.map es.toArray c)).1
 have hkey:MapKept.IsKey (.int .i64) (.int .i64 n):=rfl
 obtain⟨j,hj⟩:=findNow_look n v es.toArray.toList 0 hf
 simp[Instr.lookup,run_underlying ht,MapKept.run_getObj_map hb,MapKept.run_checkKey hK hkey,MapKept.run_findKey hK hj,Result.andThen]
theorem run_lookup_miss {P : Program} {t K E:TypeId} (ht:P.underlying t=some (.map K E)) (hK:P.underlying K=some (.int .i64)) (z:Value) (hz:∀ w:World,(zeroValue E).run P w=.ok z w) (w:World) (es:List MapEntry) (b c:Nat) (n:Int) (hs:b=w.heap.size) (hf:fresh n es=true) :
  (Instr.lookup t (.map (some b)) (.int .i64 n) false).run P (w.alloc (.map es.toArray c))=.ok z (w.alloc (.map es.toArray c)):=by
 subst hs
 have hb:=(MapKept.heap_alloc w (.map es.toArray c)).1
 have hkey:MapKept.IsKey (.int .i64) (.int .i64 n):=rfl
 have hf':Instr.findNow (.int .i64) (.int .i64 n) es.toArray.toList 0=some none:=findNow_fresh n es 0 hf
 simp[Instr.lookup,run_underlying ht,MapKept.run_getObj_map hb,MapKept.run_checkKey hK hkey,MapKept.run_findKey hK hf',hz,Result.andThen]
def intKeys:List MapEntry→Bool
 | []=>true
 | e::r=>match e.key with
  | .int .i64 _=>intKeys r
  | _=>false
theorem intKeys_nil:intKeys []=true:=Eq.trans (Eq.refl _) (Eq.refl true)
theorem intKeys_cons (m:Int) (v:Value) (b:Nat) (r:List MapEntry):intKeys ({ key:=.int .i64 m,val:=v,born:=b }::r)=intKeys r:=Eq.trans (Eq.refl _) (Eq.refl _)
theorem look_fresh (n:Int):∀ l:List MapEntry,intKeys l=true→look n l=none→fresh n l=true
 | [],_,_=>rfl
 | e::r,h,hl=>by
  unfold intKeys at h
  split at h
  ·rename_i m hm
   unfold look at hl
   rw[hm]at hl
   unfold fresh
   rw[hm]
   by_cases hb:n=m
   ·subst hb;simp at hl
   ·have h2:(n==m)=false:=by simpa using hb
    simp only[h2]at hl ⊢
    simpa using look_fresh n r h (by simpa using hl)
  ·cases h
theorem run_lookup_both {P : Program} {t K E:TypeId} (ht:P.underlying t=some (.map K E)) (hK:P.underlying K=some (.int .i64)) (z:Value) (hz:∀ w:World,(zeroValue E).run P w=.ok z w) (w:World) (es:List MapEntry) (b c:Nat) (n:Int) (hs:b=w.heap.size) (hi:intKeys es=true) :
  (Instr.lookup t (.map (some b)) (.int .i64 n) true).run P (w.alloc (.map es.toArray c))=.ok (.tuple #[(look n es).getD z,.bool (look n es).isSome]) (w.alloc (.map es.toArray c)):=by
 subst hs
 have hb:=(MapKept.heap_alloc w (.map es.toArray c)).1
 have hkey:MapKept.IsKey (.int .i64) (.int .i64 n):=rfl
 cases hl:look n es with
 | none =>
  have hf':Instr.findNow (.int .i64) (.int .i64 n) es.toArray.toList 0=some none:=findNow_fresh n es 0 (look_fresh n es hi hl)
  simp[Instr.lookup,run_underlying ht,MapKept.run_getObj_map hb,MapKept.run_checkKey hK hkey,MapKept.run_findKey hK hf',hz,Result.andThen]
 | some v =>
  obtain⟨j,hj⟩:=findNow_look n v es.toArray.toList 0 hl
  simp[Instr.lookup,run_underlying ht,MapKept.run_getObj_map hb,MapKept.run_checkKey hK hkey,MapKept.run_findKey hK hj,Result.andThen]
theorem run_lookup_one {P : Program} {t K E:TypeId} (ht:P.underlying t=some (.map K E)) (hK:P.underlying K=some (.int .i64)) (z:Value) (hz:∀ w:World,(zeroValue E).run P w=.ok z w) (w:World) (es:List MapEntry) (b c:Nat) (n:Int) (hs:b=w.heap.size) (hi:intKeys es=true) :
  (Instr.lookup t (.map (some b)) (.int .i64 n) false).run P (w.alloc (.map es.toArray c))=.ok ((look n es).getD z) (w.alloc (.map es.toArray c)):=by
 cases hl:look n es with
 | none=>exact run_lookup_miss ht hK z hz w es b c n hs (look_fresh n es hi hl)
 | some v=>exact run_lookup_hit ht hK w es b c n v hs hl
theorem zero_pair (w:World):(zeroValue 33).run Tryz.prog w=.ok (.agg #[.int .i64 0,.int .i64 0]) w:=by kernel_rfl
theorem add_zero_map (a:Option Addr):a.map (fun x=>x.add 0)=a:=by
 cases a with
 | none=>rfl
 | some x=>simp[Addr.add]
set_option maxHeartbeats 400000 in
set_option maxRecDepth 100000 in
theorem clip_any (a:Option Addr) (k c:Nat) (w:World) (hk:k≤c) (_:c≤maxLen):Calls Tryz.prog 107 #[.slice a k c] w fun e w'=>e=.returned (.slice a k k)∧w'=w:=by
 have hz:=add_zero_map a
 go_enter Tryz.func107,Tryz.ntmps107
 go_wp2
 all_goals
  go_ret
  first | exact⟨rfl,rfl⟩ | exact⟨by simp,rfl⟩
theorem ints_clip {w : World} {a : Option Addr} {k c:Nat} {l : List Int} (h:Ints w (.slice a k c) l):Ints w (.slice a k k) l:=by
 rcases h with ⟨x,h1,h2⟩|⟨b,off,cap,h1,h2,h3,h4,h5⟩
 ·cases h1;exact .inl ⟨_,rfl,h2⟩
 ·cases h1;exact .inr ⟨b,off,l.length,rfl,Nat.le_refl _,by omega,h4,h5⟩
theorem ints_cap {w : World} {a : Option Addr} {k c:Nat} {l : List Int} (h:Ints w (.slice a k c) l):k≤c∧c≤maxLen:=by
 rcases h with ⟨x,h1,h2⟩|⟨b,off,cap,h1,h2,h3,h4,h5⟩
 ·cases h1;exact⟨Nat.le_refl _,Nat.zero_le _⟩
 ·cases h1;exact⟨h2,h3⟩
end Go.Proofs.YtmhojfpidedjeaaGreatDoor
