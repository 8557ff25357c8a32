import Derived.Test.YtmhojfpidedjeaaGreatDoorTp15
namespace Go.Proofs.YtmhojfpidedjeaaGreatDoor
open Go.RowKit
set_option maxHeartbeats 400000
set_option maxRecDepth 100000
theorem Za5 (w:World) (o o':Obj):({ w.alloc o with heap:=(w.alloc o).heap.setIfInBounds w.heap.size o' }:World)=w.alloc o':=by
 have:(w.heap.push o).setIfInBounds w.heap.size o'=w.heap.push o':=by
  apply Array.ext'
  simp[Array.toList_setIfInBounds,Array.toList_push]
 simp only[World.alloc];rw[this]
def fresh (n:Int):List MapEntry→Bool
 | []=>true
 | e::r=>match e.key with
  | .int .i64 m=>!(n==m)&&fresh n r
  | _=>false
def XW (n:Int):List MapEntry→Option Value
 | []=>none
 | e::r=>match e.key with
  | .int .i64 m=>if n==m then some e.val else XW n r
  | _=>none
theorem J5 (n:Int):fresh n []=true:=Eq.trans (Eq.refl _) (Eq.refl true)
theorem JC (n m:Int) (v:Value) (b:Nat) (r:List MapEntry):fresh n ({ key:=.int .i64 m,val:=v,born:=b }::r)=(!(n==m)&&fresh n r):=Eq.trans (Eq.refl _) (Eq.refl _)
theorem ZbL (n:Int):XW n []=none:=Eq.trans (Eq.refl _) (Eq.refl _)
theorem ZaU (n m:Int) (v:Value) (b:Nat) (r:List MapEntry):XW n ({ key:=.int .i64 m,val:=v,born:=b }::r)=if n==m then some v else XW n r:=Eq.trans (Eq.refl _) (Eq.refl _)
theorem Wg (n:Int):∀ (l:List MapEntry) (i:Nat),fresh n l=true→Instr.findNow (.int .i64) (.int .i64 n) l i=some none
 | [],_,_=>rfl
 | e::r,i,h=>by
  unfold fresh at h
  split at h
  ·rename_i m hm
   simp at h
   have hb:(n==m)=false:=by simpa using h.1
   simp[Instr.findNow,hm,Instr.sameNow,hb,Wg n r _ h.2]
  ·cases h
theorem VN (n:Int) (v:Value):∀ (l:List MapEntry) (i:Nat),XW n l=some v→∃ j,Instr.findNow (.int .i64) (.int .i64 n) l i=some (some (j,v))
 | [],_,h=>by cases h
 | e::r,i,h=>by
  unfold XW at h
  split at h
  ·rename_i m hm
   by_cases hb:n=m
   ·subst hb;simp at h;exact⟨i,by simp[Instr.findNow,hm,Instr.sameNow,h]⟩
   ·rw[if_neg (by simpa using hb)]at h
    obtain⟨j,hj⟩:=VN n v r (i+1) h
    have ha:(n==m)=false:=by simpa using hb
    exact⟨j,by simp[Instr.findNow,hm,Instr.sameNow,ha,hj]⟩
  ·cases h
theorem Vs {P : Program} {t K E:TypeId} (ht:P.underlying t=some (.map K E)) (hK:P.underlying K=some (.int .i64)) (w:World) (es:List MapEntry) (b c:Nat) (n:Int) (v:Value) (hs:b=w.heap.size) (hf:fresh n es=true) :
  (Instr.mapUpdate t (.map (some b)) (.int .i64 n) v).run P (w.alloc (.map es.toArray c))=.ok () (w.alloc (.map (es++[({ key:=.int .i64 n,val:=v,born:=c }:MapEntry)]).toArray (c+1))):=by
 subst hs;have hb:=(MapKept.heap_alloc w (.map es.toArray c)).1;have ha:MapKept.IsKey (.int .i64) (.int .i64 n):=rfl;have hc:Instr.findNow (.int .i64) (.int .i64 n) es.toArray.toList 0=some none:=Wg n es 0 hf;simp only[Instr.mapUpdate,Sem.run_bind,run_underlying ht,Result.andThen,MapKept.run_getObj_map hb,MapKept.run_checkKey hK ha,MapKept.run_findKey hK hc,MapKept.run_setObj_map _ hb];rw[Za5];simp
theorem Q4 {P : Program} {t K E:TypeId} (ht:P.underlying t=some (.map K E)) (hK:P.underlying K=some (.int .i64)) (w:World) (es:List MapEntry) (b c:Nat) (n:Int) (v:Value) (hs:b=w.heap.size) (hf:XW n es=some v) :
  (Instr.lookup t (.map (some b)) (.int .i64 n) false).run P (w.alloc (.map es.toArray c))=.ok v (w.alloc (.map es.toArray c)):=by
 subst hs;have hb:=(MapKept.heap_alloc w (.map es.toArray c)).1;have ha:MapKept.IsKey (.int .i64) (.int .i64 n):=rfl;obtain⟨j,hj⟩:=VN n v es.toArray.toList 0 hf;simp[Instr.lookup,run_underlying ht,MapKept.run_getObj_map hb,MapKept.run_checkKey hK ha,MapKept.run_findKey hK hj,Result.andThen]
theorem Ql {P : Program} {t K E:TypeId} (ht:P.underlying t=some (.map K E)) (hK:P.underlying K=some (.int .i64)) (z:Value) (hz:∀ w:World,(zeroValue E).run P w=.ok z w) (w:World) (es:List MapEntry) (b c:Nat) (n:Int) (hs:b=w.heap.size) (hf:fresh n es=true) :
  (Instr.lookup t (.map (some b)) (.int .i64 n) false).run P (w.alloc (.map es.toArray c))=.ok z (w.alloc (.map es.toArray c)):=by
 subst hs;have hb:=(MapKept.heap_alloc w (.map es.toArray c)).1;have ha:MapKept.IsKey (.int .i64) (.int .i64 n):=rfl;have hc:Instr.findNow (.int .i64) (.int .i64 n) es.toArray.toList 0=some none:=Wg n es 0 hf;simp[Instr.lookup,run_underlying ht,MapKept.run_getObj_map hb,MapKept.run_checkKey hK ha,MapKept.run_findKey hK hc,hz,Result.andThen]
def Wp:List MapEntry→Bool
 | []=>true
 | e::r=>match e.key with
  | .int .i64 _=>Wp r
  | _=>false
theorem KL:Wp []=true:=Eq.trans (Eq.refl _) (Eq.refl true)
theorem J1 (m:Int) (v:Value) (b:Nat) (r:List MapEntry):Wp ({ key:=.int .i64 m,val:=v,born:=b }::r)=Wp r:=Eq.trans (Eq.refl _) (Eq.refl _)
theorem Jz (n:Int):∀ l:List MapEntry,Wp l=true→XW n l=none→fresh n l=true
 | [],_,_=>rfl
 | e::r,h,hl=>by
  unfold Wp at h
  split at h
  ·rename_i m hm
   unfold XW at hl
   rw[hm]at hl
   unfold fresh
   rw[hm]
   by_cases hb:n=m
   ·subst hb;simp at hl
   ·have h2:(n==m)=false:=by simpa using hb
    simp only[h2]at hl ⊢
    simpa using Jz n r h (by simpa using hl)
  ·cases h
theorem Qm {P : Program} {t K E:TypeId} (ht:P.underlying t=some (.map K E)) (hK:P.underlying K=some (.int .i64)) (z:Value) (hz:∀ w:World,(zeroValue E).run P w=.ok z w) (w:World) (es:List MapEntry) (b c:Nat) (n:Int) (hs:b=w.heap.size) (hi:Wp es=true) :
  (Instr.lookup t (.map (some b)) (.int .i64 n) true).run P (w.alloc (.map es.toArray c))=.ok (.tuple #[(XW n es).getD z,.bool (XW n es).isSome]) (w.alloc (.map es.toArray c)):=by
 subst hs;have hb:=(MapKept.heap_alloc w (.map es.toArray c)).1;have ha:MapKept.IsKey (.int .i64) (.int .i64 n):=rfl
 cases hl:XW n es with
 | none =>
  have hc:Instr.findNow (.int .i64) (.int .i64 n) es.toArray.toList 0=some none:=Wg n es 0 (Jz n es hi hl);simp[Instr.lookup,run_underlying ht,MapKept.run_getObj_map hb,MapKept.run_checkKey hK ha,MapKept.run_findKey hK hc,hz,Result.andThen]
 | some v =>
  obtain⟨j,hj⟩:=VN n v es.toArray.toList 0 hl;simp[Instr.lookup,run_underlying ht,MapKept.run_getObj_map hb,MapKept.run_checkKey hK ha,MapKept.run_findKey hK hj,Result.andThen]
theorem Q3 {P : Program} {t K E:TypeId} (ht:P.underlying t=some (.map K E)) (hK:P.underlying K=some (.int .i64)) (z:Value) (hz:∀ w:World,(zeroValue E).run P w=.ok z w) (w:World) (es:List MapEntry) (b c:Nat) (n:Int) (hs:b=w.heap.size) (hi:Wp es=true) :
  (Instr.lookup t (.map (some b)) (.int .i64 n) false).run P (w.alloc (.map es.toArray c))=.ok ((XW n es).getD z) (w.alloc (.map es.toArray c)):=by
 cases hl:XW n es with
 | none=>exact Ql ht hK z hz w es b c n hs (Jz n es hi hl)
 | some v=>exact Q4 ht hK w es b c n v hs hl
theorem Zat (w:World):(zeroValue 33).run Tryz.prog w=.ok (.agg #[.int .i64 0,.int .i64 0]) w:=by kernel_rfl
theorem Zb2 (a:Option Addr):a.map (fun x=>x.add 0)=a:=by
 cases a with
 | none=>rfl
 | some x=>simp[Addr.add]
theorem Zfw (a:Option Addr) (k c:Nat) (w:World) (hk:k≤c) (_:c≤maxLen):Calls Tryz.prog 107 #[.slice a k c] w fun e w'=>e=.returned (.slice a k k)∧w'=w:=by
 have hz:=Zb2 a;go_enter Tryz.func107,Tryz.ntmps107
 go_wp2
 all_goals
  go_ret
  first | exact⟨rfl,rfl⟩ | exact⟨by simp,rfl⟩
theorem Zen {w : World} {a : Option Addr} {k c:Nat} {l : List Int} (h:Zm w (.slice a k c) l):Zm w (.slice a k k) l:=by
 rcases h with ⟨x,h1,h2⟩|⟨b,off,cap,h1,h2,h3,h4,h5⟩
 ·cases h1;exact .inl ⟨_,rfl,h2⟩
 ·cases h1;exact .inr ⟨b,off,l.length,rfl,Nat.le_refl _,by omega,h4,h5⟩
theorem Zfo {w : World} {a : Option Addr} {k c:Nat} {l : List Int} (h:Zm w (.slice a k c) l):k≤c∧c≤maxLen:=by
 rcases h with ⟨x,h1,h2⟩|⟨b,off,cap,h1,h2,h3,h4,h5⟩
 ·cases h1;exact⟨Nat.le_refl _,Nat.zero_le _⟩
 ·cases h1;exact⟨h2,h3⟩
end Go.Proofs.YtmhojfpidedjeaaGreatDoor
