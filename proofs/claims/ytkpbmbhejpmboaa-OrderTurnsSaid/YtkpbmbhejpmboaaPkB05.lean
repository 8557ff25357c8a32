/- phys.Func, phys.Right. Two rows of numbers, the same or not: slices.Equal, jacquardref17.Nums. A run's state as it lies in memory. phys.machine.step, phys.who. phys.call.do. phys.who; what instructions that may be have; boxes. Every worker does what stepM says. interp.Memory: a run's own memory. phy -/
import Derived.Test.YtkpbmbhejpmboaaPkB00
import Derived.Test.YtkpbmbhejpmboaaPkB02
import Derived.Test.YtkpbmbhejpmboaaPkB03
import Derived.Test.YtkpbmbhejpmboaaPkB04
import Derived.Deep.QuietTactic
import Derived.BigQuiet
import Derived.Laws.CopyOwn
import Derived.Laws.BitsLemmas
namespace Go.Proofs.Ytkpbmbhejpmboaa
open Go.RowKit
set_option linter.unusedVariables false
theorem Since.drewN {a b:World} (h:Since a b) (n:Nat):Since a (b.drewN n):=⟨h.os,h.tape,h.output,h.size,h.block⟩
def plcells (x:PlV):List Value:=[.int .i64 x.m.op,.int .i64 x.m.d,.int .i64 x.m.e,.int .i64 x.m.a,.int .i64 x.m.b,.int .i64 x.m.c,.int .i32 x.m.imm,x.av,.int .i64 x.src]
theorem plcells_len (x:PlV):(plcells x).length=9:=rfl
def blcells (b:BlkV):List Value:=[b.insv,.int .i64 b.fin.op,.int .i64 b.fin.a,.int .i64 b.fin.b,b.fin.tov,.int .i32 b.fin.imm]
theorem blcells_len (b:BlkV):(blcells b).length=6:=rfl
def PlOk (w:World) (x:PlV):Prop:=Ints w x.av x.m.args∧Fine x.m∧∀ q,x.av.ownBlock=some q→q<w.heap.size
theorem PlOk.keep (w w':World) (x:PlV) (h:PlOk w x) (s:Since w w'):PlOk w' x:=⟨h.1.keep s,h.2.1,fun q hq=>Nat.lt_of_lt_of_le (h.2.2 q hq) s.size⟩
abbrev Pls:=RowIn plcells 9 PlOk
def BlkOk (w:World) (b:BlkV):Prop:=Pls w b.insv b.ins∧Ints w b.fin.tov b.fin.to∧b.ins.length≤100000
theorem BlkOk.keep (w w':World) (x:BlkV) (h:BlkOk w x) (s:Since w w'):BlkOk w' x:=⟨RowIn.keep PlOk.keep h.1 s,h.2.1.keep s,h.2.2⟩
abbrev Blks:=RowIn blcells 6 BlkOk
def PrgOk (w:World) (p:PrgV):Prop:=Blks w p.bv p.blocks∧p.blocks.length≤100000
theorem PrgOk.keep {w w':World} {p : PrgV} (h:PrgOk w p) (s:Since w w'):PrgOk w' p:=⟨RowIn.keep BlkOk.keep h.1 s,h.2⟩
def pv (p:PrgV):Value:=.agg #[.int .i64 p.params,.int .i64 p.k,.int .i64 p.slots,p.bv]
def insSum (l:List BlkV):Nat:=(l.map fun b=>b.ins.length).sum
theorem insSum_succ {l : List BlkV} {j : Nat} {b : BlkV} (h:l[j]? = some b):insSum (l.take (j+1))=insSum (l.take j)+b.ins.length:=by
 unfold insSum;rw[List.take_add_one,h];simp
theorem insSum_le (M:Nat):∀ l:List BlkV,(∀ b∈l,b.ins.length≤M)→insSum l≤l.length*M
 | [],_=>by simp[insSum]
 | b::r,h=>by
  have h1:=h b List.mem_cons_self
  have h2:=insSum_le M r fun x hx=>h x (List.mem_cons_of_mem _ hx)
  unfold insSum at h2 ⊢
  rw[List.map_cons,List.sum_cons,List.length_cons,Nat.succ_mul];omega
theorem insList_none {k slots:Int}:∀ {l : List PlV} (i:Nat),(∀ x∈l,insE x.m k slots=0)→insList k slots l i=none
 | [],_,_=>rfl
 | x::r,i,h=>by unfold insList;rw[if_pos (h x List.mem_cons_self)];exact insList_none (i+1) fun y hy=>h y (List.mem_cons_of_mem _ hy)
theorem insList_at {k slots:Int}:∀ {l : List PlV} {j : Nat} {x : PlV} (i:Nat),l[j]? = some x→(∀ (t:Nat) (y:PlV),t<j→l[t]? = some y→insE y.m k slots=0)→insE x.m k slots≠0→insList k slots l i=some (insE x.m k slots,i+j)
 | [],_,_,_,h,_,_=>by cases h
 | y::r,0,x,i,h,_,hne=>by
  obtain rfl:y=x:=by simpa using h
  unfold insList;rw[if_neg hne];rfl
 | y::r,j+1,x,i,h,hall,hne=>by
  unfold insList
  rw[if_pos (hall 0 y (by omega) rfl),insList_at (i+1) (by simpa using h) (fun t z ht hz=>hall (t+1) z (by omega) (by simpa using hz)) hne]
  congr 2;omega
theorem blkList_none {k slots n:Int}:∀ {l : List BlkV} (i:Nat),(∀ b∈l,blkE k slots n b=none)→blkList k slots n l i=none
 | [],_,_=>rfl
 | x::r,i,h=>by unfold blkList;rw[h x List.mem_cons_self];exact blkList_none (i+1) fun y hy=>h y (List.mem_cons_of_mem _ hy)
theorem blkList_at {k slots n:Int}:∀ {l : List BlkV} {j : Nat} {b : BlkV} (i:Nat) {x : Int × Nat},l[j]? = some b→(∀ (t:Nat) (y:BlkV),t<j→l[t]? = some y→blkE k slots n y=none)→blkE k slots n b=some x→blkList k slots n l i=some (x.1,i+j,x.2)
 | [],_,_,_,_,h,_,_=>by cases h
 | y::r,0,b,i,x,h,_,hb=>by
  obtain rfl:y=b:=by simpa using h
  unfold blkList;rw[hb];rfl
 | y::r,j+1,b,i,x,h,hall,hb=>by
  unfold blkList
  rw[hall 0 y (by omega) rfl]
  dsimp only
  rw[blkList_at (i+1) (by simpa using h) (fun t z ht hz=>hall (t+1) z (by omega) (by simpa using hz)) hb]
  congr 3;omega
def ThreeS (x y z:Int) (w:World) (e:Ending) (w':World):Prop:=e=.returned (.tuple #[.int .i64 x,.int .i64 y,.int .i64 z])∧Since w w'
def FuncP (p:PrgV):World→Ending→World→Prop:=ThreeS (funcE p).1 ((funcE p).2.1:Nat) ((funcE p).2.2:Nat)
set_option maxHeartbeats 4000000 in
set_option maxRecDepth 100000 in
theorem func_any (p:PrgV) (w:World) (h:PrgOk w p):Calls Try.prog 13 #[pv p] w (FuncP p w):=by
 obtain⟨params,k,slots,blocks,bv⟩:=p
 obtain⟨hb,hbl⟩:=h
 dsimp only at hb hbl
 obtain⟨ba,bc,rfl,hmax⟩:=hb.shape
 have H:=Lib.hid hb
 have hsum:insSum blocks≤10000000000:=by
  have h1:=insSum_le 100000 blocks (fun b hm=>by
   obtain⟨j,hj⟩:=List.getElem?_of_mem hm
   obtain⟨_,_,x,_,_,hx,_,hok⟩:=RowIn.at H.out (List.getElem?_eq_some_iff.1 hj).1
   rw[hj]at hx;cases hx
   exact hok.2.2)
  have h2:blocks.length*100000≤100000*100000:=Nat.mul_le_mul_right _ hbl
  omega
 have hpre:∀ j,j≤blocks.length→insSum (blocks.take j)≤insSum blocks:=fun j _=>by
  have e:insSum blocks=insSum (blocks.take j)+insSum (blocks.drop j):=by
   unfold insSum;rw[←List.sum_append,←List.map_append,List.take_append_drop]
  omega
 have HPRE:=Lib.hid hpre
 have W1:=Lib.hid (fun w=>within_any params 0 4 w)
 have W2:=Lib.hid (fun w=>within_any k 4 16 w)
 have W3:=Lib.hid (fun w=>within_any slots 0 16384 w)
 clear hb hpre hmax
 generalize hF:funcE ⟨params,k,slots,blocks,.slice ba blocks.length bc⟩=F
 unfold FuncP
 rw[hF]
 obtain⟨fe,fb,fp⟩:=F
 have hF1:headE ⟨params,k,slots,blocks,.slice ba blocks.length bc⟩=(if params<0∨4<params∨k<4∨16<k∨slots<0∨16384<slots then 1 else if blocks.length=0 then 14 else if 512<blocks.length∨65536<blocks.length+insSum blocks then 2 else 0):=rfl
 have HF:=Lib.hid hF
 have HF1:=Lib.hid hF1
 clear hF hF1
 unfold funcE at HF
 have hbad:∀ c:Int,headE ⟨params,k,slots,blocks,.slice ba blocks.length bc⟩=c→c≠0→fe=c∧fb=0∧fp=0:=fun c hc h0=>by
  have h1:=HF.out
  rw[hc,if_neg h0]at h1
  simp only[Prod.mk.injEq]at h1
  exact⟨h1.1.symm,h1.2.1.symm,h1.2.2.symm⟩
 have HBAD:=Lib.hid hbad
 clear hbad
 unfold pv
 dsimp only
 go_enter Try.func13,Try.ntmps13
 go_wp2
 have HL:=Lib.hid hsum
 go_loopw [5,20] (fun n i wr=>∃ j:Nat,j≤blocks.length∧i=.int .i64 j∧n=.int .i64 ((blocks.length:Int)+((insSum (blocks.take j):Nat):Int))∧Since (w.alloc (.cells #[.int .i64 params,.int .i64 k,.int .i64 slots,.slice ba blocks.length bc] 24)) wr) (fun _ i _=>blocks.length-(intOf i).toNat)
 case atStart=>exact⟨0,Nat.zero_le _,rfl,by simp[insSum],Since.refl _⟩
 case round =>
  obtain⟨j,hj,rfl,rfl,hsr⟩:=hrel
  have HS0:=Lib.hid hsr
  have HS:=Lib.hid (((Since.refl w).alloc (.cells #[.int .i64 params,.int .i64 k,.int .i64 slots,.slice ba blocks.length bc] 24)).trans hsr)
  have hbox:∀ i,wr.cell? ⟨w.heap.size,i,none⟩=_:=fun i=>hsr.cell (p:=⟨w.heap.size,i,none⟩) (by simp)
  have HBOX:=Lib.hid hbox
  have hbsz:w.heap.size<wr.heap.size:=by have:=hsr.size;simp at this;omega
  have HBSZ:=Lib.hid hbsz
  clear hsr hbsz
  by_cases hlt:j<blocks.length
  ·clear hbox
   obtain⟨B,off,x,rfl,hB,hx,hc,hok⟩:=RowIn.at H.out hlt
   obtain⟨xins,xinsv,⟨eop,ea,eb,eto,etov,eimm⟩⟩:=x
   obtain⟨hok1,hok2,hok3⟩:=hok
   dsimp only at hok1 hok2 hok3
   obtain⟨ia,ic,rfl,hil⟩:=hok1.shape
   obtain⟨ta,tc,rfl⟩:=nums_lenI hok2
   unfold maxLen at hil
   have hcw:=fun t ht=>(HS.out.cell (p:=⟨B,off+j*6+t,none⟩) hB).trans (hc t ht)
   have c0:wr.cell? ⟨B,off+j*6,none⟩=some (.slice ia xins.length ic):=hcw 0 (by decide)
   have c1:wr.cell? ⟨B,off+j*6+1,none⟩=some (.int .i64 eop):=hcw 1 (by decide)
   have c2:wr.cell? ⟨B,off+j*6+2,none⟩=some (.int .i64 ea):=hcw 2 (by decide)
   have c3:wr.cell? ⟨B,off+j*6+3,none⟩=some (.int .i64 eb):=hcw 3 (by decide)
   have c4:wr.cell? ⟨B,off+j*6+4,none⟩=some (.slice ta eto.length tc):=hcw 4 (by decide)
   have c5:wr.cell? ⟨B,off+j*6+5,none⟩=some (.int .i32 eimm):=hcw 5 (by decide)
   clear hcw hc hB
   have hss:=insSum_succ hx
   have hp:=HPRE.out j (by omega)
   have hp2:=HPRE.out (j+1) (by omega)
   have HSS:=Lib.hid hss
   dsimp only at hss
   generalize insSum (blocks.take j)=sj at *
   have hb1:sj+xins.length≤10000000000:=by omega
   clear hss hp hp2 hok1 hok2 hok3 hx
   go_wp2
   go_roundw
   case rel=>exact⟨j+1,by omega,by go_num,by rw[HSS.out];exact congrArg (Value.int .i64) (by push_cast;omega),HS0.out.alloc _⟩
   case measure=>simp[intOf];omega
  ·obtain rfl:j=blocks.length:=by omega
   rw[List.take_length]
   have hp:=HL.out
   generalize hN:insSum blocks=sN at *
   clear hN HPRE
   cases hP1:(decide (0≤params)&&decide (params≤4)) with
   | false =>
    have hor:params<0∨4<params∨k<4∨16<k∨slots<0∨16384<slots:=by simp at hP1;omega
    have HOR:=Lib.hid hor
    have HP1:=Lib.hid hP1
    clear hP1 hor
    have hh:=HBAD.out 1 (by rw[HF1.out,if_pos HOR.out]) (by decide)
    obtain⟨rfl,rfl,rfl⟩:=hh
    go_wp2_with fail
    refine (W1.out _).mono ?_
    rw[HP1.out]
    rintro e w1 ⟨rfl,rfl⟩
    go_wp2
    go_ret3
    exact⟨rfl,HS.out⟩
   | true =>
   have HP1:=Lib.hid hP1
   clear hP1
   cases hP2:(decide (4≤k)&&decide (k≤16)) with
   | false =>
    have hor:params<0∨4<params∨k<4∨16<k∨slots<0∨16384<slots:=by simp at hP2;omega
    have HOR:=Lib.hid hor
    have HP2:=Lib.hid hP2
    clear hP2 hor
    have hh:=HBAD.out 1 (by rw[HF1.out,if_pos HOR.out]) (by decide)
    obtain⟨rfl,rfl,rfl⟩:=hh
    go_wp2_with fail
    refine (W1.out _).mono ?_
    rw[HP1.out]
    rintro e w1 ⟨rfl,rfl⟩
    go_wp2_with fail
    refine (W2.out _).mono ?_
    rw[HP2.out]
    rintro e w1 ⟨rfl,rfl⟩
    go_wp2
    go_ret3
    exact⟨rfl,HS.out⟩
   | true =>
   have HP2:=Lib.hid hP2
   clear hP2
   cases hP3:(decide (0≤slots)&&decide (slots≤16384)) with
   | false =>
    have hor:params<0∨4<params∨k<4∨16<k∨slots<0∨16384<slots:=by simp at hP3;omega
    have HOR:=Lib.hid hor
    have HP3:=Lib.hid hP3
    clear hP3 hor
    have hh:=HBAD.out 1 (by rw[HF1.out,if_pos HOR.out]) (by decide)
    obtain⟨rfl,rfl,rfl⟩:=hh
    go_wp2_with fail
    refine (W1.out _).mono ?_
    rw[HP1.out]
    rintro e w1 ⟨rfl,rfl⟩
    go_wp2_with fail
    refine (W2.out _).mono ?_
    rw[HP2.out]
    rintro e w1 ⟨rfl,rfl⟩
    go_wp2_with fail
    refine (W3.out _).mono ?_
    rw[HP3.out]
    rintro e w1 ⟨rfl,rfl⟩
    go_wp2
    go_ret3
    exact⟨rfl,HS.out⟩
   | true =>
   have HP3:=Lib.hid hP3
   have hor:¬ (params<0∨4<params∨k<4∨16<k∨slots<0∨16384<slots):=by
    have h1:=HP1.out
    have h2:=HP2.out
    simp at h1 h2 hP3;omega
   have hF2:=HF1.out
   rw[if_neg hor]at hF2
   have HF2:=Lib.hid hF2
   clear hP3 hor hF2 HF1
   by_cases h0:blocks.length=0
   ·have hd0:((blocks.length:Int)==0)=true:=by simp[h0]
    have hh:=HBAD.out 14 (by rw[HF2.out,if_pos h0]) (by decide)
    obtain⟨rfl,rfl,rfl⟩:=hh
    have H0:=Lib.hid h0;clear h0
    go_wp2_with fail
    refine (W1.out _).mono ?_
    rw[HP1.out]
    rintro e w1 ⟨rfl,rfl⟩
    go_wp2_with fail
    refine (W2.out _).mono ?_
    rw[HP2.out]
    rintro e w1 ⟨rfl,rfl⟩
    go_wp2_with fail
    refine (W3.out _).mono ?_
    rw[HP3.out]
    rintro e w1 ⟨rfl,rfl⟩
    go_wp2
    go_ret3
    exact⟨rfl,HS.out⟩
   have hd0:((blocks.length:Int)==0)=false:=beq_eq_false_iff_ne.2 (by omega)
   have hF3:=HF2.out
   rw[if_neg h0]at hF3
   have HF3:=Lib.hid hF3
   clear hF3 HF2 h0
   by_cases h1:512<blocks.length
   ·have hh:=HBAD.out 2 (by rw[HF3.out,if_pos (.inl h1)]) (by decide)
    obtain⟨rfl,rfl,rfl⟩:=hh
    go_wp2_with fail
    refine (W1.out _).mono ?_
    rw[HP1.out]
    rintro e w1 ⟨rfl,rfl⟩
    go_wp2_with fail
    refine (W2.out _).mono ?_
    rw[HP2.out]
    rintro e w1 ⟨rfl,rfl⟩
    go_wp2_with fail
    refine (W3.out _).mono ?_
    rw[HP3.out]
    rintro e w1 ⟨rfl,rfl⟩
    go_wp2
    go_ret3
    exact⟨rfl,HS.out⟩
   have hd1:decide ((512:Int)<(blocks.length:Int))=false:=by simp;omega
   by_cases h2:65536<blocks.length+sN
   ·have hd2:decide ((65536:Int)<(blocks.length:Int)+(sN:Int))=true:=by simp;omega
    have hh:=HBAD.out 2 (by rw[HF3.out,if_pos (.inr h2)]) (by decide)
    obtain⟨rfl,rfl,rfl⟩:=hh
    go_wp2_with fail
    refine (W1.out _).mono ?_
    rw[HP1.out]
    rintro e w1 ⟨rfl,rfl⟩
    go_wp2_with fail
    refine (W2.out _).mono ?_
    rw[HP2.out]
    rintro e w1 ⟨rfl,rfl⟩
    go_wp2_with fail
    refine (W3.out _).mono ?_
    rw[HP3.out]
    rintro e w1 ⟨rfl,rfl⟩
    go_wp2
    go_ret3
    exact⟨rfl,HS.out⟩
   have hd2:decide ((65536:Int)<(blocks.length:Int)+(sN:Int))=false:=by simp;omega
   have hF4:=HF3.out
   rw[if_neg (by omega)]at hF4
   have hFF:=HF.out
   rw[hF4,if_pos rfl]at hFF
   have HFF:=Lib.hid hFF
   clear hF4 hFF HF3 HF h1 h2 HBAD
   go_wp2_with fail
   refine (W1.out _).mono ?_
   rw[HP1.out]
   rintro e w1 ⟨rfl,rfl⟩
   go_wp2_with fail
   refine (W2.out _).mono ?_
   rw[HP2.out]
   rintro e w1 ⟨rfl,rfl⟩
   go_wp2_with fail
   refine (W3.out _).mono ?_
   rw[HP3.out]
   rintro e w1 ⟨rfl,rfl⟩
   go_wp2
   go_loopw [64] (fun i wr2=>∃ j:Nat,j≤blocks.length∧i=.int .i64 j∧(∀ (t:Nat) (y:BlkV),t<j→blocks[t]? = some y→blkE k slots blocks.length y=none)∧Since (w.alloc (.cells #[.int .i64 params,.int .i64 k,.int .i64 slots,.slice ba blocks.length bc] 24)) wr2) (fun i _=>blocks.length-(intOf i).toNat)
   case atStart=>exact⟨0,Nat.zero_le _,rfl,fun t y ht=>by omega,HS0.out⟩
   case round =>
    clear HBOX HBSZ HS HS0 hd0 hd1 hd2 hbox
    obtain⟨j,hj,rfl,hall,hsr⟩:=hrel
    have HALL:=Lib.hid hall
    have HS0:=Lib.hid hsr
    have HS:=Lib.hid (((Since.refl w).alloc (.cells #[.int .i64 params,.int .i64 k,.int .i64 slots,.slice ba blocks.length bc] 24)).trans hsr)
    have hbsz:w.heap.size<wr.heap.size:=by have:=hsr.size;simp at this;omega
    have HBSZ:=Lib.hid hbsz
    clear hsr hbsz hall
    by_cases hlt:j<blocks.length
    ·obtain⟨B,off,x,rfl,hB,hx,hc,hok⟩:=RowIn.at H.out hlt
     obtain⟨xins,xinsv,⟨eop,ea,eb,eto,etov,eimm⟩⟩:=x
     obtain⟨hok1,hok2,hok3⟩:=hok
     dsimp only at hok1 hok2 hok3
     obtain⟨ia,ic,rfl,hil⟩:=hok1.shape
     obtain⟨ta,tc,rfl⟩:=nums_lenI hok2
     unfold maxLen at hil
     have hcw:=fun t ht=>(HS.out.cell (p:=⟨B,off+j*6+t,none⟩) hB).trans (hc t ht)
     have c0:wr.cell? ⟨B,off+j*6,none⟩=some (.slice ia xins.length ic):=hcw 0 (by decide)
     have c1:wr.cell? ⟨B,off+j*6+1,none⟩=some (.int .i64 eop):=hcw 1 (by decide)
     have c2:wr.cell? ⟨B,off+j*6+2,none⟩=some (.int .i64 ea):=hcw 2 (by decide)
     have c3:wr.cell? ⟨B,off+j*6+3,none⟩=some (.int .i64 eb):=hcw 3 (by decide)
     have c4:wr.cell? ⟨B,off+j*6+4,none⟩=some (.slice ta eto.length tc):=hcw 4 (by decide)
     have c5:wr.cell? ⟨B,off+j*6+5,none⟩=some (.int .i32 eimm):=hcw 5 (by decide)
     clear hcw hc hB
     have hbE:blkE k slots blocks.length ⟨xins,.slice ia xins.length ic,⟨eop,ea,eb,eto,.slice ta eto.length tc,eimm⟩⟩=(match insList k slots xins 0 with
      | some x=>some x
      | none=>if endE ⟨eop,ea,eb,eto,.slice ta eto.length tc,eimm⟩ k blocks.length=0 then none else some (endE ⟨eop,ea,eb,eto,.slice ta eto.length tc,eimm⟩ k blocks.length,xins.length)):=rfl
     have hfin:∀ x,blkE k slots blocks.length ⟨xins,.slice ia xins.length ic,⟨eop,ea,eb,eto,.slice ta eto.length tc,eimm⟩⟩=some x→fe=x.1∧fb=j∧fp=x.2:=fun x hxx=>by
      have:=HFF.out
      rw[blkList_at 0 hx HALL.out hxx]at this
      simp only[Option.getD_some,Prod.mk.injEq,Nat.zero_add]at this
      exact⟨this.1.symm,this.2.1.symm,this.2.2.symm⟩
     have HE:=Lib.hid hbE
     have HFIN:=Lib.hid hfin
     have HX:=Lib.hid hx
     have HI:=Lib.hid hok1
     have HT:=Lib.hid hok2
     have hend:=fun w2 (hs:Since w w2)=>end_any ⟨eop,ea,eb,eto,.slice ta eto.length tc,eimm⟩ k blocks.length w2 (hok2.keep hs)
     simp only[ev]at hend
     generalize endE ⟨eop,ea,eb,eto,.slice ta eto.length tc,eimm⟩ k blocks.length=EE at *
     have HEND:=Lib.hid hend
     clear hbE hfin hx hok1 hok2 hend
     obtain⟨wa,hwa⟩:∃ x,x=wr:=⟨_,rfl⟩
     subst hwa
     go_wp2
     go_loopw [72] (fun i wr=>∃ t:Nat,t≤xins.length∧i=.int .i64 t∧(∀ (u:Nat) (y:PlV),u<t→xins[u]? = some y→insE y.m k slots=0)∧Since (wa.alloc (.cells #[.slice ia xins.length ic,.int .i64 eop,.int .i64 ea,.int .i64 eb,.slice ta eto.length tc,.int .i32 eimm] 56)) wr) (fun i _=>xins.length-(intOf i).toNat)
     case atStart=>exact⟨0,Nat.zero_le _,rfl,fun u y hu=>by omega,Since.refl _⟩
     case round =>
      clear c0 c1 c2 c3 c4 c5
      obtain⟨t,ht,rfl,hall,hs2⟩:=hrel
      have HALL2:=Lib.hid hall
      have hS2:=(HS0.out.alloc (.cells #[.slice ia xins.length ic,.int .i64 eop,.int .i64 ea,.int .i64 eb,.slice ta eto.length tc,.int .i32 eimm] 56)).trans hs2
      have HS2:=Lib.hid hS2
      have HSW:=Lib.hid (Since.trans ((Since.refl w).alloc _) hS2)
      have HSB:=Lib.hid hs2
      have hbsz2:w.heap.size<wr.heap.size:=by have:=hS2.size;simp at this;omega
      have HBSZ2:=Lib.hid hbsz2
      clear hs2 hS2 hall hbsz2
      by_cases hlt2:t<xins.length
      ·obtain⟨B2,off2,y,rfl,hB2,hy,hc2,hyok⟩:=RowIn.at HI.out hlt2
       obtain⟨ym,yav,ysrc⟩:=y
       obtain⟨hy1,hy2,_⟩:Ints w yav ym.args∧Fine ym∧_:=hyok
       obtain⟨ya,yc,rfl⟩:=nums_lenI hy1
       have hcw:=fun t' ht'=>(HSW.out.cell (p:=⟨B2,off2+t*9+t',none⟩) hB2).trans (hc2 t' ht')
       have c0:wr.cell? ⟨B2,off2+t*9,none⟩=some (.int .i64 ym.op):=hcw 0 (by decide)
       have c1:wr.cell? ⟨B2,off2+t*9+1,none⟩=some (.int .i64 ym.d):=hcw 1 (by decide)
       have c2:wr.cell? ⟨B2,off2+t*9+2,none⟩=some (.int .i64 ym.e):=hcw 2 (by decide)
       have c3:wr.cell? ⟨B2,off2+t*9+3,none⟩=some (.int .i64 ym.a):=hcw 3 (by decide)
       have c4:wr.cell? ⟨B2,off2+t*9+4,none⟩=some (.int .i64 ym.b):=hcw 4 (by decide)
       have c5:wr.cell? ⟨B2,off2+t*9+5,none⟩=some (.int .i64 ym.c):=hcw 5 (by decide)
       have c6:wr.cell? ⟨B2,off2+t*9+6,none⟩=some (.int .i32 ym.imm):=hcw 6 (by decide)
       have c7:wr.cell? ⟨B2,off2+t*9+7,none⟩=some (.slice ya ym.args.length yc):=hcw 7 (by decide)
       have c8:wr.cell? ⟨B2,off2+t*9+8,none⟩=some (.int .i64 ysrc):=hcw 8 (by decide)
       have hbx2:∀ i,(wr.alloc (.cells #[.int .i64 ym.op,.int .i64 ym.d,.int .i64 ym.e,.int .i64 ym.a,.int .i64 ym.b,.int .i64 ym.c,.int .i32 ym.imm,.slice ya ym.args.length yc,.int .i64 ysrc] 58)).cell? ⟨w.heap.size,i,none⟩=_:=fun i=>(HS2.out.alloc _).cell (p:=⟨w.heap.size,i,none⟩) (by simp)
       have hins:=ins_any ym (.slice ya ym.args.length yc) k slots _ (hy1.keep (HSW.out.alloc (.cells #[.int .i64 ym.op,.int .i64 ym.d,.int .i64 ym.e,.int .i64 ym.a,.int .i64 ym.b,.int .i64 ym.c,.int .i32 ym.imm,.slice ya ym.args.length yc,.int .i64 ysrc] 58))) hy2
       unfold mv at hins
       have hiE:insE ym k slots≠0→insList k slots xins 0=some (insE ym k slots,0+t):=fun hne=>insList_at 0 hy HALL2.out hne
       have HIE:=Lib.hid hiE
       have HY:=Lib.hid hy
       generalize hIE:insE ym k slots=IE at *
       have HIEQ:=Lib.hid hIE;clear hIE
       have HINS:=Lib.hid hins
       clear hcw hc2 hB2 hy hy1 hy2 hins hiE
       go_wp2_with fail
       refine HINS.out.mono ?_
       rintro e3 w3 ⟨rfl,hs3⟩
       have HS3:=Lib.hid (HSB.out.trans ((Since.refl wr).alloc _ |>.trans hs3))
       have HW3:=Lib.hid (HSW.out.trans ((Since.refl wr).alloc _ |>.trans hs3))
       clear hs3 hbx2 c0 c1 c2 c3 c4 c5 c6 c7 c8
       by_cases hz:IE=0
       ·have hb:(IE != 0)=false:=by simp[hz]
        have HZ:=Lib.hid hz;clear hz
        go_wp2
        go_roundw
        case rel=>exact⟨t+1,by omega,by go_num,fun u y hu hy=>by
         by_cases e:u=t
         ·subst e;rw[HY.out]at hy;cases hy;exact HIEQ.out.trans HZ.out
         ·exact HALL2.out u y (by omega) hy,HS3.out⟩
        case measure=>simp[intOf];omega
       ·have hb:(IE != 0)=true:=by simpa using hz
        have hh:=HFIN.out (IE,t) (by rw[HE.out,HIE.out hz,Nat.zero_add])
        obtain⟨rfl,rfl,rfl⟩:=hh
        clear hz
        go_wp2
        go_ret3
        exact⟨rfl,HW3.out⟩
      ·obtain rfl:t=xins.length:=by omega
       have hnone:insList k slots xins 0=none:=insList_none 0 fun y hy=>by
        obtain⟨u,hu⟩:=List.getElem?_of_mem hy
        exact HALL2.out u y (List.getElem?_eq_some_iff.1 hu).1 hu
       have hE2:=HE.out
       rw[hnone]at hE2
       dsimp only at hE2
       have HE2:=Lib.hid hE2
       have hbx2:∀ i,wr.cell? ⟨w.heap.size,i,none⟩=_:=fun i=>HS2.out.cell (p:=⟨w.heap.size,i,none⟩) (by simp)
       have hbx9:∀ i,wr.cell? ⟨wa.heap.size,i,none⟩=_:=fun i=>HSB.out.cell (p:=⟨wa.heap.size,i,none⟩) (by simp)
       clear hE2 hnone
       go_wp2_with fail
       refine (HEND.out _ HSW.out).mono ?_
       rintro e3 w3 ⟨rfl,hs3⟩
       have hbx9b:∀ i,w3.cell? ⟨wa.heap.size,i,none⟩=_:=fun i=>(HSB.out.trans hs3).cell (p:=⟨wa.heap.size,i,none⟩) (by simp)
       have HW3:=Lib.hid (HSW.out.trans hs3)
       have HS3:=Lib.hid (HS2.out.trans hs3)
       clear hs3 hbx2 hbx9
       by_cases hz:EE=0
       ·have hb:(EE != 0)=false:=by simp[hz]
        have HZ:=Lib.hid hz;clear hz
        clear hbx9b
        go_wp2
        go_roundw
        case rel=>exact⟨j+1,by omega,by go_num,fun u y hu hy=>by
         by_cases e:u=j
         ·subst e;rw[HX.out]at hy;cases hy;rw[HE2.out,if_pos HZ.out]
         ·exact HALL.out u y (by omega) hy,HS3.out⟩
        case measure=>simp[intOf];omega
       ·have hb:(EE != 0)=true:=by simpa using hz
        have hh:=HFIN.out (EE,xins.length) (by rw[HE2.out,if_neg hz])
        obtain⟨rfl,rfl,rfl⟩:=hh
        clear hz
        go_wp2_with fail
        go_quiet (fail)
        go_wp2
        go_ret3
        exact⟨rfl,Since.drewN HW3.out _⟩
    ·obtain rfl:j=blocks.length:=by omega
     have hnone:blkList k slots blocks.length blocks 0=none:=blkList_none 0 fun y hy=>by
      obtain⟨u,hu⟩:=List.getElem?_of_mem hy
      exact HALL.out u y (List.getElem?_eq_some_iff.1 hu).1 hu
     have hh:=HFF.out
     rw[hnone]at hh
     simp only[Option.getD_none,Prod.mk.injEq]at hh
     obtain⟨rfl,rfl,rfl⟩:=hh
     clear hnone
     go_wp2
     go_ret3
     exact⟨rfl,HS.out⟩
set_option maxHeartbeats 1000000 in
set_option maxRecDepth 100000 in
theorem right_any (p:PrgV) (w:World) (h:PrgOk w p):Calls Try.prog 16 #[pv p] w (TellsS (rightB p) w):=by
 obtain⟨ba,bc,hbv,_⟩:=h.1.shape
 have hfunc:=fun w2 (hs:Since w w2)=>func_any p w2 (h.keep hs)
 unfold rightB
 unfold FuncP at hfunc
 generalize (funcE p).1=fe at *
 generalize (funcE p).2.1=fb at *
 generalize (funcE p).2.2=fp at *
 have HF:=Lib.hid hfunc
 clear hfunc h
 unfold pv at HF
 unfold pv
 rw[hbv]at HF ⊢
 clear hbv
 go_enter Try.func16,Try.ntmps16
 go_wp2_with fail
 refine (HF.out _ ((Since.refl _).alloc _)).mono ?_
 rintro e w1 ⟨rfl,hs1⟩
 go_wp2
 go_ret
 exact⟨rfl,((Since.refl _).alloc _).trans hs1⟩
def numsB (a b:List Int):Bool:=decide (a=b)
theorem numsB_len {a b:List Int} (h:a.length≠b.length):numsB a b=false:=by
 unfold numsB;exact decide_eq_false fun e=>h (by rw[e])
theorem numsB_at {a b:List Int} {k : Nat} {x y:Int} (hx:a[k]? = some x) (hy:b[k]? = some y) (h:x≠y):numsB a b=false:=by
 unfold numsB;exact decide_eq_false fun e=>h (by rw[e,hy]at hx;exact (Option.some.inj hx).symm)
theorem numsB_all {a b:List Int} (hl:a.length=b.length) (h:∀ (k:Nat) (x y:Int),a[k]? = some x→b[k]? = some y→x=y):numsB a b=true:=by
 unfold numsB
 refine decide_eq_true (List.ext_getElem hl fun k h1 h2=>h k _ _ (List.getElem?_eq_getElem h1) (List.getElem?_eq_getElem h2))
set_option maxHeartbeats 2000000 in
set_option maxRecDepth 100000 in
theorem equal_any (v1 v2:Value) (l1 l2:List Int) (w:World) (h1:Ints w v1 l1) (h2:Ints w v2 l2):Calls Try.prog 131 #[v1,v2] w (TellsS (numsB l1 l2) w):=by
 have hm1:=h1.len
 have hm2:=h2.len
 obtain⟨a1,c1,rfl⟩:=nums_lenI h1
 obtain⟨a2,c2,rfl⟩:=nums_lenI h2
 have H1:=Lib.hid (nums_cell h1).2
 have H2:=Lib.hid (nums_cell h2).2
 unfold maxLen at hm1 hm2
 obtain⟨n1,hn1⟩:∃ n,l1.length=n:=⟨_,rfl⟩
 obtain⟨n2,hn2⟩:∃ n,l2.length=n:=⟨_,rfl⟩
 have HN1:=Lib.hid hn1
 have HN2:=Lib.hid hn2
 rw[hn1]at hm1 ⊢
 rw[hn2]at hm2 ⊢
 clear h1 h2 hn1 hn2
 by_cases hl:n1=n2
 ·subst hl
  go_enter Try.func131,Try.ntmps131
  have hnn:((n1:Int) != (n1:Int))=false:=by simp
  go_wp2
  go_loopw [13] (fun i wr=>∃ k:Nat,k≤n1∧i=.int .i64 k∧(∀ (j:Nat) (x y:Int),j<k→l1[j]? = some x→l2[j]? = some y→x=y)∧Since w wr) (fun i _=>n1-(intOf i).toNat)
  case atStart=>exact⟨0,Nat.zero_le _,rfl,fun _ _ _ h=>by omega,Since.refl _⟩
  case round =>
   obtain⟨k,hk,rfl,hall,hs⟩:=hrel
   have HALL:=Lib.hid hall
   have HS:=Lib.hid hs
   clear hall
   by_cases hlt:k<n1
   ·obtain⟨x,hx⟩:∃ x,l1[k]? = some x:=⟨_,List.getElem?_eq_getElem (by have:=HN1.out;omega)⟩
    obtain⟨y,hy⟩:∃ y,l2[k]? = some y:=⟨_,List.getElem?_eq_getElem (by have:=HN2.out;omega)⟩
    obtain⟨B,off,rfl,hB,hcell⟩:=H1.out (by intro e;have:=HN1.out;rw[e]at this;simp at this;omega)
    obtain⟨B2,off2,rfl,hB2,hcell2⟩:=H2.out (by intro e;have:=HN2.out;rw[e]at this;simp at this;omega)
    have k1:=(hs.cell (p:=⟨B,off+k,none⟩) hB).trans (hcell k x hx)
    have k2:=(hs.cell (p:=⟨B2,off2+k,none⟩) hB2).trans (hcell2 k y hy)
    have b1:=Nat.lt_of_lt_of_le hB hs.size
    have b2:=Nat.lt_of_lt_of_le hB2 hs.size
    have HX:=Lib.hid hx
    have HY:=Lib.hid hy
    clear hcell hcell2 hs hB hB2 hx hy
    by_cases he:x=y
    ·subst he
     have hxx:(x != x)=false:=by simp
     go_wp2_with fail
     go_quiet (fail)
     go_wp2
     go_roundw
     case rel =>
      refine⟨k+1,by omega,by go_num,fun j x2 y2 hj g1 g2=>?_,HS.out.trans (Since.drewN (Since.refl _) _)⟩
      by_cases e:j=k
      ·subst e
       have a1:=HX.out
       have a2:=HY.out
       rw[g1]at a1
       rw[g2]at a2
       rw[Option.some.inj a1,Option.some.inj a2]
      ·exact HALL.out j x2 y2 (by omega) g1 g2
     case measure=>simp[intOf];omega
    ·have hxy:(x != y)=true:=by simpa using he
     have HF:=Lib.hid (numsB_at HX.out HY.out he)
     clear he
     go_wp2_with fail
     go_quiet (fail)
     go_wp2
     go_ret
     exact⟨by rw[HF.out];rfl,HS.out.trans (Since.drewN (Since.refl _) _)⟩
   ·obtain rfl:k=n1:=by omega
    have HF:=Lib.hid (numsB_all (HN1.out.trans HN2.out.symm) fun j x y g1 g2=>HALL.out j x y (by have:=(List.getElem?_eq_some_iff.1 g1).1;have:=HN1.out;omega) g1 g2)
    go_wp2
    go_ret
    exact⟨by rw[HF.out];rfl,HS.out⟩
 ·have hnn:((n1:Int) != (n2:Int))=true:=by simp;omega
  have HF:=Lib.hid (numsB_len (a:=l1) (b:=l2) (by rw[HN1.out,HN2.out];exact hl))
  clear hl
  go_enter Try.func131,Try.ntmps131
  go_wp2
  go_ret
  exact⟨by rw[HF.out];rfl,Since.refl _⟩
set_option maxHeartbeats 2000000 in
set_option maxRecDepth 100000 in
theorem rnums_any (v1 v2:Value) (l1 l2:List Int) (w:World) (h1:Ints w v1 l1) (h2:Ints w v2 l2):Calls Try.prog 68 #[v1,v2] w (TellsS (numsB l1 l2) w):=by
 have hm1:=h1.len
 have hm2:=h2.len
 obtain⟨a1,c1,rfl⟩:=nums_lenI h1
 obtain⟨a2,c2,rfl⟩:=nums_lenI h2
 have H1:=Lib.hid (nums_cell h1).2
 have H2:=Lib.hid (nums_cell h2).2
 unfold maxLen at hm1 hm2
 obtain⟨n1,hn1⟩:∃ n,l1.length=n:=⟨_,rfl⟩
 obtain⟨n2,hn2⟩:∃ n,l2.length=n:=⟨_,rfl⟩
 have HN1:=Lib.hid hn1
 have HN2:=Lib.hid hn2
 rw[hn1]at hm1 ⊢
 rw[hn2]at hm2 ⊢
 clear h1 h2 hn1 hn2
 by_cases hl:n1=n2
 ·subst hl
  go_enter Try.func68,Try.ntmps68
  have hnn:((n1:Int) != (n1:Int))=false:=by simp
  go_wp2
  go_loopw [5] (fun i wr=>∃ k:Nat,k≤n1∧i=.int .i64 k∧(∀ (j:Nat) (x y:Int),j<k→l1[j]? = some x→l2[j]? = some y→x=y)∧Since w wr) (fun i _=>n1-(intOf i).toNat)
  case atStart=>exact⟨0,Nat.zero_le _,rfl,fun _ _ _ h=>by omega,Since.refl _⟩
  case round =>
   obtain⟨k,hk,rfl,hall,hs⟩:=hrel
   have HALL:=Lib.hid hall
   have HS:=Lib.hid hs
   clear hall
   by_cases hlt:k<n1
   ·obtain⟨x,hx⟩:∃ x,l1[k]? = some x:=⟨_,List.getElem?_eq_getElem (by have:=HN1.out;omega)⟩
    obtain⟨y,hy⟩:∃ y,l2[k]? = some y:=⟨_,List.getElem?_eq_getElem (by have:=HN2.out;omega)⟩
    obtain⟨B,off,rfl,hB,hcell⟩:=H1.out (by intro e;have:=HN1.out;rw[e]at this;simp at this;omega)
    obtain⟨B2,off2,rfl,hB2,hcell2⟩:=H2.out (by intro e;have:=HN2.out;rw[e]at this;simp at this;omega)
    have k1:=(hs.cell (p:=⟨B,off+k,none⟩) hB).trans (hcell k x hx)
    have k2:=(hs.cell (p:=⟨B2,off2+k,none⟩) hB2).trans (hcell2 k y hy)
    have b1:=Nat.lt_of_lt_of_le hB hs.size
    have b2:=Nat.lt_of_lt_of_le hB2 hs.size
    have HX:=Lib.hid hx
    have HY:=Lib.hid hy
    clear hcell hcell2 hs hB hB2 hx hy
    by_cases he:x=y
    ·subst he
     have hxx:(x != x)=false:=by simp
     go_wp2_with fail
     go_quiet (fail)
     go_wp2
     go_roundw
     case rel =>
      refine⟨k+1,by omega,by go_num,fun j x2 y2 hj g1 g2=>?_,HS.out.trans (Since.drewN (Since.refl _) _)⟩
      by_cases e:j=k
      ·subst e
       have a1:=HX.out
       have a2:=HY.out
       rw[g1]at a1
       rw[g2]at a2
       rw[Option.some.inj a1,Option.some.inj a2]
      ·exact HALL.out j x2 y2 (by omega) g1 g2
     case measure=>simp[intOf];omega
    ·have hxy:(x != y)=true:=by simpa using he
     have HF:=Lib.hid (numsB_at HX.out HY.out he)
     clear he
     go_wp2_with fail
     go_quiet (fail)
     go_wp2
     go_ret
     exact⟨by rw[HF.out];rfl,HS.out.trans (Since.drewN (Since.refl _) _)⟩
   ·obtain rfl:k=n1:=by omega
    have HF:=Lib.hid (numsB_all (HN1.out.trans HN2.out.symm) fun j x y g1 g2=>HALL.out j x y (by have:=(List.getElem?_eq_some_iff.1 g1).1;have:=HN1.out;omega) g1 g2)
    go_wp2
    go_ret
    exact⟨by rw[HF.out];rfl,HS.out⟩
 ·have hnn:((n1:Int) != (n2:Int))=true:=by simp;omega
  have HF:=Lib.hid (numsB_len (a:=l1) (b:=l2) (by rw[HN1.out,HN2.out];exact hl))
  clear hl
  go_enter Try.func68,Try.ntmps68
  go_wp2
  go_ret
  exact⟨by rw[HF.out];rfl,Since.refl _⟩
theorem turn_grown {w w':World} {row:Option Nat} (h:w.grownBy w' row):Turn (fun k=>row=some k) w w':=⟨h.os,h.tape,h.output,h.size,fun k hk hn=>h.block k hk (fun e=>hn e.symm)⟩
theorem own_turn {S : Nat→Prop} {w w':World} {base:Nat} {e : TypeId} {size n:Nat} {v : Value} {xs:List Value} (h:w.ownsRow base e size v n xs) (t:Turn S w w') (hn:∀ q,v.ownBlock=some q→¬ S q):w'.ownsRow base e size v n xs:=by
 obtain⟨h0,h|⟨g,cap,cur,h1,h2,h3,h4⟩⟩:=h
 ·exact⟨h0,.inl h⟩
 ·exact⟨h0,.inr ⟨g,cap,cur,h1,h2,(t.block g (Array.getElem?_eq_some_iff.1 h3).1 (hn g (by rw[h1];rfl))).trans h3,h4⟩⟩
theorem own_ne {w : World} {b1 b2:Nat} {e1 e2:TypeId} {s1 s2 n1 n2:Nat} {v1 v2:Value} {x1 x2:List Value} (h1:w.ownsRow b1 e1 s1 v1 n1 x1) (h2:w.ownsRow b2 e2 s2 v2 n2 x2) (hne:e1≠e2) (q:Nat) (hq:v1.ownBlock=some q):¬ v2.ownBlock=some q:=by
 intro hq2
 obtain⟨_,⟨h,_⟩|⟨g,_,_,hv,_,hg,_⟩⟩:=h1
 ·rw[h]at hq;cases hq
 obtain⟨_,⟨h,_⟩|⟨g',_,_,hv',_,hg',_⟩⟩:=h2
 ·rw[h]at hq2;cases hq2
 rw[hv]at hq;rw[hv']at hq2
 have a:g=q:=Option.some.inj hq
 have b:g'=q:=Option.some.inj hq2
 rw[a]at hg;rw[b]at hg';rw[hg]at hg'
 simp only[Option.some.injEq,Obj.cells.injEq]at hg'
 exact hne hg'.2.1
theorem own_shape {w : World} {b : Nat} {e : TypeId} {size n:Nat} {v : Value} {xs:List Value} (h:w.ownsRow b e size v n xs):∃ a cap,v=.slice a n cap:=by
 obtain⟨_,⟨h1,h2⟩|⟨g,cap,cur,h1,_⟩⟩:=h
 ·exact⟨none,0,by rw[h1,h2]⟩
 ·exact⟨_,cap,h1⟩
theorem own_heap {w : World} {b : Nat} {e : TypeId} {size n:Nat} {v : Value} {xs:List Value} (h:w.ownsRow b e size v n xs) {q : Nat} (hq:v.ownBlock=some q):∃ cur,w.heap[q]? = some (.cells cur e (0,0)):=by
 obtain⟨_,⟨hv,_⟩|⟨g,_,cur,hv,_,hg,_⟩⟩:=h
 ·rw[hv]at hq;cases hq
 ·rw[hv]at hq
  obtain rfl:g=q:=Option.some.inj hq
  exact⟨cur,hg⟩
def HeapIs (w:World) (q:Nat) (cs:Array Value) (T:TypeId):Prop:=w.heap[q]? = some (.cells cs T (0,0))
theorem HeapIs.cell {w : World} {q : Nat} {cs:Array Value} {T : TypeId} (h:HeapIs w q cs T) (i:Nat):w.cell? ⟨q,i,none⟩=cs[i]?:=by
 simp[World.cell?,show w.heap[q]? = _ from h]
theorem HeapIs.lt {w : World} {q : Nat} {cs:Array Value} {T : TypeId} (h:HeapIs w q cs T):q<w.heap.size:=(Array.getElem?_eq_some_iff.1 h).1
theorem HeapIs.turn {S : Nat→Prop} {w w':World} {q : Nat} {cs:Array Value} {T : TypeId} (h:HeapIs w q cs T) (t:Turn S w w') (hn:¬ S q):HeapIs w' q cs T:=(t.block q h.lt hn).trans h
theorem HeapIs.keep {w w':World} {q : Nat} {cs:Array Value} {T : TypeId} (h:HeapIs w q cs T) (s:Since w w'):HeapIs w' q cs T:=(Below.block s q h.lt).trans h
theorem HeapIs.new (w:World) (cs:Array Value) (T:TypeId):HeapIs (w.alloc (.cells cs T)) w.heap.size cs T:=heap_last _ _
theorem nums_take {k : IntKind} {w : World} {a : Option Addr} {cap:Nat} {l : List Int} (h:Nums k w (.slice a l.length cap) l) (n:Nat) (hn:n≤l.length):Nums k w (.slice a n cap) (l.take n):=by
 rcases h with ⟨_,h1,h2⟩|⟨b,off,cap',h1,h2,h3,hb,hc⟩
 ·subst h2;obtain rfl:n=0:=by simpa using hn
  cases h1
  exact .inl ⟨_,rfl,rfl⟩
 ·cases h1
  have hl:(l.take n).length=n:=by rw[List.length_take];omega
  refine .inr ⟨b,off,cap,by rw[hl],by omega,h3,hb,fun j x hj=>?_⟩
  refine hc j x ?_
  rw[List.getElem?_take]at hj
  split at hj
  ·exact hj
  ·cases hj
theorem nums_caps {k : IntKind} {w : World} {a : Option Addr} {cap n:Nat} {l : List Int} (h:Nums k w (.slice a n cap) l):n=l.length∧n≤cap∧cap≤9223372036854775807:=by
 rcases h with ⟨_,h1,h2⟩|⟨b,off,cap',h1,h2,h3,hb,hc⟩
 ·cases h1;subst h2;exact⟨rfl,Nat.le_refl _,by omega⟩
 ·cases h1;unfold maxLen at h3;exact⟨rfl,h2,by omega⟩
theorem setRow_block {w : World} {g : Nat} {old:Array Value} {t : TypeId} (h:w.heap[g]? = some (.cells old t (0,0))) (cs:Array Value):(w.setRow g cs).heap[g]? = some (.cells cs t (0,0)):=by
 simp[World.setRow,Array.getElem?_modify,h]
theorem setRow_turn {S : Nat→Prop} {w : World} {g : Nat} (hg:S g) (cs:Array Value):Turn S w (w.setRow g cs):=by
 refine⟨rfl,rfl,rfl,by simp[World.setRow],fun k hk hs=>?_⟩
 have:g≠k:=fun e=>hs (e ▸ hg)
 simp[World.setRow,Array.getElem?_modify,this]
theorem own_not {w : World} {b : Nat} {e : TypeId} {size n:Nat} {v : Value} {xs:List Value} (h:w.ownsRow b e size v n xs) {q : Nat} {cs:Array Value} {T : TypeId} (hb:HeapIs w q cs T) (hT:e≠T):¬ v.ownBlock=some q:=by
 intro hq
 obtain⟨cur,hc⟩:=own_heap h hq
 rw[show w.heap[q]? = _ from hb]at hc
 simp only[Option.some.injEq,Obj.cells.injEq]at hc
 exact hT hc.2.1.symm
theorem HeapIs.set {w : World} {q : Nat} {cs:Array Value} {T : TypeId} (h:HeapIs w q cs T) (i:Nat) (x:Value):HeapIs (w.setCell ⟨q,i,none⟩ x) q (cs.setIfInBounds i x) T:=by
 unfold HeapIs at h ⊢
 simp[World.setCell,Array.getElem?_modify,h]
theorem HeapIs.frozen {w : World} {q : Nat} {cs:Array Value} {T : TypeId} (h:HeapIs w q cs T) (i:Nat):w.frozen? ⟨q,i,none⟩=false:=by
 simp[World.frozen?,show w.heap[q]? = _ from h]
theorem own_low {b1 b2 sz n:Nat} {e : TypeId} {w : World} {v : Value} {xs:List Value} (h:w.ownsRow b1 e sz v n xs) (hb:b2≤b1):w.ownsRow b2 e sz v n xs:=by
 obtain⟨h0,h1|⟨g,c,u,h1,h2,h3⟩⟩:=h
 ·exact⟨h0,.inl h1⟩
 ·exact⟨h0,.inr ⟨g,c,u,h1,Nat.le_trans hb h2,h3⟩⟩
theorem nums_read {w : World} {k : IntKind} {ta:Option Addr} {tn tc:Nat} {l : List Int} (h:Nums k w (.slice ta tn tc) l) {j : Nat} {v : Int} (hj:l[j]? = some v):∃ b off,ta=some ⟨b,off,none⟩∧b<w.heap.size∧w.cell? ⟨b,off+j,none⟩=some (.int k v):=by
 rcases h with ⟨_,_,h2⟩|⟨b,off,cap,h1,_,_,h4,h5⟩
 ·rw[h2]at hj;cases hj
 ·injection h1 with e1 e2 e3
  exact⟨b,off,e1,h4,h5 j v hj⟩
section
variable {w : World} {T : Nat→Prop}
def Kin (w:World) (U:TypeId) (T:Nat→Prop):Prop:=∀ q,T q→∃ cs,w.heap[q]? = some (.cells cs U)
theorem own_setCell {base:Nat} {e : TypeId} {sz n g cap:Nat} {xs:List Value} (h:w.ownsRow base e sz (.slice (some ⟨g,0,none⟩) n cap) n xs) (j:Nat) (y:Value):(w.setCell ⟨g,j,none⟩ y).ownsRow base e sz (.slice (some ⟨g,0,none⟩) n cap) n (xs.set j y):=by
 obtain⟨h0,⟨hv,_⟩|⟨g2,cap2,cur,hv,h2,hg,h4,h5,h6,h7⟩⟩:=h
 ·cases hv
 ·cases hv
  have h1:=HeapIs.set (show HeapIs w g cur e from hg) j y
  refine⟨by rw[List.length_set];exact h0,.inr ⟨g,cap,cur.setIfInBounds j y,rfl,h2,h1,h4,h5,by rw[Array.size_setIfInBounds];exact h6,?_⟩⟩
  rw[Array.toList_setIfInBounds,List.take_set,h7]
theorem Kin.box {q0:Nat} {cs:Array Value} {U : TypeId} (h:HeapIs w q0 cs U):Kin w U (fun q=>q=q0):=fun q e=>⟨cs,by rw[e];exact h⟩
theorem Kin.row {b sz n:Nat} {e : TypeId} {v : Value} {xs:List Value} (h:w.ownsRow b e sz v n xs):Kin w e (fun q=>v.ownBlock=some q):=fun q hq=>own_heap h hq
theorem Kin.apart {b sz n:Nat} {e U:TypeId} {v : Value} {xs:List Value} (k:Kin w U T) (h:w.ownsRow b e sz v n xs) (hne:e≠U):∀ q,v.ownBlock=some q→¬ T q:=fun q hq ht=>by
 obtain⟨c1,h1⟩:=own_heap h hq
 obtain⟨c2,h2⟩:=k q ht
 rw[h1]at h2
 simp only[Option.some.injEq,Obj.cells.injEq]at h2
 exact hne h2.2.1
theorem Kin.heap {q : Nat} {cs:Array Value} {e U:TypeId} (k:Kin w U T) (h:HeapIs w q cs e) (hne:e≠U):¬ T q:=fun ht=>by
 obtain⟨c2,h2⟩:=k q ht
 rw[show w.heap[q]? = _ from h]at h2
 simp only[Option.some.injEq,Obj.cells.injEq]at h2
 exact hne h2.2.1
end
end Go.Proofs.Ytkpbmbhejpmboaa
