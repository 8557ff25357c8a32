/- jacquardref03.Made: who is reached without one. -/
import Derived.Test.YtkpbmbhejpmboaaPkB27
namespace Go.Proofs.Ytkpbmbhejpmboaa
open Go.RowKit
set_option linter.unusedVariables false
set_option maxHeartbeats 8000000 in
set_option maxRecDepth 1000000 in
theorem mk_away (w wo:World) (ex:List Bx) (sa:Option Addr) (sl sc:Nat) (l:List Int) (rows:List (Value × List Int)) (m:MkSt) (r mb bb n tb pb db tn b vc:Nat) (va:Option Addr) (rdy:Bool) (a0:Act) (w1:World) (Q0:Exit→Act→World→Prop) (hfr:Fr [(2,.pointer (some ⟨r,0,none⟩)),(3,.pointer (some ⟨mb,0,none⟩)),(4,.int .i64 n),(5,.slice (some ⟨tb,0,none⟩) n n),(7,.slice (some ⟨pb,0,none⟩) n n),(11,.slice (some ⟨db,0,none⟩) n n),(12,.int .i64 tn),(13,.int .i64 b),(14,.bool rdy),(15,.slice va 0 vc),(16,.int .i64 0)] a0)
  (hst:MSt w ex mb bb tb (.slice sa sl sc) l n rows m wo) (hn9:n≤9) (haw:AwOk wo m.bks n (.slice va 0 vc) [] w1)
  (hQ:∀ a1 w2 va vc aw,Fr [(2,.pointer (some ⟨r,0,none⟩)),(3,.pointer (some ⟨mb,0,none⟩)),(4,.int .i64 n),(5,.slice (some ⟨tb,0,none⟩) n n),(7,.slice (some ⟨pb,0,none⟩) n n),(11,.slice (some ⟨db,0,none⟩) n n),(12,.int .i64 tn),(13,.int .i64 b),(14,.bool rdy),(15,.slice va n vc)] a1→AwOk wo m.bks n (.slice va n vc) aw w2→aw.length=n→Q0 .normal a1 w2):Code.wp Try.prog (mkCode [1,1,1,1,1,1,1,1,1,1,1,0,1,0,0,1,0,0,1,0,0,1,0,0,1,1,0,1]) Q0 a0 w1:=by
 obtain⟨u,ha0,hu⟩:=frame_ex hfr
 obtain⟨g1,g2,s2,s3,s4,s5,s7,s11,s12,s13,s14,s15,s16,g3⟩:=hfr
 have e2:=hu 2 _ s2
 have e3:=hu 3 _ s3
 have e4:=hu 4 _ s4
 have e5:=hu 5 _ s5
 have e7:=hu 7 _ s7
 have e11:=hu 11 _ s11
 have e12:=hu 12 _ s12
 have e13:=hu 13 _ s13
 have e14:=hu 14 _ s14
 have e15:=hu 15 _ s15
 have e16:=hu 16 _ s16
 rw[e2,e3,e4,e5,e7,e11,e12,e13,e14,e15,e16]at ha0
 subst ha0
 clear hu g1 g2 g3 e2 s2 e3 s3 e4 s4 e5 s5 e7 s7 e11 s11 e12 s12 e13 s13 e14 s14 e15 s15 e16 s16
 conv=>arg 2;whnf
 have HQ:=Lib.hid hQ
 have HST3:=Lib.hid hst
 clear hQ hst
 go_wp2_with fail
 refine wp_loop_fr (fun t ac wr=>∃ (a:Nat) (aw:List (Nat × List Bool)) (va:Option Addr) (vc:Nat),t=n-a∧a≤n∧aw.length=a∧Fr [(2,.pointer (some ⟨r,0,none⟩)),(3,.pointer (some ⟨mb,0,none⟩)),(4,.int .i64 n),(5,.slice (some ⟨tb,0,none⟩) n n),(7,.slice (some ⟨pb,0,none⟩) n n),(11,.slice (some ⟨db,0,none⟩) n n),(12,.int .i64 tn),(13,.int .i64 b),(14,.bool rdy),(15,.slice va a vc),(16,.int .i64 a)] ac∧AwOk wo m.bks n (.slice va a vc) aw wr) n ⟨0,[],va,vc,rfl,Nat.zero_le _,rfl,(fr_mk rfl rfl (sl_cons rfl (sl_cons rfl (sl_cons rfl (sl_cons rfl (sl_cons rfl (sl_cons rfl (sl_cons rfl (sl_cons rfl (sl_cons rfl (sl_cons rfl (sl_cons rfl (sl_nil _))))))))))))),haw⟩ ?_
 ·clear haw va vc
  intro t a1 wr K hJ hK
  have HK9:=Lib.hid hK
  clear hK
  obtain⟨a,aw,va,vc,rfl,han,hal,hf,haw⟩:=hJ
  obtain⟨u,ha0,hu⟩:=frame_ex hf
  obtain⟨g1,g2,s2,s3,s4,s5,s7,s11,s12,s13,s14,s15,s16,g3⟩:=hf
  have e2:=hu 2 _ s2
  have e3:=hu 3 _ s3
  have e4:=hu 4 _ s4
  have e5:=hu 5 _ s5
  have e7:=hu 7 _ s7
  have e11:=hu 11 _ s11
  have e12:=hu 12 _ s12
  have e13:=hu 13 _ s13
  have e14:=hu 14 _ s14
  have e15:=hu 15 _ s15
  have e16:=hu 16 _ s16
  rw[e2,e3,e4,e5,e7,e11,e12,e13,e14,e15,e16]at ha0
  subst ha0
  clear hu g1 g2 g3 e2 s2 e3 s3 e4 s4 e5 s5 e7 s7 e11 s11 e12 s12 e13 s13 e14 s14 e15 s15 e16 s16
  have HAW:=Lib.hid haw
  have HAL:=Lib.hid hal
  clear haw hal
  by_cases hla:a<n
  ·have hst2:=HST3.out.keep HAW.out.old
   have hbx:=hst2.box
   have hb2:=hbx.cell 2
   have hb3:=hbx.cell 3
   have hl3:=hbx.lt
   have hre:=reached_any m.params m.bks (.slice (some ⟨bb,0,none⟩) n n) wr hst2.fn.tos (by rw[hst2.len];omega) a
   have HRE:=Lib.hid hre
   have HLEN:=Lib.hid hst2.len
   have HOLD:=Lib.hid (HAW.out.old.size)
   clear hst2 hbx hre
   go_wp2_with fail
   refine HRE.out.mono ?_
   rintro e w9 ⟨ob,rout,rfl,hob,hobl,hs9,hrl,hr0,hrc⟩
   rw[HLEN.out]at hrl hrc
   have HP:=Lib.hid (show HeapIs (w9.alloc (.cells #[awv n (ob,rout)] 79)) ob (rout.map Value.bool).toArray 4∧wo.heap.size≤ob∧rout.length=n from⟨hob.keep ((Since.refl _).alloc _),by have:=HOLD.out;omega,hrl⟩)
   have HC:=Lib.hid (show ReCl m.bks n aw.length rout from⟨fun h=>hr0 (by rw[HAL.out]at h;exact h),fun c b2 y h1 h2 h3 h4 h5 h6=>hrc c b2 y h1 h2 h3 h4 h5 (by rw[HAL.out]at h6;exact h6)⟩)
   rw[HLEN.out]
   have HS9:=Lib.hid hs9
   have HS10:=Lib.hid (show wo.heap.size≤w9.heap.size from by have:=HOLD.out;have:=hs9.size;omega)
   clear hob hobl hs9 hrl hr0 hrc hb2 hb3 hl3
   go_wp2_with (refine wpList_append_one2 (base:=wo.heap.size) (awc n) 1 (fun _=>rfl) (by decide) rfl _ _ 186 rfl 79 (.slice none 0 0) 24 Try.underlying186 (by kernel_rfl) rfl (.slice va a vc) aw (ob,rout) w9.heap.size 1 79 rfl rfl (by have h:=OwnRow.keep HAW.out.own (HS9.out.trans ((Since.refl _).alloc (.cells #[awv n (ob,rout)] 79)));exact h) (heap_last _ _) (by intro u hu;rw[List.mem_singleton.1 hu];rfl) (by rw[HAL.out];unfold maxLen;omega) (by rw[HAL.out];omega) (by have:=HS10.out;simp;omega) ?_;intro v' w' hown' ht' hnew';have HAN:=Lib.hid (HAW.out.add (HS9.out.trans ((Since.refl _).alloc _)) HP.out HC.out hown' ht');obtain⟨va2,vc2,hv2⟩:=own_shape (show w'.ownsRow _ _ _ _ _ _ from hown');rw[show (aw++[(ob,rout)]).length=a+1 from by rw[List.length_append,HAL.out];rfl]at hv2;subst hv2;clear hown' ht' hnew')
   exact HK9.out (n-(a+1)) _ _ (by omega) ⟨a+1,_,va2,vc2,rfl,by omega,by rw[List.length_append,HAL.out];rfl,(fr_mk rfl rfl (sl_cons rfl (sl_cons rfl (sl_cons rfl (sl_cons rfl (sl_cons rfl (sl_cons rfl (sl_cons rfl (sl_cons rfl (sl_cons rfl (sl_cons rfl (sl_cons rfl (sl_nil _))))))))))))),HAN.out⟩
  ·obtain rfl:n=a:=by omega
   go_wp2_with fail
   exact HQ.out _ _ _ _ _ (fr_mk rfl rfl (sl_cons rfl (sl_cons rfl (sl_cons rfl (sl_cons rfl (sl_cons rfl (sl_cons rfl (sl_cons rfl (sl_cons rfl (sl_cons rfl (sl_cons rfl (sl_nil _)))))))))))) HAW.out HAL.out
end Go.Proofs.Ytkpbmbhejpmboaa
