/- Part 5 of 6: walks and laws of the functions of chapter 02 (integers as text), which the last part joins; no condition beyond those of the theorem there. The words of the print (W..) are the kit's, cut down by program to what is used here. -/
import Derived.Test.YtaknchlegjcdhaaGreatDoorCz4
namespace Go.Proofs.YtaknchlegjcdhaaGreatDoor.Pr
open Go.RowKit Go.Proofs.YtaknchlegjcdhaaGreatDoorW.PrintWords Go.Proofs.YtaknchlegjcdhaaGreatDoorW.PrintLast Go.Proofs.YtaknchlegjcdhaaGreatDoorW.PrintMore
attribute [local go_sem] max2_int min2_int max_two min_two max_three min_three max_four min_four
set_option linter.unusedVariables false
set_option linter.unusedSimpArgs false
def integer_Sub.f (k:Nat) (a0:ByteArray) (a1:ByteArray):Option (ByteArray × Int):=(integer_both.f k a0 a1).bind fun bt274=>(if bt274.2.2.2.2 = 0 then ((integer_number_opposite.f bt274.2.2.1 bt274.2.2.2.1).bind fun bt281=>((integer_number_plus.f bt274.1 bt274.2.1 bt281.1 bt281.2).bind fun bt283=>((integer_number_text.f bt283.1 bt283.2).bind fun t285=>(some (t285,0))))) else (some ((⟨#[]⟩:ByteArray),bt274.2.2.2.2)))
theorem integer_Sub.mono:∀ a0 a1 k,LeO (integer_Sub.f k a0 a1) (integer_Sub.f (k + 1) a0 a1):=by
 intro a0 a1 k
 unfold integer_Sub.f
 repeat' first
   | (with_reducible exact integer_both.mono _ _ _)
   | (with_reducible exact LeO.refl _)
   | (with_reducible exact LeO.none _)
   | (with_reducible refine LeO.ite ?_ ?_)
   | (with_reducible refine LeO.bind ?_ (fun _=>?_))
   | exact integer_both.mono _ _ _
   | exact LeO.none _
   | refine LeO.ite ?_ ?_
   | refine LeO.bind ?_ (fun _=>?_)
set_option maxHeartbeats 8000000 in
set_option maxRecDepth 100000 in
theorem integer_Sub.calls (k:Nat) (a0:ByteArray) (a1:ByteArray) (r1:ByteArray) (r2:Int) (w:World) (hL:LaidW w) (h:integer_Sub.f k a0 a1 = some (r1,r2)) :
  Calls Tryz.prog 26 #[.string a0,.string a1] w fun e w'=>e = .returned (.tuple #[.string r1,.int .i64 r2])∧Below w.heap.size w w':=by
 have hu43:=Tryz.underlying43
 have HB:=Aside0.mk (Below.refl w.heap.size w)
 have HLW:=Aside0.mk hL
 clear hL
 have H:((integer_both.f k a0 a1).bind fun bt274=>(if bt274.2.2.2.2 = 0 then ((integer_number_opposite.f bt274.2.2.1 bt274.2.2.2.1).bind fun bt281=>((integer_number_plus.f bt274.1 bt274.2.1 bt281.1 bt281.2).bind fun bt283=>((integer_number_text.f bt283.1 bt283.2).bind fun t285=>(some (t285,0))))) else (some ((⟨#[]⟩:ByteArray),bt274.2.2.2.2)))) = some (r1,r2):=h
 clear h
 replace H:=Option.bind_eq_some_iff.mp H
 obtain ⟨⟨t274,t275,t276,t277,t278⟩,A30,H⟩:=H
 replace H:(if t278 = 0 then ((integer_number_opposite.f t276 t277).bind fun bt281=>((integer_number_plus.f t274 t275 bt281.1 bt281.2).bind fun bt283=>((integer_number_text.f bt283.1 bt283.2).bind fun t285=>(some (t285,0))))) else (some ((⟨#[]⟩:ByteArray),t278))) = some (r1,r2):=H
 have A3:=Aside0.mk A30
 clear A30
 by_cases c4:t278 = 0
 ·rw [if_pos c4] at H
  have c4b0:(t278 == 0) = true:=beq_iff_eq.mpr c4
  have c4b1:(t278 != 0) = false:=bne_eq_false_iff_eq.mpr c4
  clear c4
  replace H:=Option.bind_eq_some_iff.mp H
  obtain ⟨⟨t281,t282⟩,A50,H⟩:=H
  replace H:((integer_number_plus.f t274 t275 t281 t282).bind fun bt283=>((integer_number_text.f bt283.1 bt283.2).bind fun t285=>(some (t285,0)))) = some (r1,r2):=H
  have A5:=Aside0.mk A50
  clear A50
  replace H:=Option.bind_eq_some_iff.mp H
  obtain ⟨⟨t283,t284⟩,A60,H⟩:=H
  replace H:((integer_number_text.f t283 t284).bind fun t285=>(some (t285,0))) = some (r1,r2):=H
  have A6:=Aside0.mk A60
  clear A60
  replace H:=Option.bind_eq_some_iff.mp H
  obtain ⟨t285,A70,H⟩:=H
  replace H:(some (t285,0)) = some (r1,r2):=H
  have A7:=Aside0.mk A70
  clear A70
  simp only [Option.some.injEq,Prod.mk.injEq] at H
  obtain ⟨rfl,rfl⟩:=H
  go_enter Tryz.func26,Tryz.ntmps26
  try go_wp2_with (first|((with_reducible refine gate_callee (f:=51) rfl ?_);refine goesL_ (some 12) rfl rfl Tryz.func51 (by kernel_rfl) rfl #[.string a0,.string a1] rfl (by (try simp only [List.map_toArray,List.map_cons,List.map_nil]);first|done|rfl|(simp only [List.length_drop,List.length_take];rfl)) ?_;(with_reducible refine (integer_both.calls k a0 a1 t274 t275 t276 t277 t278 _ A3.out).mono ?_);rintro e w8 ⟨rfl,hb⟩;refine ⟨_,rfl,?_⟩;have n0_:=Aside0.mk (below_step (by repeat (first|(with_reducible first|exact HB.out|apply below_alloc|apply pw_below_drewN|apply below_drew1)|exact HB.out)) hb);clear HB;have HB:=n0_;clear n0_;(try clear hb);(try clear hb2);(try clear hk);(try clear hi))|((with_reducible refine gate_dst (N:=6) rfl ?_);refine box_event ?hg (N:=6) ?hd (cs:=#[.bool false,.string (⟨#[]⟩:ByteArray)]) (t:=43) ?hr ?_;(case hd=>rfl);(case hg=>rfl);(case hr=>first|(go_simp;done)|(go_simp;rfl));intro gb279 hg w9 hbox hb;have n0_:=Aside0.mk (below_step (by repeat (first|(with_reducible first|exact HB.out|apply below_alloc|apply pw_below_drewN|apply below_drew1)|exact HB.out)) hb);have n1_:=Aside0.mk (hbox);have n2_:=Aside0.mk ((by rw [hg];exact (below_size (by repeat (first|(with_reducible first|exact HB.out|apply below_alloc|apply pw_below_drewN|apply below_drew1)|exact HB.out))):w.heap.size≤gb279));have n3_:=Aside0.mk ((by rw [hg];exact (below_size (by repeat (first|(with_reducible first|exact HB.out|apply below_alloc|apply pw_below_drewN|apply below_drew1)|exact HB.out))):w.heap.size≤gb279));clear HB;have HB:=n0_;have BK279:=n1_;have GW279:=n2_;have GE279:=n3_;clear n0_ n1_ n2_ n3_;clear hb hbox hg)|((with_reducible refine gate_dst (N:=7) rfl ?_);refine box_event ?hg (N:=7) ?hd (cs:=#[.bool false,.string (⟨#[]⟩:ByteArray)]) (t:=43) ?hr ?_;(case hd=>rfl);(case hg=>rfl);(case hr=>first|(go_simp;done)|(go_simp;rfl));intro gb280 hg w10 hbox hb;have n0_:=Aside0.mk (blk_below (g:=gb279) (o:=.cells #[.bool false,.string (⟨#[]⟩:ByteArray)] 43 (0,0)) (by (with_reducible repeat (first|refine blk_drewN ?_ _|refine blk_drew ?_|refine blk_alloc ?_ _));exact BK279.out) hb);have n1_:=Aside0.mk (below_step (by repeat (first|(with_reducible first|exact HB.out|apply below_alloc|apply pw_below_drewN|apply below_drew1|refine below_set ?_ GE279.out)|exact HB.out)) hb);have n2_:=Aside0.mk (hbox);have n3_:=Aside0.mk ((by rw [hg];exact (below_size (by repeat (first|(with_reducible first|exact HB.out|apply below_alloc|apply pw_below_drewN|apply below_drew1|refine below_set ?_ GE279.out)|exact HB.out))):w.heap.size≤gb280));have n4_:=Aside0.mk ((by rw [hg];exact (below_size (by repeat (first|(with_reducible first|exact HB.out|apply below_alloc|apply pw_below_drewN|apply below_drew1|refine below_set ?_ GE279.out)|exact HB.out))):w.heap.size≤gb280));have n5_:=Aside0.mk ((by rw [hg];exact Nat.ne_of_lt (blk_lt (g:=gb279) (o:=.cells #[.bool false,.string (⟨#[]⟩:ByteArray)] 43 (0,0)) (by (with_reducible repeat (first|refine blk_drewN ?_ _|refine blk_drew ?_|refine blk_alloc ?_ _));exact BK279.out)):gb279≠gb280));have n6_:=Aside0.mk ((by rw [hg];exact Nat.ne_of_gt (blk_lt (g:=gb279) (o:=.cells #[.bool false,.string (⟨#[]⟩:ByteArray)] 43 (0,0)) (by (with_reducible repeat (first|refine blk_drewN ?_ _|refine blk_drew ?_|refine blk_alloc ?_ _));exact BK279.out)):gb280≠gb279));clear BK279;clear HB;have BK279:=n0_;have HB:=n1_;have BK280:=n2_;have GW280:=n3_;have GE280:=n4_;have NB279_280:=n5_;have NB280_279:=n6_;clear n0_ n1_ n2_ n3_ n4_ n5_ n6_;clear hb hbox hg;have hnb11:=NB279_280.out;have hnc11:=NB280_279.out;have hcz12_0:w10.cell? ⟨gb279,0,none⟩ = some (.bool false):=(blk_cell BK279.out 0).trans rfl;have hcz12_1:w10.cell? ⟨gb279,1,none⟩ = some (.string (⟨#[]⟩:ByteArray)):=(blk_cell BK279.out 1).trans rfl;have hfz12_0:=blk_frozen BK279.out 0;have hfz12_1:=blk_frozen BK279.out 1;have hcz13_0:w10.cell? ⟨gb280,0,none⟩ = some (.bool false):=(blk_cell BK280.out 0).trans rfl;have hcz13_1:w10.cell? ⟨gb280,1,none⟩ = some (.string (⟨#[]⟩:ByteArray)):=(blk_cell BK280.out 1).trans rfl;have hfz13_0:=blk_frozen BK280.out 0;have hfz13_1:=blk_frozen BK280.out 1))
  have n0_:Aside0 (((((w10.setCell ⟨gb279,0,none⟩ (.bool t274)).setCell ⟨gb279,1,none⟩ (.string t275)).setCell ⟨gb280,0,none⟩ (.bool t276)).setCell ⟨gb280,1,none⟩ (.string t277)).heap[gb279]? = some (.cells #[.bool t274,.string t275] 43 (0,0))):=⟨by (with_reducible repeat (first|refine blk_drewN ?_ _|refine blk_drew ?_|refine blk_alloc ?_ _));refine blk_far ?_ NB279_280.out _;(with_reducible repeat (first|refine blk_drewN ?_ _|refine blk_drew ?_|refine blk_alloc ?_ _));refine blk_far ?_ NB279_280.out _;(with_reducible repeat (first|refine blk_drewN ?_ _|refine blk_drew ?_|refine blk_alloc ?_ _));refine blk_put (cs:=#[.bool t274,.string (⟨#[]⟩:ByteArray)]) ?_ 1 _ rfl;(with_reducible repeat (first|refine blk_drewN ?_ _|refine blk_drew ?_|refine blk_alloc ?_ _));refine blk_put (cs:=#[.bool false,.string (⟨#[]⟩:ByteArray)]) ?_ 0 _ rfl;(with_reducible repeat (first|refine blk_drewN ?_ _|refine blk_drew ?_|refine blk_alloc ?_ _));exact BK279.out⟩
  have n1_:Aside0 (((((w10.setCell ⟨gb279,0,none⟩ (.bool t274)).setCell ⟨gb279,1,none⟩ (.string t275)).setCell ⟨gb280,0,none⟩ (.bool t276)).setCell ⟨gb280,1,none⟩ (.string t277)).heap[gb280]? = some (.cells #[.bool t276,.string t277] 43 (0,0))):=⟨by (with_reducible repeat (first|refine blk_drewN ?_ _|refine blk_drew ?_|refine blk_alloc ?_ _));refine blk_put (cs:=#[.bool t276,.string (⟨#[]⟩:ByteArray)]) ?_ 1 _ rfl;(with_reducible repeat (first|refine blk_drewN ?_ _|refine blk_drew ?_|refine blk_alloc ?_ _));refine blk_put (cs:=#[.bool false,.string (⟨#[]⟩:ByteArray)]) ?_ 0 _ rfl;(with_reducible repeat (first|refine blk_drewN ?_ _|refine blk_drew ?_|refine blk_alloc ?_ _));refine blk_far ?_ NB280_279.out _;(with_reducible repeat (first|refine blk_drewN ?_ _|refine blk_drew ?_|refine blk_alloc ?_ _));refine blk_far ?_ NB280_279.out _;(with_reducible repeat (first|refine blk_drewN ?_ _|refine blk_drew ?_|refine blk_alloc ?_ _));exact BK280.out⟩
  have n2_:Aside0 (Below w.heap.size w ((((w10.setCell ⟨gb279,0,none⟩ (.bool t274)).setCell ⟨gb279,1,none⟩ (.string t275)).setCell ⟨gb280,0,none⟩ (.bool t276)).setCell ⟨gb280,1,none⟩ (.string t277))):=⟨by repeat (first|(with_reducible first|exact HB.out|apply below_alloc|apply pw_below_drewN|apply below_drew1|refine below_set ?_ GE279.out|refine below_set ?_ GE280.out)|exact HB.out)⟩
  (try clear BK279)
  (try clear BK280)
  (try clear HB)
  generalize ((((w10.setCell ⟨gb279,0,none⟩ (.bool t274)).setCell ⟨gb279,1,none⟩ (.string t275)).setCell ⟨gb280,0,none⟩ (.bool t276)).setCell ⟨gb280,1,none⟩ (.string t277)) = w14 at n0_ n1_ n2_ ⊢
  have BK279:=n0_
  have BK280:=n1_
  have HB:=n2_
  clear n0_ n1_ n2_
  have n0_:=Aside0.mk (blk_drew BK279.out)
  have n1_:=Aside0.mk (blk_drew BK280.out)
  have n2_:=Aside0.mk (below_drew1 HB.out)
  clear BK279
  clear BK280
  clear HB
  have BK279:=n0_
  have BK280:=n1_
  have HB:=n2_
  clear n0_ n1_ n2_
  refine start_ (n:=7) (S:=fun w'=>w'.cell? ⟨gb279,0,none⟩ = some (.bool t274)∧w'.cell? ⟨gb279,1,none⟩ = some (.string t275)∧w'.cell? ⟨gb280,0,none⟩ = some (.bool t276)∧w'.cell? ⟨gb280,1,none⟩ = some (.string t277)) (ds:=[]) #[false,false,false,false,false,false,false] (by kernel_rfl) rfl rfl ⟨(blk_cell BK279.out 0).trans rfl,(blk_cell BK279.out 1).trans rfl,(blk_cell BK280.out 0).trans rfl,(blk_cell BK280.out 1).trans rfl⟩ (fun hHeld=>?_)
  generalize w14.drew = w15 at BK279 BK280 HB hHeld ⊢
  refine take_ (i:=0) (N:=some 19) (v:=?_) (a':=?_) #[true,false,false,false,false,false,false] rfl rfl (by kernel_rfl) (fun _ _ _ h=>h) (Or.inl ⟨by rfl,?_⟩) hHeld ?_ ?_
  rotate_left
  ·rintro w' ⟨s0,s1,s2,s3⟩
   go_simp
   with_reducible rfl
  rotate_left
  ·simp only [Act.put,List.setIfInBounds_toArray,List.set_cons_zero,List.set_cons_succ,i64_w,i32_w]
   rfl
  refine take_ (i:=1) (N:=some 20) (v:=?_) (a':=?_) #[true,true,false,false,false,false,false] rfl rfl (by kernel_rfl) (fun _ _ _ h=>h) (Or.inl ⟨by rfl,?_⟩) hHeld ?_ ?_
  rotate_left
  ·rintro w' ⟨s0,s1,s2,s3⟩
   go_simp
   with_reducible rfl
  rotate_left
  ·simp only [Act.put,List.setIfInBounds_toArray,List.set_cons_zero,List.set_cons_succ,i64_w,i32_w]
   rfl
  refine one_ (i:=2) (N:=some 21) #[true,true,true,false,false,false,false] rfl rfl (by kernel_rfl) (by decide) (fun K hK=>?_)
  refine goes_ Tryz.func45 (by kernel_rfl) rfl #[.agg #[.bool t276,.string t277]] (by rfl) rfl rfl (by (try simp only [List.map_toArray,List.map_cons,List.map_nil]);first|done|rfl|(simp only [List.length_drop,List.length_take];rfl)) ?_
  with_reducible refine (integer_number_opposite.calls t276 t277 t281 t282 _ A5.out).mono ?_
  rintro e w16 ⟨rfl,hb⟩
  refine ⟨_,rfl,?_⟩
  have n0_:=Aside0.mk (blk_below (g:=gb279) (o:=.cells #[.bool t274,.string t275] 43 (0,0)) (by (with_reducible repeat (first|refine blk_drewN ?_ _|refine blk_drew ?_|refine blk_alloc ?_ _));exact BK279.out) hb)
  have n1_:=Aside0.mk (blk_below (g:=gb280) (o:=.cells #[.bool t276,.string t277] 43 (0,0)) (by (with_reducible repeat (first|refine blk_drewN ?_ _|refine blk_drew ?_|refine blk_alloc ?_ _));exact BK280.out) hb)
  have n2_:=Aside0.mk (below_step (by repeat (first|(with_reducible first|exact HB.out|apply below_alloc|apply pw_below_drewN|apply below_drew1|refine below_set ?_ GE279.out|refine below_set ?_ GE280.out)|exact HB.out)) hb)
  clear BK279
  clear BK280
  clear HB
  have BK279:=n0_
  have BK280:=n1_
  have HB:=n2_
  clear n0_ n1_ n2_
  (try clear hb)
  (try clear hb2)
  (try clear hk)
  (try clear hi)
  refine hK.out _ _ ⟨(blk_cell BK279.out 0).trans rfl,(blk_cell BK279.out 1).trans rfl,(blk_cell BK280.out 0).trans rfl,(blk_cell BK280.out 1).trans rfl⟩ (fun hHeld=>?_)
  clear hK K
  refine norm_ (a':=?_) ?_ ?_
  rotate_left
  ·show Act.put _ (some 21) _ = _
   simp only [Act.put,List.setIfInBounds_toArray,List.set_cons_zero,List.set_cons_succ,i64_w,i32_w]
   rfl
  refine one_ (i:=3) (N:=some 22) #[true,true,true,true,false,false,false] rfl rfl (by kernel_rfl) (by decide) (fun K hK=>?_)
  refine goes_ Tryz.func52 (by kernel_rfl) rfl #[.agg #[.bool t274,.string t275],.agg #[.bool t281,.string t282]] (by rfl) rfl rfl (by (try simp only [List.map_toArray,List.map_cons,List.map_nil]);first|done|rfl|(simp only [List.length_drop,List.length_take];rfl)) ?_
  with_reducible refine (integer_number_plus.calls t274 t275 t281 t282 t283 t284 _ ?side1 A6.out).mono ?_
  (case side1=>exact HLW.out.below (by repeat (first|(with_reducible first|exact HB.out|apply below_alloc|apply pw_below_drewN|apply below_drew1|refine below_set ?_ GE279.out|refine below_set ?_ GE280.out)|exact HB.out)))
  rintro e w17 ⟨rfl,hb⟩
  refine ⟨_,rfl,?_⟩
  have n0_:=Aside0.mk (blk_below (g:=gb279) (o:=.cells #[.bool t274,.string t275] 43 (0,0)) (by (with_reducible repeat (first|refine blk_drewN ?_ _|refine blk_drew ?_|refine blk_alloc ?_ _));exact BK279.out) hb)
  have n1_:=Aside0.mk (blk_below (g:=gb280) (o:=.cells #[.bool t276,.string t277] 43 (0,0)) (by (with_reducible repeat (first|refine blk_drewN ?_ _|refine blk_drew ?_|refine blk_alloc ?_ _));exact BK280.out) hb)
  have n2_:=Aside0.mk (below_step (by repeat (first|(with_reducible first|exact HB.out|apply below_alloc|apply pw_below_drewN|apply below_drew1|refine below_set ?_ GE279.out|refine below_set ?_ GE280.out)|exact HB.out)) hb)
  clear BK279
  clear BK280
  clear HB
  have BK279:=n0_
  have BK280:=n1_
  have HB:=n2_
  clear n0_ n1_ n2_
  (try clear hb)
  (try clear hb2)
  (try clear hk)
  (try clear hi)
  refine hK.out _ _ ⟨(blk_cell BK279.out 0).trans rfl,(blk_cell BK279.out 1).trans rfl,(blk_cell BK280.out 0).trans rfl,(blk_cell BK280.out 1).trans rfl⟩ (fun hHeld=>?_)
  clear hK K
  refine norm_ (a':=?_) ?_ ?_
  rotate_left
  ·show Act.put _ (some 22) _ = _
   simp only [Act.put,List.setIfInBounds_toArray,List.set_cons_zero,List.set_cons_succ,i64_w,i32_w]
   rfl
  refine one_ (i:=4) (N:=some 23) #[true,true,true,true,true,false,false] rfl rfl (by kernel_rfl) (by decide) (fun K hK=>?_)
  refine goes_ Tryz.func46 (by kernel_rfl) rfl #[.agg #[.bool t283,.string t284]] (by rfl) rfl rfl (by (try simp only [List.map_toArray,List.map_cons,List.map_nil]);first|done|rfl|(simp only [List.length_drop,List.length_take];rfl)) ?_
  with_reducible refine (integer_number_text.calls t283 t284 t285 _ A7.out).mono ?_
  rintro e w18 ⟨rfl,hb⟩
  refine ⟨_,rfl,?_⟩
  have n0_:=Aside0.mk (blk_below (g:=gb279) (o:=.cells #[.bool t274,.string t275] 43 (0,0)) (by (with_reducible repeat (first|refine blk_drewN ?_ _|refine blk_drew ?_|refine blk_alloc ?_ _));exact BK279.out) hb)
  have n1_:=Aside0.mk (blk_below (g:=gb280) (o:=.cells #[.bool t276,.string t277] 43 (0,0)) (by (with_reducible repeat (first|refine blk_drewN ?_ _|refine blk_drew ?_|refine blk_alloc ?_ _));exact BK280.out) hb)
  have n2_:=Aside0.mk (below_step (by repeat (first|(with_reducible first|exact HB.out|apply below_alloc|apply pw_below_drewN|apply below_drew1|refine below_set ?_ GE279.out|refine below_set ?_ GE280.out)|exact HB.out)) hb)
  clear BK279
  clear BK280
  clear HB
  have BK279:=n0_
  have BK280:=n1_
  have HB:=n2_
  clear n0_ n1_ n2_
  (try clear hb)
  (try clear hb2)
  (try clear hk)
  (try clear hi)
  refine hK.out _ _ ⟨(blk_cell BK279.out 0).trans rfl,(blk_cell BK279.out 1).trans rfl,(blk_cell BK280.out 0).trans rfl,(blk_cell BK280.out 1).trans rfl⟩ (fun hHeld=>?_)
  clear hK K
  refine norm_ (a':=?_) ?_ ?_
  rotate_left
  ·show Act.put _ (some 23) _ = _
   simp only [Act.put,List.setIfInBounds_toArray,List.set_cons_zero,List.set_cons_succ,i64_w,i32_w]
   rfl
  refine pure_ (i:=5) (N:=some 4) (v:=?_) (a':=?_) #[true,true,true,true,true,true,false] rfl rfl (by kernel_rfl) (fun _ _ _ h=>h) (Or.inl ⟨by rfl,?_⟩) ?_ ?_
  rotate_left
  ·intro w'
   go_simp
   with_reducible rfl
  rotate_left
  ·simp only [Act.put,List.setIfInBounds_toArray,List.set_cons_zero,List.set_cons_succ,i64_w,i32_w]
   rfl
  refine pure_ (i:=6) (N:=some 5) (v:=?_) (a':=?_) #[true,true,true,true,true,true,true] rfl rfl (by kernel_rfl) (fun _ _ _ h=>h) (Or.inl ⟨by rfl,?_⟩) ?_ ?_
  rotate_left
  ·intro w'
   go_simp
   with_reducible rfl
  rotate_left
  ·simp only [Act.put,List.setIfInBounds_toArray,List.set_cons_zero,List.set_cons_succ,i64_w,i32_w]
   rfl
  refine done_ (by kernel_rfl) ?_
  try go_wp2
  go_ret2
  exact ⟨by first|rfl|(simp [errW_none,errW_some]<;>rfl)|(simp [*,errW_none,errW_some]<;>rfl),by repeat (first|(with_reducible first|exact HB.out|apply below_alloc|apply pw_below_drewN|apply below_drew1|refine below_set ?_ GE279.out|refine below_set ?_ GE280.out)|exact HB.out)⟩
 ·rw [if_neg c4] at H
  have c4b0:(t278 == 0) = false:=beq_eq_false_iff_ne.mpr c4
  have c4b1:(t278 != 0) = true:=bne_iff_ne.mpr c4
  simp only [Option.some.injEq,Prod.mk.injEq] at H
  obtain ⟨rfl,rfl⟩:=H
  go_enter Tryz.func26,Tryz.ntmps26
  go_wp2_with (first|((with_reducible refine gate_callee (f:=51) rfl ?_);refine goesL_ (some 12) rfl rfl Tryz.func51 (by kernel_rfl) rfl #[.string a0,.string a1] rfl (by (try simp only [List.map_toArray,List.map_cons,List.map_nil]);first|done|rfl|(simp only [List.length_drop,List.length_take];rfl)) ?_;(with_reducible refine (integer_both.calls k a0 a1 t274 t275 t276 t277 t278 _ A3.out).mono ?_);rintro e w19 ⟨rfl,hb⟩;refine ⟨_,rfl,?_⟩;have n0_:=Aside0.mk (below_step (by repeat (first|(with_reducible first|exact HB.out|apply below_alloc|apply pw_below_drewN|apply below_drew1)|exact HB.out)) hb);clear HB;have HB:=n0_;clear n0_;(try clear hb);(try clear hb2);(try clear hk);(try clear hi))|((with_reducible refine gate_dst (N:=6) rfl ?_);refine box_event ?hg (N:=6) ?hd (cs:=#[.bool false,.string (⟨#[]⟩:ByteArray)]) (t:=43) ?hr ?_;(case hd=>rfl);(case hg=>rfl);(case hr=>first|(go_simp;done)|(go_simp;rfl));intro gb279 hg w20 hbox hb;have n0_:=Aside0.mk (below_step (by repeat (first|(with_reducible first|exact HB.out|apply below_alloc|apply pw_below_drewN|apply below_drew1)|exact HB.out)) hb);have n1_:=Aside0.mk (hbox);have n2_:=Aside0.mk ((by rw [hg];exact (below_size (by repeat (first|(with_reducible first|exact HB.out|apply below_alloc|apply pw_below_drewN|apply below_drew1)|exact HB.out))):w.heap.size≤gb279));have n3_:=Aside0.mk ((by rw [hg];exact (below_size (by repeat (first|(with_reducible first|exact HB.out|apply below_alloc|apply pw_below_drewN|apply below_drew1)|exact HB.out))):w.heap.size≤gb279));clear HB;have HB:=n0_;have BK279:=n1_;have GW279:=n2_;have GE279:=n3_;clear n0_ n1_ n2_ n3_;clear hb hbox hg)|((with_reducible refine gate_dst (N:=7) rfl ?_);refine box_event ?hg (N:=7) ?hd (cs:=#[.bool false,.string (⟨#[]⟩:ByteArray)]) (t:=43) ?hr ?_;(case hd=>rfl);(case hg=>rfl);(case hr=>first|(go_simp;done)|(go_simp;rfl));intro gb280 hg w21 hbox hb;have n0_:=Aside0.mk (blk_below (g:=gb279) (o:=.cells #[.bool false,.string (⟨#[]⟩:ByteArray)] 43 (0,0)) (by (with_reducible repeat (first|refine blk_drewN ?_ _|refine blk_drew ?_|refine blk_alloc ?_ _));exact BK279.out) hb);have n1_:=Aside0.mk (below_step (by repeat (first|(with_reducible first|exact HB.out|apply below_alloc|apply pw_below_drewN|apply below_drew1|refine below_set ?_ GE279.out)|exact HB.out)) hb);have n2_:=Aside0.mk (hbox);have n3_:=Aside0.mk ((by rw [hg];exact (below_size (by repeat (first|(with_reducible first|exact HB.out|apply below_alloc|apply pw_below_drewN|apply below_drew1|refine below_set ?_ GE279.out)|exact HB.out))):w.heap.size≤gb280));have n4_:=Aside0.mk ((by rw [hg];exact (below_size (by repeat (first|(with_reducible first|exact HB.out|apply below_alloc|apply pw_below_drewN|apply below_drew1|refine below_set ?_ GE279.out)|exact HB.out))):w.heap.size≤gb280));have n5_:=Aside0.mk ((by rw [hg];exact Nat.ne_of_lt (blk_lt (g:=gb279) (o:=.cells #[.bool false,.string (⟨#[]⟩:ByteArray)] 43 (0,0)) (by (with_reducible repeat (first|refine blk_drewN ?_ _|refine blk_drew ?_|refine blk_alloc ?_ _));exact BK279.out)):gb279≠gb280));have n6_:=Aside0.mk ((by rw [hg];exact Nat.ne_of_gt (blk_lt (g:=gb279) (o:=.cells #[.bool false,.string (⟨#[]⟩:ByteArray)] 43 (0,0)) (by (with_reducible repeat (first|refine blk_drewN ?_ _|refine blk_drew ?_|refine blk_alloc ?_ _));exact BK279.out)):gb280≠gb279));clear BK279;clear HB;have BK279:=n0_;have HB:=n1_;have BK280:=n2_;have GW280:=n3_;have GE280:=n4_;have NB279_280:=n5_;have NB280_279:=n6_;clear n0_ n1_ n2_ n3_ n4_ n5_ n6_;clear hb hbox hg;have hnb22:=NB279_280.out;have hnc22:=NB280_279.out;have hcz23_0:w21.cell? ⟨gb279,0,none⟩ = some (.bool false):=(blk_cell BK279.out 0).trans rfl;have hcz23_1:w21.cell? ⟨gb279,1,none⟩ = some (.string (⟨#[]⟩:ByteArray)):=(blk_cell BK279.out 1).trans rfl;have hfz23_0:=blk_frozen BK279.out 0;have hfz23_1:=blk_frozen BK279.out 1;have hcz24_0:w21.cell? ⟨gb280,0,none⟩ = some (.bool false):=(blk_cell BK280.out 0).trans rfl;have hcz24_1:w21.cell? ⟨gb280,1,none⟩ = some (.string (⟨#[]⟩:ByteArray)):=(blk_cell BK280.out 1).trans rfl;have hfz24_0:=blk_frozen BK280.out 0;have hfz24_1:=blk_frozen BK280.out 1))
  go_ret2
  exact ⟨by first|rfl|(simp [errW_none,errW_some]<;>rfl)|(simp [*,errW_none,errW_some]<;>rfl),by repeat (first|(with_reducible first|exact HB.out|apply below_alloc|apply pw_below_drewN|apply below_drew1|refine below_set ?_ GE279.out|refine below_set ?_ GE280.out)|exact HB.out)⟩
end Go.Proofs.YtaknchlegjcdhaaGreatDoor.Pr
namespace Go.Proofs.YtaknchlegjcdhaaGreatDoor.Pr
open Go.RowKit Go.Proofs.YtaknchlegjcdhaaGreatDoorW.PrintWords Go.Proofs.YtaknchlegjcdhaaGreatDoorW.PrintLast Go.Proofs.YtaknchlegjcdhaaGreatDoorW.PrintMore
attribute [local go_sem] max2_int min2_int max_two min_two max_three min_three max_four min_four
set_option linter.unusedVariables false
set_option linter.unusedSimpArgs false
def integer_number_times.f (a0_0:Bool) (a0_1:ByteArray) (a1_0:Bool) (a1_1:ByteArray):Option (Bool × ByteArray):=(natural_Mul.f a0_1 a1_1).bind fun bt289=>((integer_with.f (a0_0 != a1_0) bt289.1).bind fun bt291=>(some (bt291.1,bt291.2)))
set_option maxHeartbeats 8000000 in
set_option maxRecDepth 100000 in
theorem integer_number_times.calls (a0_0:Bool) (a0_1:ByteArray) (a1_0:Bool) (a1_1:ByteArray) (r1:Bool) (r2:ByteArray) (w:World) (hL:LaidW w) (h:integer_number_times.f a0_0 a0_1 a1_0 a1_1 = some (r1,r2)) :
  Calls Tryz.prog 57 #[.agg #[.bool a0_0,.string a0_1],.agg #[.bool a1_0,.string a1_1]] w fun e w'=>e = .returned (.agg #[.bool r1,.string r2])∧Below w.heap.size w w':=by
 have hu43:=Tryz.underlying43
 have HB:=Aside0.mk (Below.refl w.heap.size w)
 have HLW:=Aside0.mk hL
 clear hL
 have H:((natural_Mul.f a0_1 a1_1).bind fun bt289=>((integer_with.f (a0_0 != a1_0) bt289.1).bind fun bt291=>(some (bt291.1,bt291.2)))) = some (r1,r2):=h
 clear h
 replace H:=Option.bind_eq_some_iff.mp H
 obtain ⟨⟨t289,t290⟩,A30,H⟩:=H
 replace H:((integer_with.f (a0_0 != a1_0) t289).bind fun bt291=>(some (bt291.1,bt291.2))) = some (r1,r2):=H
 have A3:=Aside0.mk A30
 clear A30
 replace H:=Option.bind_eq_some_iff.mp H
 obtain ⟨⟨t291,t292⟩,A40,H⟩:=H
 replace H:(some (t291,t292)) = some (r1,r2):=H
 have A4:=Aside0.mk A40
 clear A40
 simp only [Option.some.injEq,Prod.mk.injEq] at H
 obtain ⟨rfl,rfl⟩:=H
 go_enter Tryz.func57,Tryz.ntmps57
 go_wp2_with (first|((with_reducible refine gate_dst (N:=2) rfl ?_);refine box_event ?hg (N:=2) ?hd (cs:=#[.bool a0_0,.string a0_1]) (t:=43) ?hr ?_;(case hd=>rfl);(case hg=>rfl);(case hr=>first|(go_simp;done)|(go_simp;rfl));intro gb286 hg w5 hbox hb;have n0_:=Aside0.mk (below_step (by repeat (first|(with_reducible first|exact HB.out|apply below_alloc|apply pw_below_drewN|apply below_drew1)|exact HB.out)) hb);have n1_:=Aside0.mk (hbox);have n2_:=Aside0.mk ((by rw [hg];exact (below_size (by repeat (first|(with_reducible first|exact HB.out|apply below_alloc|apply pw_below_drewN|apply below_drew1)|exact HB.out))):w.heap.size≤gb286));have n3_:=Aside0.mk ((by rw [hg];exact (below_size (by repeat (first|(with_reducible first|exact HB.out|apply below_alloc|apply pw_below_drewN|apply below_drew1)|exact HB.out))):w.heap.size≤gb286));clear HB;have HB:=n0_;have BK286:=n1_;have GW286:=n2_;have GE286:=n3_;clear n0_ n1_ n2_ n3_;clear hb hbox hg)|((with_reducible refine gate_dst (N:=3) rfl ?_);refine box_event ?hg (N:=3) ?hd (cs:=#[.bool a1_0,.string a1_1]) (t:=43) ?hr ?_;(case hd=>rfl);(case hg=>rfl);(case hr=>first|(go_simp;done)|(go_simp;rfl));intro gb287 hg w6 hbox hb;have n0_:=Aside0.mk (blk_below (g:=gb286) (o:=.cells #[.bool a0_0,.string a0_1] 43 (0,0)) (by (with_reducible repeat (first|refine blk_drewN ?_ _|refine blk_drew ?_|refine blk_alloc ?_ _));exact BK286.out) hb);have n1_:=Aside0.mk (below_step (by repeat (first|(with_reducible first|exact HB.out|apply below_alloc|apply pw_below_drewN|apply below_drew1|refine below_set ?_ GE286.out)|exact HB.out)) hb);have n2_:=Aside0.mk (hbox);have n3_:=Aside0.mk ((by rw [hg];exact (below_size (by repeat (first|(with_reducible first|exact HB.out|apply below_alloc|apply pw_below_drewN|apply below_drew1|refine below_set ?_ GE286.out)|exact HB.out))):w.heap.size≤gb287));have n4_:=Aside0.mk ((by rw [hg];exact (below_size (by repeat (first|(with_reducible first|exact HB.out|apply below_alloc|apply pw_below_drewN|apply below_drew1|refine below_set ?_ GE286.out)|exact HB.out))):w.heap.size≤gb287));have n5_:=Aside0.mk ((by rw [hg];exact Nat.ne_of_lt (blk_lt (g:=gb286) (o:=.cells #[.bool a0_0,.string a0_1] 43 (0,0)) (by (with_reducible repeat (first|refine blk_drewN ?_ _|refine blk_drew ?_|refine blk_alloc ?_ _));exact BK286.out)):gb286≠gb287));have n6_:=Aside0.mk ((by rw [hg];exact Nat.ne_of_gt (blk_lt (g:=gb286) (o:=.cells #[.bool a0_0,.string a0_1] 43 (0,0)) (by (with_reducible repeat (first|refine blk_drewN ?_ _|refine blk_drew ?_|refine blk_alloc ?_ _));exact BK286.out)):gb287≠gb286));clear BK286;clear HB;have BK286:=n0_;have HB:=n1_;have BK287:=n2_;have GW287:=n3_;have GE287:=n4_;have NB286_287:=n5_;have NB287_286:=n6_;clear n0_ n1_ n2_ n3_ n4_ n5_ n6_;clear hb hbox hg)|((with_reducible refine gate_dst (N:=4) rfl ?_);refine box_event ?hg (N:=4) ?hd (cs:=#[.bool false,.string (⟨#[]⟩:ByteArray)]) (t:=43) ?hr ?_;(case hd=>rfl);(case hg=>rfl);(case hr=>first|(go_simp;done)|(go_simp;rfl));intro gb288 hg w7 hbox hb;have n0_:=Aside0.mk (blk_below (g:=gb286) (o:=.cells #[.bool a0_0,.string a0_1] 43 (0,0)) (by (with_reducible repeat (first|refine blk_drewN ?_ _|refine blk_drew ?_|refine blk_alloc ?_ _));exact BK286.out) hb);have n1_:=Aside0.mk (blk_below (g:=gb287) (o:=.cells #[.bool a1_0,.string a1_1] 43 (0,0)) (by (with_reducible repeat (first|refine blk_drewN ?_ _|refine blk_drew ?_|refine blk_alloc ?_ _));exact BK287.out) hb);have n2_:=Aside0.mk (below_step (by repeat (first|(with_reducible first|exact HB.out|apply below_alloc|apply pw_below_drewN|apply below_drew1|refine below_set ?_ GE286.out|refine below_set ?_ GE287.out)|exact HB.out)) hb);have n3_:=Aside0.mk (hbox);have n4_:=Aside0.mk ((by rw [hg];exact (below_size (by repeat (first|(with_reducible first|exact HB.out|apply below_alloc|apply pw_below_drewN|apply below_drew1|refine below_set ?_ GE286.out|refine below_set ?_ GE287.out)|exact HB.out))):w.heap.size≤gb288));have n5_:=Aside0.mk ((by rw [hg];exact (below_size (by repeat (first|(with_reducible first|exact HB.out|apply below_alloc|apply pw_below_drewN|apply below_drew1|refine below_set ?_ GE286.out|refine below_set ?_ GE287.out)|exact HB.out))):w.heap.size≤gb288));have n6_:=Aside0.mk ((by rw [hg];exact Nat.ne_of_lt (blk_lt (g:=gb286) (o:=.cells #[.bool a0_0,.string a0_1] 43 (0,0)) (by (with_reducible repeat (first|refine blk_drewN ?_ _|refine blk_drew ?_|refine blk_alloc ?_ _));exact BK286.out)):gb286≠gb288));have n7_:=Aside0.mk ((by rw [hg];exact Nat.ne_of_gt (blk_lt (g:=gb286) (o:=.cells #[.bool a0_0,.string a0_1] 43 (0,0)) (by (with_reducible repeat (first|refine blk_drewN ?_ _|refine blk_drew ?_|refine blk_alloc ?_ _));exact BK286.out)):gb288≠gb286));have n8_:=Aside0.mk ((by rw [hg];exact Nat.ne_of_lt (blk_lt (g:=gb287) (o:=.cells #[.bool a1_0,.string a1_1] 43 (0,0)) (by (with_reducible repeat (first|refine blk_drewN ?_ _|refine blk_drew ?_|refine blk_alloc ?_ _));exact BK287.out)):gb287≠gb288));have n9_:=Aside0.mk ((by rw [hg];exact Nat.ne_of_gt (blk_lt (g:=gb287) (o:=.cells #[.bool a1_0,.string a1_1] 43 (0,0)) (by (with_reducible repeat (first|refine blk_drewN ?_ _|refine blk_drew ?_|refine blk_alloc ?_ _));exact BK287.out)):gb288≠gb287));clear BK286;clear BK287;clear HB;have BK286:=n0_;have BK287:=n1_;have HB:=n2_;have BK288:=n3_;have GW288:=n4_;have GE288:=n5_;have NB286_288:=n6_;have NB288_286:=n7_;have NB287_288:=n8_;have NB288_287:=n9_;clear n0_ n1_ n2_ n3_ n4_ n5_ n6_ n7_ n8_ n9_;clear hb hbox hg;have hnb8:=NB286_287.out;have hnc8:=NB287_286.out;have hnb9:=NB286_288.out;have hnc9:=NB288_286.out;have hcz10_0:w7.cell? ⟨gb286,0,none⟩ = some (.bool a0_0):=(blk_cell BK286.out 0).trans rfl;have hcz10_1:w7.cell? ⟨gb286,1,none⟩ = some (.string a0_1):=(blk_cell BK286.out 1).trans rfl;have hfz10_0:=blk_frozen BK286.out 0;have hfz10_1:=blk_frozen BK286.out 1;have hnb11:=NB287_288.out;have hnc11:=NB288_287.out;have hcz12_0:w7.cell? ⟨gb287,0,none⟩ = some (.bool a1_0):=(blk_cell BK287.out 0).trans rfl;have hcz12_1:w7.cell? ⟨gb287,1,none⟩ = some (.string a1_1):=(blk_cell BK287.out 1).trans rfl;have hfz12_0:=blk_frozen BK287.out 0;have hfz12_1:=blk_frozen BK287.out 1)|((with_reducible refine gate_callee (f:=82) rfl ?_);refine goesL_ (some 12) rfl rfl Tryz.func82 (by kernel_rfl) rfl #[.string a0_1,.string a1_1] rfl (by (try simp only [List.map_toArray,List.map_cons,List.map_nil]);first|done|rfl|(simp only [List.length_drop,List.length_take];rfl)) ?_;(with_reducible refine (natural_Mul.calls a0_1 a1_1 t289 t290 _ ?side1 A3.out).mono ?_);(case side1=>exact HLW.out.below (by repeat (first|(with_reducible first|exact HB.out|apply below_alloc|apply pw_below_drewN|apply below_drew1|refine below_set ?_ GE286.out|refine below_set ?_ GE287.out|refine below_set ?_ GE288.out)|exact HB.out)));rintro e w13 ⟨rfl,hb⟩;refine ⟨_,rfl,?_⟩;have n0_:=Aside0.mk (blk_below (g:=gb286) (o:=.cells #[.bool a0_0,.string a0_1] 43 (0,0)) (by (with_reducible repeat (first|refine blk_drewN ?_ _|refine blk_drew ?_|refine blk_alloc ?_ _));exact BK286.out) hb);have n1_:=Aside0.mk (blk_below (g:=gb287) (o:=.cells #[.bool a1_0,.string a1_1] 43 (0,0)) (by (with_reducible repeat (first|refine blk_drewN ?_ _|refine blk_drew ?_|refine blk_alloc ?_ _));exact BK287.out) hb);have n2_:=Aside0.mk (blk_below (g:=gb288) (o:=.cells #[.bool false,.string (⟨#[]⟩:ByteArray)] 43 (0,0)) (by (with_reducible repeat (first|refine blk_drewN ?_ _|refine blk_drew ?_|refine blk_alloc ?_ _));exact BK288.out) hb);have n3_:=Aside0.mk (below_step (by repeat (first|(with_reducible first|exact HB.out|apply below_alloc|apply pw_below_drewN|apply below_drew1|refine below_set ?_ GE286.out|refine below_set ?_ GE287.out|refine below_set ?_ GE288.out)|exact HB.out)) hb);clear BK286;clear BK287;clear BK288;clear HB;have BK286:=n0_;have BK287:=n1_;have BK288:=n2_;have HB:=n3_;clear n0_ n1_ n2_ n3_;(try clear hb);(try clear hb2);(try clear hk);(try clear hi);have hcz14_0:w13.cell? ⟨gb286,0,none⟩ = some (.bool a0_0):=(blk_cell BK286.out 0).trans rfl;have hcz14_1:w13.cell? ⟨gb286,1,none⟩ = some (.string a0_1):=(blk_cell BK286.out 1).trans rfl;have hfz14_0:=blk_frozen BK286.out 0;have hfz14_1:=blk_frozen BK286.out 1;have hcz15_0:w13.cell? ⟨gb287,0,none⟩ = some (.bool a1_0):=(blk_cell BK287.out 0).trans rfl;have hcz15_1:w13.cell? ⟨gb287,1,none⟩ = some (.string a1_1):=(blk_cell BK287.out 1).trans rfl;have hfz15_0:=blk_frozen BK287.out 0;have hfz15_1:=blk_frozen BK287.out 1)|((with_reducible refine gate_callee (f:=62) rfl ?_);refine goesL_ (some 21) rfl rfl Tryz.func62 (by kernel_rfl) rfl #[.bool (a0_0 != a1_0),.string t289] rfl (by (try simp only [List.map_toArray,List.map_cons,List.map_nil]);first|done|rfl|(simp only [List.length_drop,List.length_take];rfl)) ?_;(with_reducible refine (integer_with.calls (a0_0 != a1_0) t289 t291 t292 _ A4.out).mono ?_);rintro e w16 ⟨rfl,hb⟩;refine ⟨_,rfl,?_⟩;have n0_:=Aside0.mk (blk_below (g:=gb286) (o:=.cells #[.bool a0_0,.string a0_1] 43 (0,0)) (by (with_reducible repeat (first|refine blk_drewN ?_ _|refine blk_drew ?_|refine blk_alloc ?_ _));exact BK286.out) hb);have n1_:=Aside0.mk (blk_below (g:=gb287) (o:=.cells #[.bool a1_0,.string a1_1] 43 (0,0)) (by (with_reducible repeat (first|refine blk_drewN ?_ _|refine blk_drew ?_|refine blk_alloc ?_ _));exact BK287.out) hb);have n2_:=Aside0.mk (blk_below (g:=gb288) (o:=.cells #[.bool false,.string (⟨#[]⟩:ByteArray)] 43 (0,0)) (by (with_reducible repeat (first|refine blk_drewN ?_ _|refine blk_drew ?_|refine blk_alloc ?_ _));exact BK288.out) hb);have n3_:=Aside0.mk (below_step (by repeat (first|(with_reducible first|exact HB.out|apply below_alloc|apply pw_below_drewN|apply below_drew1|refine below_set ?_ GE286.out|refine below_set ?_ GE287.out|refine below_set ?_ GE288.out)|exact HB.out)) hb);clear BK286;clear BK287;clear BK288;clear HB;have BK286:=n0_;have BK287:=n1_;have BK288:=n2_;have HB:=n3_;clear n0_ n1_ n2_ n3_;(try clear hb);(try clear hb2);(try clear hk);(try clear hi);have hcz17_0:w16.cell? ⟨gb288,0,none⟩ = some (.bool false):=(blk_cell BK288.out 0).trans rfl;have hcz17_1:w16.cell? ⟨gb288,1,none⟩ = some (.string (⟨#[]⟩:ByteArray)):=(blk_cell BK288.out 1).trans rfl;have hfz17_0:=blk_frozen BK288.out 0;have hfz17_1:=blk_frozen BK288.out 1))
 refine bodyPost_ret (results_cell_row rfl _ _ gb288 43 #[.bool t291,.string t292] (0,0) _ rfl (by (with_reducible repeat (first|refine blk_drewN ?_ _|refine blk_drew ?_|refine blk_alloc ?_ _));refine blk_put (cs:=#[.bool t291,.string (⟨#[]⟩:ByteArray)]) ?_ 1 _ rfl;(with_reducible repeat (first|refine blk_drewN ?_ _|refine blk_drew ?_|refine blk_alloc ?_ _));refine blk_put (cs:=#[.bool false,.string (⟨#[]⟩:ByteArray)]) ?_ 0 _ rfl;(with_reducible repeat (first|refine blk_drewN ?_ _|refine blk_drew ?_|refine blk_alloc ?_ _));exact BK288.out) Tryz.underlying43 rfl (by kernel_rfl)) rfl ?_
 exact ⟨by first|rfl|(simp [errW_none,errW_some]<;>rfl)|(simp [*,errW_none,errW_some]<;>rfl),by repeat (first|(with_reducible first|exact HB.out|apply below_alloc|apply pw_below_drewN|apply below_drew1|refine below_set ?_ GE286.out|refine below_set ?_ GE287.out|refine below_set ?_ GE288.out)|exact HB.out)⟩
end Go.Proofs.YtaknchlegjcdhaaGreatDoor.Pr
namespace Go.Proofs.YtaknchlegjcdhaaGreatDoor.Pr
open Go.RowKit Go.Proofs.YtaknchlegjcdhaaGreatDoorW.PrintWords Go.Proofs.YtaknchlegjcdhaaGreatDoorW.PrintLast Go.Proofs.YtaknchlegjcdhaaGreatDoorW.PrintMore
attribute [local go_sem] max2_int min2_int max_two min_two max_three min_three max_four min_four
set_option linter.unusedVariables false
set_option linter.unusedSimpArgs false
def integer_Mul.f (k:Nat) (a0:ByteArray) (a1:ByteArray):Option (ByteArray × Int):=(integer_both.f k a0 a1).bind fun bt293=>(if bt293.2.2.2.2 = 0 then ((integer_number_times.f bt293.1 bt293.2.1 bt293.2.2.1 bt293.2.2.2.1).bind fun bt300=>((integer_number_text.f bt300.1 bt300.2).bind fun t302=>(some (t302,0)))) else (some ((⟨#[]⟩:ByteArray),bt293.2.2.2.2)))
theorem integer_Mul.mono:∀ a0 a1 k,LeO (integer_Mul.f k a0 a1) (integer_Mul.f (k + 1) a0 a1):=by
 intro a0 a1 k
 unfold integer_Mul.f
 repeat' first
   | (with_reducible exact integer_both.mono _ _ _)
   | (with_reducible exact LeO.refl _)
   | (with_reducible exact LeO.none _)
   | (with_reducible refine LeO.ite ?_ ?_)
   | (with_reducible refine LeO.bind ?_ (fun _=>?_))
   | exact integer_both.mono _ _ _
   | exact LeO.none _
   | refine LeO.ite ?_ ?_
   | refine LeO.bind ?_ (fun _=>?_)
set_option maxHeartbeats 8000000 in
set_option maxRecDepth 100000 in
theorem integer_Mul.calls (k:Nat) (a0:ByteArray) (a1:ByteArray) (r1:ByteArray) (r2:Int) (w:World) (hL:LaidW w) (h:integer_Mul.f k a0 a1 = some (r1,r2)) :
  Calls Tryz.prog 28 #[.string a0,.string a1] w fun e w'=>e = .returned (.tuple #[.string r1,.int .i64 r2])∧Below w.heap.size w w':=by
 have hu43:=Tryz.underlying43
 have HB:=Aside0.mk (Below.refl w.heap.size w)
 have HLW:=Aside0.mk hL
 clear hL
 have H:((integer_both.f k a0 a1).bind fun bt293=>(if bt293.2.2.2.2 = 0 then ((integer_number_times.f bt293.1 bt293.2.1 bt293.2.2.1 bt293.2.2.2.1).bind fun bt300=>((integer_number_text.f bt300.1 bt300.2).bind fun t302=>(some (t302,0)))) else (some ((⟨#[]⟩:ByteArray),bt293.2.2.2.2)))) = some (r1,r2):=h
 clear h
 replace H:=Option.bind_eq_some_iff.mp H
 obtain ⟨⟨t293,t294,t295,t296,t297⟩,A30,H⟩:=H
 replace H:(if t297 = 0 then ((integer_number_times.f t293 t294 t295 t296).bind fun bt300=>((integer_number_text.f bt300.1 bt300.2).bind fun t302=>(some (t302,0)))) else (some ((⟨#[]⟩:ByteArray),t297))) = some (r1,r2):=H
 have A3:=Aside0.mk A30
 clear A30
 by_cases c4:t297 = 0
 ·rw [if_pos c4] at H
  have c4b0:(t297 == 0) = true:=beq_iff_eq.mpr c4
  have c4b1:(t297 != 0) = false:=bne_eq_false_iff_eq.mpr c4
  clear c4
  replace H:=Option.bind_eq_some_iff.mp H
  obtain ⟨⟨t300,t301⟩,A50,H⟩:=H
  replace H:((integer_number_text.f t300 t301).bind fun t302=>(some (t302,0))) = some (r1,r2):=H
  have A5:=Aside0.mk A50
  clear A50
  replace H:=Option.bind_eq_some_iff.mp H
  obtain ⟨t302,A60,H⟩:=H
  replace H:(some (t302,0)) = some (r1,r2):=H
  have A6:=Aside0.mk A60
  clear A60
  simp only [Option.some.injEq,Prod.mk.injEq] at H
  obtain ⟨rfl,rfl⟩:=H
  go_enter Tryz.func28,Tryz.ntmps28
  go_wp2_with (first|((with_reducible refine gate_callee (f:=51) rfl ?_);refine goesL_ (some 12) rfl rfl Tryz.func51 (by kernel_rfl) rfl #[.string a0,.string a1] rfl (by (try simp only [List.map_toArray,List.map_cons,List.map_nil]);first|done|rfl|(simp only [List.length_drop,List.length_take];rfl)) ?_;(with_reducible refine (integer_both.calls k a0 a1 t293 t294 t295 t296 t297 _ A3.out).mono ?_);rintro e w7 ⟨rfl,hb⟩;refine ⟨_,rfl,?_⟩;have n0_:=Aside0.mk (below_step (by repeat (first|(with_reducible first|exact HB.out|apply below_alloc|apply pw_below_drewN|apply below_drew1)|exact HB.out)) hb);clear HB;have HB:=n0_;clear n0_;(try clear hb);(try clear hb2);(try clear hk);(try clear hi))|((with_reducible refine gate_dst (N:=6) rfl ?_);refine box_event ?hg (N:=6) ?hd (cs:=#[.bool false,.string (⟨#[]⟩:ByteArray)]) (t:=43) ?hr ?_;(case hd=>rfl);(case hg=>rfl);(case hr=>first|(go_simp;done)|(go_simp;rfl));intro gb298 hg w8 hbox hb;have n0_:=Aside0.mk (below_step (by repeat (first|(with_reducible first|exact HB.out|apply below_alloc|apply pw_below_drewN|apply below_drew1)|exact HB.out)) hb);have n1_:=Aside0.mk (hbox);have n2_:=Aside0.mk ((by rw [hg];exact (below_size (by repeat (first|(with_reducible first|exact HB.out|apply below_alloc|apply pw_below_drewN|apply below_drew1)|exact HB.out))):w.heap.size≤gb298));have n3_:=Aside0.mk ((by rw [hg];exact (below_size (by repeat (first|(with_reducible first|exact HB.out|apply below_alloc|apply pw_below_drewN|apply below_drew1)|exact HB.out))):w.heap.size≤gb298));clear HB;have HB:=n0_;have BK298:=n1_;have GW298:=n2_;have GE298:=n3_;clear n0_ n1_ n2_ n3_;clear hb hbox hg)|((with_reducible refine gate_dst (N:=7) rfl ?_);refine box_event ?hg (N:=7) ?hd (cs:=#[.bool false,.string (⟨#[]⟩:ByteArray)]) (t:=43) ?hr ?_;(case hd=>rfl);(case hg=>rfl);(case hr=>first|(go_simp;done)|(go_simp;rfl));intro gb299 hg w9 hbox hb;have n0_:=Aside0.mk (blk_below (g:=gb298) (o:=.cells #[.bool false,.string (⟨#[]⟩:ByteArray)] 43 (0,0)) (by (with_reducible repeat (first|refine blk_drewN ?_ _|refine blk_drew ?_|refine blk_alloc ?_ _));exact BK298.out) hb);have n1_:=Aside0.mk (below_step (by repeat (first|(with_reducible first|exact HB.out|apply below_alloc|apply pw_below_drewN|apply below_drew1|refine below_set ?_ GE298.out)|exact HB.out)) hb);have n2_:=Aside0.mk (hbox);have n3_:=Aside0.mk ((by rw [hg];exact (below_size (by repeat (first|(with_reducible first|exact HB.out|apply below_alloc|apply pw_below_drewN|apply below_drew1|refine below_set ?_ GE298.out)|exact HB.out))):w.heap.size≤gb299));have n4_:=Aside0.mk ((by rw [hg];exact (below_size (by repeat (first|(with_reducible first|exact HB.out|apply below_alloc|apply pw_below_drewN|apply below_drew1|refine below_set ?_ GE298.out)|exact HB.out))):w.heap.size≤gb299));have n5_:=Aside0.mk ((by rw [hg];exact Nat.ne_of_lt (blk_lt (g:=gb298) (o:=.cells #[.bool false,.string (⟨#[]⟩:ByteArray)] 43 (0,0)) (by (with_reducible repeat (first|refine blk_drewN ?_ _|refine blk_drew ?_|refine blk_alloc ?_ _));exact BK298.out)):gb298≠gb299));have n6_:=Aside0.mk ((by rw [hg];exact Nat.ne_of_gt (blk_lt (g:=gb298) (o:=.cells #[.bool false,.string (⟨#[]⟩:ByteArray)] 43 (0,0)) (by (with_reducible repeat (first|refine blk_drewN ?_ _|refine blk_drew ?_|refine blk_alloc ?_ _));exact BK298.out)):gb299≠gb298));clear BK298;clear HB;have BK298:=n0_;have HB:=n1_;have BK299:=n2_;have GW299:=n3_;have GE299:=n4_;have NB298_299:=n5_;have NB299_298:=n6_;clear n0_ n1_ n2_ n3_ n4_ n5_ n6_;clear hb hbox hg;have hnb10:=NB298_299.out;have hnc10:=NB299_298.out;have hcz11_0:w9.cell? ⟨gb298,0,none⟩ = some (.bool false):=(blk_cell BK298.out 0).trans rfl;have hcz11_1:w9.cell? ⟨gb298,1,none⟩ = some (.string (⟨#[]⟩:ByteArray)):=(blk_cell BK298.out 1).trans rfl;have hfz11_0:=blk_frozen BK298.out 0;have hfz11_1:=blk_frozen BK298.out 1;have hcz12_0:w9.cell? ⟨gb299,0,none⟩ = some (.bool false):=(blk_cell BK299.out 0).trans rfl;have hcz12_1:w9.cell? ⟨gb299,1,none⟩ = some (.string (⟨#[]⟩:ByteArray)):=(blk_cell BK299.out 1).trans rfl;have hfz12_0:=blk_frozen BK299.out 0;have hfz12_1:=blk_frozen BK299.out 1)|((with_reducible refine gate_callee (f:=57) rfl ?_);refine goesL_ (some 21) rfl rfl Tryz.func57 (by kernel_rfl) rfl #[.agg #[.bool t293,.string t294],.agg #[.bool t295,.string t296]] rfl (by (try simp only [List.map_toArray,List.map_cons,List.map_nil]);first|done|rfl|(simp only [List.length_drop,List.length_take];rfl)) ?_;(with_reducible refine (integer_number_times.calls t293 t294 t295 t296 t300 t301 _ ?side1 A5.out).mono ?_);(case side1=>exact HLW.out.below (by repeat (first|(with_reducible first|exact HB.out|apply below_alloc|apply pw_below_drewN|apply below_drew1|refine below_set ?_ GE298.out|refine below_set ?_ GE299.out)|exact HB.out)));rintro e w13 ⟨rfl,hb⟩;refine ⟨_,rfl,?_⟩;have n0_:=Aside0.mk (blk_below (g:=gb298) (o:=.cells #[.bool t293,.string t294] 43 (0,0)) (by (with_reducible repeat (first|refine blk_drewN ?_ _|refine blk_drew ?_|refine blk_alloc ?_ _));refine blk_far ?_ NB298_299.out _;(with_reducible repeat (first|refine blk_drewN ?_ _|refine blk_drew ?_|refine blk_alloc ?_ _));refine blk_far ?_ NB298_299.out _;(with_reducible repeat (first|refine blk_drewN ?_ _|refine blk_drew ?_|refine blk_alloc ?_ _));refine blk_put (cs:=#[.bool t293,.string (⟨#[]⟩:ByteArray)]) ?_ 1 _ rfl;(with_reducible repeat (first|refine blk_drewN ?_ _|refine blk_drew ?_|refine blk_alloc ?_ _));refine blk_put (cs:=#[.bool false,.string (⟨#[]⟩:ByteArray)]) ?_ 0 _ rfl;(with_reducible repeat (first|refine blk_drewN ?_ _|refine blk_drew ?_|refine blk_alloc ?_ _));exact BK298.out) hb);have n1_:=Aside0.mk (blk_below (g:=gb299) (o:=.cells #[.bool t295,.string t296] 43 (0,0)) (by (with_reducible repeat (first|refine blk_drewN ?_ _|refine blk_drew ?_|refine blk_alloc ?_ _));refine blk_put (cs:=#[.bool t295,.string (⟨#[]⟩:ByteArray)]) ?_ 1 _ rfl;(with_reducible repeat (first|refine blk_drewN ?_ _|refine blk_drew ?_|refine blk_alloc ?_ _));refine blk_put (cs:=#[.bool false,.string (⟨#[]⟩:ByteArray)]) ?_ 0 _ rfl;(with_reducible repeat (first|refine blk_drewN ?_ _|refine blk_drew ?_|refine blk_alloc ?_ _));refine blk_far ?_ NB299_298.out _;(with_reducible repeat (first|refine blk_drewN ?_ _|refine blk_drew ?_|refine blk_alloc ?_ _));refine blk_far ?_ NB299_298.out _;(with_reducible repeat (first|refine blk_drewN ?_ _|refine blk_drew ?_|refine blk_alloc ?_ _));exact BK299.out) hb);have n2_:=Aside0.mk (below_step (by repeat (first|(with_reducible first|exact HB.out|apply below_alloc|apply pw_below_drewN|apply below_drew1|refine below_set ?_ GE298.out|refine below_set ?_ GE299.out)|exact HB.out)) hb);clear BK298;clear BK299;clear HB;have BK298:=n0_;have BK299:=n1_;have HB:=n2_;clear n0_ n1_ n2_;(try clear hb);(try clear hb2);(try clear hk);(try clear hi))|((with_reducible refine gate_callee (f:=46) rfl ?_);refine goesL_ (some 22) rfl rfl Tryz.func46 (by kernel_rfl) rfl #[.agg #[.bool t300,.string t301]] rfl (by (try simp only [List.map_toArray,List.map_cons,List.map_nil]);first|done|rfl|(simp only [List.length_drop,List.length_take];rfl)) ?_;(with_reducible refine (integer_number_text.calls t300 t301 t302 _ A6.out).mono ?_);rintro e w14 ⟨rfl,hb⟩;refine ⟨_,rfl,?_⟩;have n0_:=Aside0.mk (blk_below (g:=gb298) (o:=.cells #[.bool t293,.string t294] 43 (0,0)) (by (with_reducible repeat (first|refine blk_drewN ?_ _|refine blk_drew ?_|refine blk_alloc ?_ _));exact BK298.out) hb);have n1_:=Aside0.mk (blk_below (g:=gb299) (o:=.cells #[.bool t295,.string t296] 43 (0,0)) (by (with_reducible repeat (first|refine blk_drewN ?_ _|refine blk_drew ?_|refine blk_alloc ?_ _));exact BK299.out) hb);have n2_:=Aside0.mk (below_step (by repeat (first|(with_reducible first|exact HB.out|apply below_alloc|apply pw_below_drewN|apply below_drew1|refine below_set ?_ GE298.out|refine below_set ?_ GE299.out)|exact HB.out)) hb);clear BK298;clear BK299;clear HB;have BK298:=n0_;have BK299:=n1_;have HB:=n2_;clear n0_ n1_ n2_;(try clear hb);(try clear hb2);(try clear hk);(try clear hi)))
  go_ret2
  exact ⟨by first|rfl|(simp [errW_none,errW_some]<;>rfl)|(simp [*,errW_none,errW_some]<;>rfl),by repeat (first|(with_reducible first|exact HB.out|apply below_alloc|apply pw_below_drewN|apply below_drew1|refine below_set ?_ GE298.out|refine below_set ?_ GE299.out)|exact HB.out)⟩
 ·rw [if_neg c4] at H
  have c4b0:(t297 == 0) = false:=beq_eq_false_iff_ne.mpr c4
  have c4b1:(t297 != 0) = true:=bne_iff_ne.mpr c4
  simp only [Option.some.injEq,Prod.mk.injEq] at H
  obtain ⟨rfl,rfl⟩:=H
  go_enter Tryz.func28,Tryz.ntmps28
  go_wp2_with (first|((with_reducible refine gate_callee (f:=51) rfl ?_);refine goesL_ (some 12) rfl rfl Tryz.func51 (by kernel_rfl) rfl #[.string a0,.string a1] rfl (by (try simp only [List.map_toArray,List.map_cons,List.map_nil]);first|done|rfl|(simp only [List.length_drop,List.length_take];rfl)) ?_;(with_reducible refine (integer_both.calls k a0 a1 t293 t294 t295 t296 t297 _ A3.out).mono ?_);rintro e w15 ⟨rfl,hb⟩;refine ⟨_,rfl,?_⟩;have n0_:=Aside0.mk (below_step (by repeat (first|(with_reducible first|exact HB.out|apply below_alloc|apply pw_below_drewN|apply below_drew1)|exact HB.out)) hb);clear HB;have HB:=n0_;clear n0_;(try clear hb);(try clear hb2);(try clear hk);(try clear hi))|((with_reducible refine gate_dst (N:=6) rfl ?_);refine box_event ?hg (N:=6) ?hd (cs:=#[.bool false,.string (⟨#[]⟩:ByteArray)]) (t:=43) ?hr ?_;(case hd=>rfl);(case hg=>rfl);(case hr=>first|(go_simp;done)|(go_simp;rfl));intro gb298 hg w16 hbox hb;have n0_:=Aside0.mk (below_step (by repeat (first|(with_reducible first|exact HB.out|apply below_alloc|apply pw_below_drewN|apply below_drew1)|exact HB.out)) hb);have n1_:=Aside0.mk (hbox);have n2_:=Aside0.mk ((by rw [hg];exact (below_size (by repeat (first|(with_reducible first|exact HB.out|apply below_alloc|apply pw_below_drewN|apply below_drew1)|exact HB.out))):w.heap.size≤gb298));have n3_:=Aside0.mk ((by rw [hg];exact (below_size (by repeat (first|(with_reducible first|exact HB.out|apply below_alloc|apply pw_below_drewN|apply below_drew1)|exact HB.out))):w.heap.size≤gb298));clear HB;have HB:=n0_;have BK298:=n1_;have GW298:=n2_;have GE298:=n3_;clear n0_ n1_ n2_ n3_;clear hb hbox hg)|((with_reducible refine gate_dst (N:=7) rfl ?_);refine box_event ?hg (N:=7) ?hd (cs:=#[.bool false,.string (⟨#[]⟩:ByteArray)]) (t:=43) ?hr ?_;(case hd=>rfl);(case hg=>rfl);(case hr=>first|(go_simp;done)|(go_simp;rfl));intro gb299 hg w17 hbox hb;have n0_:=Aside0.mk (blk_below (g:=gb298) (o:=.cells #[.bool false,.string (⟨#[]⟩:ByteArray)] 43 (0,0)) (by (with_reducible repeat (first|refine blk_drewN ?_ _|refine blk_drew ?_|refine blk_alloc ?_ _));exact BK298.out) hb);have n1_:=Aside0.mk (below_step (by repeat (first|(with_reducible first|exact HB.out|apply below_alloc|apply pw_below_drewN|apply below_drew1|refine below_set ?_ GE298.out)|exact HB.out)) hb);have n2_:=Aside0.mk (hbox);have n3_:=Aside0.mk ((by rw [hg];exact (below_size (by repeat (first|(with_reducible first|exact HB.out|apply below_alloc|apply pw_below_drewN|apply below_drew1|refine below_set ?_ GE298.out)|exact HB.out))):w.heap.size≤gb299));have n4_:=Aside0.mk ((by rw [hg];exact (below_size (by repeat (first|(with_reducible first|exact HB.out|apply below_alloc|apply pw_below_drewN|apply below_drew1|refine below_set ?_ GE298.out)|exact HB.out))):w.heap.size≤gb299));have n5_:=Aside0.mk ((by rw [hg];exact Nat.ne_of_lt (blk_lt (g:=gb298) (o:=.cells #[.bool false,.string (⟨#[]⟩:ByteArray)] 43 (0,0)) (by (with_reducible repeat (first|refine blk_drewN ?_ _|refine blk_drew ?_|refine blk_alloc ?_ _));exact BK298.out)):gb298≠gb299));have n6_:=Aside0.mk ((by rw [hg];exact Nat.ne_of_gt (blk_lt (g:=gb298) (o:=.cells #[.bool false,.string (⟨#[]⟩:ByteArray)] 43 (0,0)) (by (with_reducible repeat (first|refine blk_drewN ?_ _|refine blk_drew ?_|refine blk_alloc ?_ _));exact BK298.out)):gb299≠gb298));clear BK298;clear HB;have BK298:=n0_;have HB:=n1_;have BK299:=n2_;have GW299:=n3_;have GE299:=n4_;have NB298_299:=n5_;have NB299_298:=n6_;clear n0_ n1_ n2_ n3_ n4_ n5_ n6_;clear hb hbox hg;have hnb18:=NB298_299.out;have hnc18:=NB299_298.out;have hcz19_0:w17.cell? ⟨gb298,0,none⟩ = some (.bool false):=(blk_cell BK298.out 0).trans rfl;have hcz19_1:w17.cell? ⟨gb298,1,none⟩ = some (.string (⟨#[]⟩:ByteArray)):=(blk_cell BK298.out 1).trans rfl;have hfz19_0:=blk_frozen BK298.out 0;have hfz19_1:=blk_frozen BK298.out 1;have hcz20_0:w17.cell? ⟨gb299,0,none⟩ = some (.bool false):=(blk_cell BK299.out 0).trans rfl;have hcz20_1:w17.cell? ⟨gb299,1,none⟩ = some (.string (⟨#[]⟩:ByteArray)):=(blk_cell BK299.out 1).trans rfl;have hfz20_0:=blk_frozen BK299.out 0;have hfz20_1:=blk_frozen BK299.out 1))
  go_ret2
  exact ⟨by first|rfl|(simp [errW_none,errW_some]<;>rfl)|(simp [*,errW_none,errW_some]<;>rfl),by repeat (first|(with_reducible first|exact HB.out|apply below_alloc|apply pw_below_drewN|apply below_drew1|refine below_set ?_ GE298.out|refine below_set ?_ GE299.out)|exact HB.out)⟩
end Go.Proofs.YtaknchlegjcdhaaGreatDoor.Pr
namespace Go.Proofs.YtaknchlegjcdhaaGreatDoor.Pr
open Go.RowKit Go.Proofs.YtaknchlegjcdhaaGreatDoorW.PrintWords Go.Proofs.YtaknchlegjcdhaaGreatDoorW.PrintLast Go.Proofs.YtaknchlegjcdhaaGreatDoorW.PrintMore
attribute [local go_sem] max2_int min2_int max_two min_two max_three min_three max_four min_four
set_option linter.unusedVariables false
set_option linter.unusedSimpArgs false
def integer_number_divide.j0:Nat→ByteArray→ByteArray→Bool→Bool→ByteArray→Bool→ByteArray→Option (Bool × ByteArray × Bool × ByteArray)
 | 0,_,_,_,_,_,_,_=>none
 | k + 1,x6,x7,x23,x350000,x350001,x351000,x351001=>if x23 = true then ((natural_Add.f x6 (⟨#[49]⟩:ByteArray)).bind fun bt356=>((natural_Sub.f x351001 x7).bind fun bt358=>((integer_with.f (x350000 != x351000) bt356.1).bind fun bt360=>((integer_with.f false bt358.1).bind fun bt362=>(some (bt360.1,bt360.2,bt362.1,bt362.2)))))) else ((integer_with.f (x350000 != x351000) x6).bind fun bt364=>((integer_with.f false x7).bind fun bt366=>(some (bt364.1,bt364.2,bt366.1,bt366.2))))
def integer_number_divide.f (k:Nat) (a0_0:Bool) (a0_1:ByteArray) (a1_0:Bool) (a1_1:ByteArray):Option (Bool × ByteArray × Bool × ByteArray):=(natural_DivMod.f k a0_1 a1_1).bind fun bt353=>(if a0_0 = true then (integer_number_divide.j0 k bt353.1 bt353.2.1 (bt353.2.1.toList != ([48]:List UInt8)) a0_0 a0_1 a1_0 a1_1) else (integer_number_divide.j0 k bt353.1 bt353.2.1 false a0_0 a0_1 a1_0 a1_1))
theorem integer_number_divide.mono_l:∀ k,(∀ y0 y1 y2 y3 y4 y5 y6,LeO (integer_number_divide.j0 k y0 y1 y2 y3 y4 y5 y6) (integer_number_divide.j0 (k + 1) y0 y1 y2 y3 y4 y5 y6))
 | 0=>fun _ _ _ _ _ _ _ r h=>by simp [integer_number_divide.j0] at h
 | k + 1=>by
  have ih0:=integer_number_divide.mono_l k
  ·intro y0 y1 y2 y3 y4 y5 y6
   unfold integer_number_divide.j0
   repeat' first
   | (with_reducible exact ih0 _ _ _ _ _ _ _)
   | (with_reducible exact natural_DivMod.mono _ _ _)
   | (with_reducible exact LeO.refl _)
   | (with_reducible exact LeO.none _)
   | (with_reducible refine LeO.ite ?_ ?_)
   | (with_reducible refine LeO.bind ?_ (fun _=>?_))
   | exact ih0 _ _ _ _ _ _ _
   | exact natural_DivMod.mono _ _ _
   | exact LeO.none _
   | refine LeO.ite ?_ ?_
   | refine LeO.bind ?_ (fun _=>?_)
theorem integer_number_divide.mono:∀ a0 a1 a2 a3 k,LeO (integer_number_divide.f k a0 a1 a2 a3) (integer_number_divide.f (k + 1) a0 a1 a2 a3):=by
 intro a0 a1 a2 a3 k
 have ih0:=integer_number_divide.mono_l k
 unfold integer_number_divide.f
 repeat' first
   | (with_reducible exact ih0 _ _ _ _ _ _ _)
   | (with_reducible exact natural_DivMod.mono _ _ _)
   | (with_reducible exact LeO.refl _)
   | (with_reducible exact LeO.none _)
   | (with_reducible refine LeO.ite ?_ ?_)
   | (with_reducible refine LeO.bind ?_ (fun _=>?_))
   | exact ih0 _ _ _ _ _ _ _
   | exact natural_DivMod.mono _ _ _
   | exact LeO.none _
   | refine LeO.ite ?_ ?_
   | refine LeO.bind ?_ (fun _=>?_)
set_option maxHeartbeats 8000000 in
set_option maxRecDepth 100000 in
theorem integer_number_divide.calls (k:Nat) (a0_0:Bool) (a0_1:ByteArray) (a1_0:Bool) (a1_1:ByteArray) (r1:Bool) (r2:ByteArray) (r3:Bool) (r4:ByteArray) (w:World) (hL:LaidW w) (h:integer_number_divide.f k a0_0 a0_1 a1_0 a1_1 = some (r1,r2,r3,r4)) :
  Calls Tryz.prog 60 #[.agg #[.bool a0_0,.string a0_1],.agg #[.bool a1_0,.string a1_1]] w fun e w'=>e = .returned (.tuple #[.agg #[.bool r1,.string r2],.agg #[.bool r3,.string r4]])∧Below w.heap.size w w':=by
 have hu43:=Tryz.underlying43
 have HB:=Aside0.mk (Below.refl w.heap.size w)
 have HLW:=Aside0.mk hL
 clear hL
 have H:((natural_DivMod.f k a0_1 a1_1).bind fun bt353=>(if a0_0 = true then (integer_number_divide.j0 k bt353.1 bt353.2.1 (bt353.2.1.toList != ([48]:List UInt8)) a0_0 a0_1 a1_0 a1_1) else (integer_number_divide.j0 k bt353.1 bt353.2.1 false a0_0 a0_1 a1_0 a1_1))) = some (r1,r2,r3,r4):=h
 clear h
 replace H:=Option.bind_eq_some_iff.mp H
 obtain ⟨⟨t353,t354,t355⟩,A30,H⟩:=H
 replace H:(if a0_0 = true then (integer_number_divide.j0 k t353 t354 (t354.toList != ([48]:List UInt8)) a0_0 a0_1 a1_0 a1_1) else (integer_number_divide.j0 k t353 t354 false a0_0 a0_1 a1_0 a1_1)) = some (r1,r2,r3,r4):=H
 have A3:=Aside0.mk A30
 clear A30
 have HC4:=Aside0.mk H
 clear H
 go_enter Tryz.func60,Tryz.ntmps60
 go_upto_region 2 with (first|((with_reducible refine gate_dst (N:=2) rfl ?_);refine box_event ?hg (N:=2) ?hd (cs:=#[.bool a0_0,.string a0_1]) (t:=43) ?hr ?_;(case hd=>rfl);(case hg=>rfl);(case hr=>first|(go_simp;done)|(go_simp;rfl));intro gb349 hg w5 hbox hb;have n0_:=Aside0.mk (below_step (by repeat (first|(with_reducible first|exact HB.out|apply below_alloc|apply pw_below_drewN|apply below_drew1)|exact HB.out)) hb);have n1_:=Aside0.mk (hbox);have n2_:=Aside0.mk ((by rw [hg];exact (below_size (by repeat (first|(with_reducible first|exact HB.out|apply below_alloc|apply pw_below_drewN|apply below_drew1)|exact HB.out))):w.heap.size≤gb349));have n3_:=Aside0.mk ((by rw [hg];exact (below_size (by repeat (first|(with_reducible first|exact HB.out|apply below_alloc|apply pw_below_drewN|apply below_drew1)|exact HB.out))):w.heap.size≤gb349));clear HB;have HB:=n0_;have BK349:=n1_;have GW349:=n2_;have GE349:=n3_;clear n0_ n1_ n2_ n3_;clear hb hbox hg)|((with_reducible refine gate_dst (N:=3) rfl ?_);refine box_event ?hg (N:=3) ?hd (cs:=#[.bool a1_0,.string a1_1]) (t:=43) ?hr ?_;(case hd=>rfl);(case hg=>rfl);(case hr=>first|(go_simp;done)|(go_simp;rfl));intro gb350 hg w6 hbox hb;have n0_:=Aside0.mk (blk_below (g:=gb349) (o:=.cells #[.bool a0_0,.string a0_1] 43 (0,0)) (by (with_reducible repeat (first|refine blk_drewN ?_ _|refine blk_drew ?_|refine blk_alloc ?_ _));exact BK349.out) hb);have n1_:=Aside0.mk (below_step (by repeat (first|(with_reducible first|exact HB.out|apply below_alloc|apply pw_below_drewN|apply below_drew1|refine below_set ?_ GE349.out)|exact HB.out)) hb);have n2_:=Aside0.mk (hbox);have n3_:=Aside0.mk ((by rw [hg];exact (below_size (by repeat (first|(with_reducible first|exact HB.out|apply below_alloc|apply pw_below_drewN|apply below_drew1|refine below_set ?_ GE349.out)|exact HB.out))):w.heap.size≤gb350));have n4_:=Aside0.mk ((by rw [hg];exact (below_size (by repeat (first|(with_reducible first|exact HB.out|apply below_alloc|apply pw_below_drewN|apply below_drew1|refine below_set ?_ GE349.out)|exact HB.out))):w.heap.size≤gb350));have n5_:=Aside0.mk ((by rw [hg];exact Nat.ne_of_lt (blk_lt (g:=gb349) (o:=.cells #[.bool a0_0,.string a0_1] 43 (0,0)) (by (with_reducible repeat (first|refine blk_drewN ?_ _|refine blk_drew ?_|refine blk_alloc ?_ _));exact BK349.out)):gb349≠gb350));have n6_:=Aside0.mk ((by rw [hg];exact Nat.ne_of_gt (blk_lt (g:=gb349) (o:=.cells #[.bool a0_0,.string a0_1] 43 (0,0)) (by (with_reducible repeat (first|refine blk_drewN ?_ _|refine blk_drew ?_|refine blk_alloc ?_ _));exact BK349.out)):gb350≠gb349));clear BK349;clear HB;have BK349:=n0_;have HB:=n1_;have BK350:=n2_;have GW350:=n3_;have GE350:=n4_;have NB349_350:=n5_;have NB350_349:=n6_;clear n0_ n1_ n2_ n3_ n4_ n5_ n6_;clear hb hbox hg)|((with_reducible refine gate_dst (N:=4) rfl ?_);refine box_event ?hg (N:=4) ?hd (cs:=#[.bool false,.string (⟨#[]⟩:ByteArray)]) (t:=43) ?hr ?_;(case hd=>rfl);(case hg=>rfl);(case hr=>first|(go_simp;done)|(go_simp;rfl));intro gb351 hg w7 hbox hb;have n0_:=Aside0.mk (blk_below (g:=gb349) (o:=.cells #[.bool a0_0,.string a0_1] 43 (0,0)) (by (with_reducible repeat (first|refine blk_drewN ?_ _|refine blk_drew ?_|refine blk_alloc ?_ _));exact BK349.out) hb);have n1_:=Aside0.mk (blk_below (g:=gb350) (o:=.cells #[.bool a1_0,.string a1_1] 43 (0,0)) (by (with_reducible repeat (first|refine blk_drewN ?_ _|refine blk_drew ?_|refine blk_alloc ?_ _));exact BK350.out) hb);have n2_:=Aside0.mk (below_step (by repeat (first|(with_reducible first|exact HB.out|apply below_alloc|apply pw_below_drewN|apply below_drew1|refine below_set ?_ GE349.out|refine below_set ?_ GE350.out)|exact HB.out)) hb);have n3_:=Aside0.mk (hbox);have n4_:=Aside0.mk ((by rw [hg];exact (below_size (by repeat (first|(with_reducible first|exact HB.out|apply below_alloc|apply pw_below_drewN|apply below_drew1|refine below_set ?_ GE349.out|refine below_set ?_ GE350.out)|exact HB.out))):w.heap.size≤gb351));have n5_:=Aside0.mk ((by rw [hg];exact (below_size (by repeat (first|(with_reducible first|exact HB.out|apply below_alloc|apply pw_below_drewN|apply below_drew1|refine below_set ?_ GE349.out|refine below_set ?_ GE350.out)|exact HB.out))):w.heap.size≤gb351));have n6_:=Aside0.mk ((by rw [hg];exact Nat.ne_of_lt (blk_lt (g:=gb349) (o:=.cells #[.bool a0_0,.string a0_1] 43 (0,0)) (by (with_reducible repeat (first|refine blk_drewN ?_ _|refine blk_drew ?_|refine blk_alloc ?_ _));exact BK349.out)):gb349≠gb351));have n7_:=Aside0.mk ((by rw [hg];exact Nat.ne_of_gt (blk_lt (g:=gb349) (o:=.cells #[.bool a0_0,.string a0_1] 43 (0,0)) (by (with_reducible repeat (first|refine blk_drewN ?_ _|refine blk_drew ?_|refine blk_alloc ?_ _));exact BK349.out)):gb351≠gb349));have n8_:=Aside0.mk ((by rw [hg];exact Nat.ne_of_lt (blk_lt (g:=gb350) (o:=.cells #[.bool a1_0,.string a1_1] 43 (0,0)) (by (with_reducible repeat (first|refine blk_drewN ?_ _|refine blk_drew ?_|refine blk_alloc ?_ _));exact BK350.out)):gb350≠gb351));have n9_:=Aside0.mk ((by rw [hg];exact Nat.ne_of_gt (blk_lt (g:=gb350) (o:=.cells #[.bool a1_0,.string a1_1] 43 (0,0)) (by (with_reducible repeat (first|refine blk_drewN ?_ _|refine blk_drew ?_|refine blk_alloc ?_ _));exact BK350.out)):gb351≠gb350));clear BK349;clear BK350;clear HB;have BK349:=n0_;have BK350:=n1_;have HB:=n2_;have BK351:=n3_;have GW351:=n4_;have GE351:=n5_;have NB349_351:=n6_;have NB351_349:=n7_;have NB350_351:=n8_;have NB351_350:=n9_;clear n0_ n1_ n2_ n3_ n4_ n5_ n6_ n7_ n8_ n9_;clear hb hbox hg)|((with_reducible refine gate_dst (N:=5) rfl ?_);refine box_event ?hg (N:=5) ?hd (cs:=#[.bool false,.string (⟨#[]⟩:ByteArray)]) (t:=43) ?hr ?_;(case hd=>rfl);(case hg=>rfl);(case hr=>first|(go_simp;done)|(go_simp;rfl));intro gb352 hg w8 hbox hb;have n0_:=Aside0.mk (blk_below (g:=gb349) (o:=.cells #[.bool a0_0,.string a0_1] 43 (0,0)) (by (with_reducible repeat (first|refine blk_drewN ?_ _|refine blk_drew ?_|refine blk_alloc ?_ _));exact BK349.out) hb);have n1_:=Aside0.mk (blk_below (g:=gb350) (o:=.cells #[.bool a1_0,.string a1_1] 43 (0,0)) (by (with_reducible repeat (first|refine blk_drewN ?_ _|refine blk_drew ?_|refine blk_alloc ?_ _));exact BK350.out) hb);have n2_:=Aside0.mk (blk_below (g:=gb351) (o:=.cells #[.bool false,.string (⟨#[]⟩:ByteArray)] 43 (0,0)) (by (with_reducible repeat (first|refine blk_drewN ?_ _|refine blk_drew ?_|refine blk_alloc ?_ _));exact BK351.out) hb);have n3_:=Aside0.mk (below_step (by repeat (first|(with_reducible first|exact HB.out|apply below_alloc|apply pw_below_drewN|apply below_drew1|refine below_set ?_ GE349.out|refine below_set ?_ GE350.out|refine below_set ?_ GE351.out)|exact HB.out)) hb);have n4_:=Aside0.mk (hbox);have n5_:=Aside0.mk ((by rw [hg];exact (below_size (by repeat (first|(with_reducible first|exact HB.out|apply below_alloc|apply pw_below_drewN|apply below_drew1|refine below_set ?_ GE349.out|refine below_set ?_ GE350.out|refine below_set ?_ GE351.out)|exact HB.out))):w.heap.size≤gb352));have n6_:=Aside0.mk ((by rw [hg];exact (below_size (by repeat (first|(with_reducible first|exact HB.out|apply below_alloc|apply pw_below_drewN|apply below_drew1|refine below_set ?_ GE349.out|refine below_set ?_ GE350.out|refine below_set ?_ GE351.out)|exact HB.out))):w.heap.size≤gb352));have n7_:=Aside0.mk ((by rw [hg];exact Nat.ne_of_lt (blk_lt (g:=gb349) (o:=.cells #[.bool a0_0,.string a0_1] 43 (0,0)) (by (with_reducible repeat (first|refine blk_drewN ?_ _|refine blk_drew ?_|refine blk_alloc ?_ _));exact BK349.out)):gb349≠gb352));have n8_:=Aside0.mk ((by rw [hg];exact Nat.ne_of_gt (blk_lt (g:=gb349) (o:=.cells #[.bool a0_0,.string a0_1] 43 (0,0)) (by (with_reducible repeat (first|refine blk_drewN ?_ _|refine blk_drew ?_|refine blk_alloc ?_ _));exact BK349.out)):gb352≠gb349));have n9_:=Aside0.mk ((by rw [hg];exact Nat.ne_of_lt (blk_lt (g:=gb350) (o:=.cells #[.bool a1_0,.string a1_1] 43 (0,0)) (by (with_reducible repeat (first|refine blk_drewN ?_ _|refine blk_drew ?_|refine blk_alloc ?_ _));exact BK350.out)):gb350≠gb352));have n10_:=Aside0.mk ((by rw [hg];exact Nat.ne_of_gt (blk_lt (g:=gb350) (o:=.cells #[.bool a1_0,.string a1_1] 43 (0,0)) (by (with_reducible repeat (first|refine blk_drewN ?_ _|refine blk_drew ?_|refine blk_alloc ?_ _));exact BK350.out)):gb352≠gb350));have n11_:=Aside0.mk ((by rw [hg];exact Nat.ne_of_lt (blk_lt (g:=gb351) (o:=.cells #[.bool false,.string (⟨#[]⟩:ByteArray)] 43 (0,0)) (by (with_reducible repeat (first|refine blk_drewN ?_ _|refine blk_drew ?_|refine blk_alloc ?_ _));exact BK351.out)):gb351≠gb352));have n12_:=Aside0.mk ((by rw [hg];exact Nat.ne_of_gt (blk_lt (g:=gb351) (o:=.cells #[.bool false,.string (⟨#[]⟩:ByteArray)] 43 (0,0)) (by (with_reducible repeat (first|refine blk_drewN ?_ _|refine blk_drew ?_|refine blk_alloc ?_ _));exact BK351.out)):gb352≠gb351));clear BK349;clear BK350;clear BK351;clear HB;have BK349:=n0_;have BK350:=n1_;have BK351:=n2_;have HB:=n3_;have BK352:=n4_;have GW352:=n5_;have GE352:=n6_;have NB349_352:=n7_;have NB352_349:=n8_;have NB350_352:=n9_;have NB352_350:=n10_;have NB351_352:=n11_;have NB352_351:=n12_;clear n0_ n1_ n2_ n3_ n4_ n5_ n6_ n7_ n8_ n9_ n10_ n11_ n12_;clear hb hbox hg;have hnb9:=NB349_350.out;have hnc9:=NB350_349.out;have hnb10:=NB349_351.out;have hnc10:=NB351_349.out;have hnb11:=NB349_352.out;have hnc11:=NB352_349.out;have hcz12_0:w8.cell? ⟨gb349,0,none⟩ = some (.bool a0_0):=(blk_cell BK349.out 0).trans rfl;have hcz12_1:w8.cell? ⟨gb349,1,none⟩ = some (.string a0_1):=(blk_cell BK349.out 1).trans rfl;have hfz12_0:=blk_frozen BK349.out 0;have hfz12_1:=blk_frozen BK349.out 1;have hnb13:=NB350_351.out;have hnc13:=NB351_350.out;have hnb14:=NB350_352.out;have hnc14:=NB352_350.out;have hcz15_0:w8.cell? ⟨gb350,0,none⟩ = some (.bool a1_0):=(blk_cell BK350.out 0).trans rfl;have hcz15_1:w8.cell? ⟨gb350,1,none⟩ = some (.string a1_1):=(blk_cell BK350.out 1).trans rfl;have hfz15_0:=blk_frozen BK350.out 0;have hfz15_1:=blk_frozen BK350.out 1)|((with_reducible refine gate_callee (f:=38) rfl ?_);refine goesL_ (some 14) rfl rfl Tryz.func38 (by kernel_rfl) rfl #[.string a0_1,.string a1_1] rfl (by (try simp only [List.map_toArray,List.map_cons,List.map_nil]);first|done|rfl|(simp only [List.length_drop,List.length_take];rfl)) ?_;(with_reducible refine (natural_DivMod.calls k a0_1 a1_1 t353 t354 t355 _ ?side1 A3.out).mono ?_);(case side1=>exact HLW.out.below (by repeat (first|(with_reducible first|exact HB.out|apply below_alloc|apply pw_below_drewN|apply below_drew1|refine below_set ?_ GE349.out|refine below_set ?_ GE350.out|refine below_set ?_ GE351.out|refine below_set ?_ GE352.out)|exact HB.out)));rintro e w16 ⟨rfl,hb⟩;refine ⟨_,rfl,?_⟩;have n0_:=Aside0.mk (blk_below (g:=gb349) (o:=.cells #[.bool a0_0,.string a0_1] 43 (0,0)) (by (with_reducible repeat (first|refine blk_drewN ?_ _|refine blk_drew ?_|refine blk_alloc ?_ _));exact BK349.out) hb);have n1_:=Aside0.mk (blk_below (g:=gb350) (o:=.cells #[.bool a1_0,.string a1_1] 43 (0,0)) (by (with_reducible repeat (first|refine blk_drewN ?_ _|refine blk_drew ?_|refine blk_alloc ?_ _));exact BK350.out) hb);have n2_:=Aside0.mk (blk_below (g:=gb351) (o:=.cells #[.bool false,.string (⟨#[]⟩:ByteArray)] 43 (0,0)) (by (with_reducible repeat (first|refine blk_drewN ?_ _|refine blk_drew ?_|refine blk_alloc ?_ _));exact BK351.out) hb);have n3_:=Aside0.mk (blk_below (g:=gb352) (o:=.cells #[.bool false,.string (⟨#[]⟩:ByteArray)] 43 (0,0)) (by (with_reducible repeat (first|refine blk_drewN ?_ _|refine blk_drew ?_|refine blk_alloc ?_ _));exact BK352.out) hb);have n4_:=Aside0.mk (below_step (by repeat (first|(with_reducible first|exact HB.out|apply below_alloc|apply pw_below_drewN|apply below_drew1|refine below_set ?_ GE349.out|refine below_set ?_ GE350.out|refine below_set ?_ GE351.out|refine below_set ?_ GE352.out)|exact HB.out)) hb);clear BK349;clear BK350;clear BK351;clear BK352;clear HB;have BK349:=n0_;have BK350:=n1_;have BK351:=n2_;have BK352:=n3_;have HB:=n4_;clear n0_ n1_ n2_ n3_ n4_;(try clear hb);(try clear hb2);(try clear hk);(try clear hi)))
 (try simp only [Act.put,List.setIfInBounds_toArray,List.set_cons_zero,List.set_cons_succ])
 go_cut [23] (fun v23 wc=>∃ (kq:Nat) (x23_3:Bool),v23 = .bool x23_3∧Aside0 (integer_number_divide.j0 kq t353 t354 x23_3 a0_0 a0_1 a1_0 a1_1 = some (r1,r2,r3,r4))∧Aside0 (kq≤k)∧Aside0 (wc.heap[gb349]? = some (.cells #[.bool a0_0,.string a0_1] 43 (0,0)))∧Aside0 (wc.heap[gb350]? = some (.cells #[.bool a1_0,.string a1_1] 43 (0,0)))∧Aside0 (wc.heap[gb351]? = some (.cells #[.bool false,.string (⟨#[]⟩:ByteArray)] 43 (0,0)))∧Aside0 (wc.heap[gb352]? = some (.cells #[.bool false,.string (⟨#[]⟩:ByteArray)] 43 (0,0)))∧Aside0 (Below w.heap.size w wc))
 case first =>
  have H:=HC4.out
  clear HC4
  by_cases c17:a0_0 = true
  ·subst c17
   have H1:(integer_number_divide.j0 k t353 t354 (t354.toList != ([48]:List UInt8)) true a0_1 a1_0 a1_1) = some (r1,r2,r3,r4):=by rw [if_pos rfl] at H;exact H
   clear H
   have H:=H1
   clear H1
   have H':=Aside0.mk H
   clear H
   have hnb18:=NB349_350.out
   have hnc18:=NB350_349.out
   have hnb19:=NB349_351.out
   have hnc19:=NB351_349.out
   have hnb20:=NB349_352.out
   have hnc20:=NB352_349.out
   have hcz21_0:w16.cell? ⟨gb349,0,none⟩ = some (.bool true):=(blk_cell BK349.out 0).trans rfl
   have hcz21_1:w16.cell? ⟨gb349,1,none⟩ = some (.string a0_1):=(blk_cell BK349.out 1).trans rfl
   have hfz21_0:=blk_frozen BK349.out 0
   have hfz21_1:=blk_frozen BK349.out 1
   go_wp2
   go_meet
   case rel=>exact ⟨_,((t354.toList != ([48]:List UInt8))),(by first|rfl|(simp;done)|(simp [*];done)),H',⟨by first|omega|exact Nat.le_refl _⟩,⟨by (with_reducible repeat (first|refine blk_drewN ?_ _|refine blk_drew ?_|refine blk_alloc ?_ _));exact BK349.out⟩,⟨by (with_reducible repeat (first|refine blk_drewN ?_ _|refine blk_drew ?_|refine blk_alloc ?_ _));exact BK350.out⟩,⟨by (with_reducible repeat (first|refine blk_drewN ?_ _|refine blk_drew ?_|refine blk_alloc ?_ _));exact BK351.out⟩,⟨by (with_reducible repeat (first|refine blk_drewN ?_ _|refine blk_drew ?_|refine blk_alloc ?_ _));exact BK352.out⟩,⟨by repeat (first|(with_reducible first|exact HB.out|apply below_alloc|apply pw_below_drewN|apply below_drew1|refine below_set ?_ GE349.out|refine below_set ?_ GE350.out|refine below_set ?_ GE351.out|refine below_set ?_ GE352.out)|exact HB.out)⟩⟩
  ·replace c17:=Bool.eq_false_iff.mpr c17
   subst c17
   have H1:(integer_number_divide.j0 k t353 t354 false false a0_1 a1_0 a1_1) = some (r1,r2,r3,r4):=by rw [if_neg (show ¬ (false = true) by decide)] at H;exact H
   clear H
   have H:=H1
   clear H1
   have H':=Aside0.mk H
   clear H
   have hnb22:=NB349_350.out
   have hnc22:=NB350_349.out
   have hnb23:=NB349_351.out
   have hnc23:=NB351_349.out
   have hnb24:=NB349_352.out
   have hnc24:=NB352_349.out
   have hcz25_0:w16.cell? ⟨gb349,0,none⟩ = some (.bool false):=(blk_cell BK349.out 0).trans rfl
   have hcz25_1:w16.cell? ⟨gb349,1,none⟩ = some (.string a0_1):=(blk_cell BK349.out 1).trans rfl
   have hfz25_0:=blk_frozen BK349.out 0
   have hfz25_1:=blk_frozen BK349.out 1
   go_wp2
   go_meet
   case rel=>exact ⟨_,(false),(by first|rfl|(simp;done)|(simp [*];done)),H',⟨by first|omega|exact Nat.le_refl _⟩,⟨by (with_reducible repeat (first|refine blk_drewN ?_ _|refine blk_drew ?_|refine blk_alloc ?_ _));exact BK349.out⟩,⟨by (with_reducible repeat (first|refine blk_drewN ?_ _|refine blk_drew ?_|refine blk_alloc ?_ _));exact BK350.out⟩,⟨by (with_reducible repeat (first|refine blk_drewN ?_ _|refine blk_drew ?_|refine blk_alloc ?_ _));exact BK351.out⟩,⟨by (with_reducible repeat (first|refine blk_drewN ?_ _|refine blk_drew ?_|refine blk_alloc ?_ _));exact BK352.out⟩,⟨by repeat (first|(with_reducible first|exact HB.out|apply below_alloc|apply pw_below_drewN|apply below_drew1|refine below_set ?_ GE349.out|refine below_set ?_ GE350.out|refine below_set ?_ GE351.out|refine below_set ?_ GE352.out)|exact HB.out)⟩⟩
 case rest =>
  clear HC4
  try clear c1
  try clear c2
  try clear p2
  try clear c3
  try clear c6
  try clear c9
  try clear c10
  try clear c11
  try clear c13
  try clear c14
  try clear c17
  try clear c18
  try clear c19
  try clear c20
  try clear c22
  try clear c23
  try clear c24
  try clear hcz12_0
  try clear hcz12_1
  try clear hcz15_0
  try clear hcz15_1
  try clear hcz21_0
  try clear hcz21_1
  try clear hcz25_0
  try clear hcz25_1
  try clear hfz12_0
  try clear hfz12_1
  try clear hfz15_0
  try clear hfz15_1
  try clear hfz21_0
  try clear hfz21_1
  try clear hfz25_0
  try clear hfz25_1
  obtain ⟨kq,x23_3,rfl,HA,HJ3,BK349,BK350,BK351,BK352,HB⟩:=hcut
  cases kq with
  | zero=>exact absurd HA.out (by simp [integer_number_divide.j0])
  | succ kj3 =>
   have H:=HA.out
   clear HA
   simp only [integer_number_divide.j0] at H
   by_cases c26:x23_3 = true
   ·subst c26
    have H1:((natural_Add.f t353 (⟨#[49]⟩:ByteArray)).bind fun bt356=>((natural_Sub.f a1_1 t354).bind fun bt358=>((integer_with.f (a0_0 != a1_0) bt356.1).bind fun bt360=>((integer_with.f false bt358.1).bind fun bt362=>(some (bt360.1,bt360.2,bt362.1,bt362.2)))))) = some (r1,r2,r3,r4):=by rw [if_pos rfl] at H;exact H
    clear H
    have H:=H1
    clear H1
    replace H:=Option.bind_eq_some_iff.mp H
    obtain ⟨⟨t356,t357⟩,A270,H⟩:=H
    replace H:((natural_Sub.f a1_1 t354).bind fun bt358=>((integer_with.f (a0_0 != a1_0) t356).bind fun bt360=>((integer_with.f false bt358.1).bind fun bt362=>(some (bt360.1,bt360.2,bt362.1,bt362.2))))) = some (r1,r2,r3,r4):=H
    have A27:=Aside0.mk A270
    clear A270
    replace H:=Option.bind_eq_some_iff.mp H
    obtain ⟨⟨t358,t359⟩,A280,H⟩:=H
    replace H:((integer_with.f (a0_0 != a1_0) t356).bind fun bt360=>((integer_with.f false t358).bind fun bt362=>(some (bt360.1,bt360.2,bt362.1,bt362.2)))) = some (r1,r2,r3,r4):=H
    have A28:=Aside0.mk A280
    clear A280
    replace H:=Option.bind_eq_some_iff.mp H
    obtain ⟨⟨t360,t361⟩,A290,H⟩:=H
    replace H:((integer_with.f false t358).bind fun bt362=>(some (t360,t361,bt362.1,bt362.2))) = some (r1,r2,r3,r4):=H
    have A29:=Aside0.mk A290
    clear A290
    replace H:=Option.bind_eq_some_iff.mp H
    obtain ⟨⟨t362,t363⟩,A300,H⟩:=H
    replace H:(some (t360,t361,t362,t363)) = some (r1,r2,r3,r4):=H
    have A30:=Aside0.mk A300
    clear A300
    simp only [Option.some.injEq,Prod.mk.injEq] at H
    obtain ⟨rfl,rfl,rfl,rfl⟩:=H
    go_wp2_with (first|((with_reducible refine gate_callee (f:=84) rfl ?_);refine goesL_ (some 26) rfl rfl Tryz.func84 (by kernel_rfl) rfl #[.string t353,.string (⟨#[49]⟩:ByteArray)] rfl (by (try simp only [List.map_toArray,List.map_cons,List.map_nil]);first|done|rfl|(simp only [List.length_drop,List.length_take];rfl)) ?_;(with_reducible refine (natural_Add.calls t353 (⟨#[49]⟩:ByteArray) t356 t357 _ ?side1 A27.out).mono ?_);(case side1=>exact HLW.out.below (by repeat (first|(with_reducible first|exact HB.out|apply below_alloc|apply pw_below_drewN|apply below_drew1|refine below_set ?_ GE349.out|refine below_set ?_ GE350.out|refine below_set ?_ GE351.out|refine below_set ?_ GE352.out)|exact HB.out)));rintro e w31 ⟨rfl,hb⟩;refine ⟨_,rfl,?_⟩;have n0_:=Aside0.mk (blk_below (g:=gb349) (o:=.cells #[.bool a0_0,.string a0_1] 43 (0,0)) (by (with_reducible repeat (first|refine blk_drewN ?_ _|refine blk_drew ?_|refine blk_alloc ?_ _));exact BK349.out) hb);have n1_:=Aside0.mk (blk_below (g:=gb350) (o:=.cells #[.bool a1_0,.string a1_1] 43 (0,0)) (by (with_reducible repeat (first|refine blk_drewN ?_ _|refine blk_drew ?_|refine blk_alloc ?_ _));exact BK350.out) hb);have n2_:=Aside0.mk (blk_below (g:=gb351) (o:=.cells #[.bool false,.string (⟨#[]⟩:ByteArray)] 43 (0,0)) (by (with_reducible repeat (first|refine blk_drewN ?_ _|refine blk_drew ?_|refine blk_alloc ?_ _));exact BK351.out) hb);have n3_:=Aside0.mk (blk_below (g:=gb352) (o:=.cells #[.bool false,.string (⟨#[]⟩:ByteArray)] 43 (0,0)) (by (with_reducible repeat (first|refine blk_drewN ?_ _|refine blk_drew ?_|refine blk_alloc ?_ _));exact BK352.out) hb);have n4_:=Aside0.mk (below_step (by repeat (first|(with_reducible first|exact HB.out|apply below_alloc|apply pw_below_drewN|apply below_drew1|refine below_set ?_ GE349.out|refine below_set ?_ GE350.out|refine below_set ?_ GE351.out|refine below_set ?_ GE352.out)|exact HB.out)) hb);clear BK349;clear BK350;clear BK351;clear BK352;clear HB;have BK349:=n0_;have BK350:=n1_;have BK351:=n2_;have BK352:=n3_;have HB:=n4_;clear n0_ n1_ n2_ n3_ n4_;(try clear hb);(try clear hb2);(try clear hk);(try clear hi);have hnb32:=NB350_349.out;have hnc32:=NB349_350.out;have hnb33:=NB350_351.out;have hnc33:=NB351_350.out;have hnb34:=NB350_352.out;have hnc34:=NB352_350.out;have hcz35_0:w31.cell? ⟨gb350,0,none⟩ = some (.bool a1_0):=(blk_cell BK350.out 0).trans rfl;have hcz35_1:w31.cell? ⟨gb350,1,none⟩ = some (.string a1_1):=(blk_cell BK350.out 1).trans rfl;have hfz35_0:=blk_frozen BK350.out 0;have hfz35_1:=blk_frozen BK350.out 1)|((with_reducible refine gate_callee (f:=85) rfl ?_);refine goesL_ (some 33) rfl rfl Tryz.func85 (by kernel_rfl) rfl #[.string a1_1,.string t354] rfl (by (try simp only [List.map_toArray,List.map_cons,List.map_nil]);first|done|rfl|(simp only [List.length_drop,List.length_take];rfl)) ?_;(with_reducible refine (natural_Sub.calls a1_1 t354 t358 t359 _ ?side1 A28.out).mono ?_);(case side1=>exact HLW.out.below (by repeat (first|(with_reducible first|exact HB.out|apply below_alloc|apply pw_below_drewN|apply below_drew1|refine below_set ?_ GE349.out|refine below_set ?_ GE350.out|refine below_set ?_ GE351.out|refine below_set ?_ GE352.out)|exact HB.out)));rintro e w36 ⟨rfl,hb⟩;refine ⟨_,rfl,?_⟩;have n0_:=Aside0.mk (blk_below (g:=gb349) (o:=.cells #[.bool a0_0,.string a0_1] 43 (0,0)) (by (with_reducible repeat (first|refine blk_drewN ?_ _|refine blk_drew ?_|refine blk_alloc ?_ _));exact BK349.out) hb);have n1_:=Aside0.mk (blk_below (g:=gb350) (o:=.cells #[.bool a1_0,.string a1_1] 43 (0,0)) (by (with_reducible repeat (first|refine blk_drewN ?_ _|refine blk_drew ?_|refine blk_alloc ?_ _));exact BK350.out) hb);have n2_:=Aside0.mk (blk_below (g:=gb351) (o:=.cells #[.bool false,.string (⟨#[]⟩:ByteArray)] 43 (0,0)) (by (with_reducible repeat (first|refine blk_drewN ?_ _|refine blk_drew ?_|refine blk_alloc ?_ _));exact BK351.out) hb);have n3_:=Aside0.mk (blk_below (g:=gb352) (o:=.cells #[.bool false,.string (⟨#[]⟩:ByteArray)] 43 (0,0)) (by (with_reducible repeat (first|refine blk_drewN ?_ _|refine blk_drew ?_|refine blk_alloc ?_ _));exact BK352.out) hb);have n4_:=Aside0.mk (below_step (by repeat (first|(with_reducible first|exact HB.out|apply below_alloc|apply pw_below_drewN|apply below_drew1|refine below_set ?_ GE349.out|refine below_set ?_ GE350.out|refine below_set ?_ GE351.out|refine below_set ?_ GE352.out)|exact HB.out)) hb);clear BK349;clear BK350;clear BK351;clear BK352;clear HB;have BK349:=n0_;have BK350:=n1_;have BK351:=n2_;have BK352:=n3_;have HB:=n4_;clear n0_ n1_ n2_ n3_ n4_;(try clear hb);(try clear hb2);(try clear hk);(try clear hi);have hnb37:=NB349_351.out;have hnc37:=NB351_349.out;have hnb38:=NB349_352.out;have hnc38:=NB352_349.out;have hcz39_0:w36.cell? ⟨gb349,0,none⟩ = some (.bool a0_0):=(blk_cell BK349.out 0).trans rfl;have hcz39_1:w36.cell? ⟨gb349,1,none⟩ = some (.string a0_1):=(blk_cell BK349.out 1).trans rfl;have hfz39_0:=blk_frozen BK349.out 0;have hfz39_1:=blk_frozen BK349.out 1;have hcz40_0:w36.cell? ⟨gb350,0,none⟩ = some (.bool a1_0):=(blk_cell BK350.out 0).trans rfl;have hcz40_1:w36.cell? ⟨gb350,1,none⟩ = some (.string a1_1):=(blk_cell BK350.out 1).trans rfl;have hfz40_0:=blk_frozen BK350.out 0;have hfz40_1:=blk_frozen BK350.out 1)|((with_reducible refine gate_callee (f:=62) rfl ?_);refine goesL_ (some 42) rfl rfl Tryz.func62 (by kernel_rfl) rfl #[.bool (a0_0 != a1_0),.string t356] rfl (by (try simp only [List.map_toArray,List.map_cons,List.map_nil]);first|done|rfl|(simp only [List.length_drop,List.length_take];rfl)) ?_;(with_reducible refine (integer_with.calls (a0_0 != a1_0) t356 t360 t361 _ A29.out).mono ?_);rintro e w41 ⟨rfl,hb⟩;refine ⟨_,rfl,?_⟩;have n0_:=Aside0.mk (blk_below (g:=gb349) (o:=.cells #[.bool a0_0,.string a0_1] 43 (0,0)) (by (with_reducible repeat (first|refine blk_drewN ?_ _|refine blk_drew ?_|refine blk_alloc ?_ _));exact BK349.out) hb);have n1_:=Aside0.mk (blk_below (g:=gb350) (o:=.cells #[.bool a1_0,.string a1_1] 43 (0,0)) (by (with_reducible repeat (first|refine blk_drewN ?_ _|refine blk_drew ?_|refine blk_alloc ?_ _));exact BK350.out) hb);have n2_:=Aside0.mk (blk_below (g:=gb351) (o:=.cells #[.bool false,.string (⟨#[]⟩:ByteArray)] 43 (0,0)) (by (with_reducible repeat (first|refine blk_drewN ?_ _|refine blk_drew ?_|refine blk_alloc ?_ _));exact BK351.out) hb);have n3_:=Aside0.mk (blk_below (g:=gb352) (o:=.cells #[.bool false,.string (⟨#[]⟩:ByteArray)] 43 (0,0)) (by (with_reducible repeat (first|refine blk_drewN ?_ _|refine blk_drew ?_|refine blk_alloc ?_ _));exact BK352.out) hb);have n4_:=Aside0.mk (below_step (by repeat (first|(with_reducible first|exact HB.out|apply below_alloc|apply pw_below_drewN|apply below_drew1|refine below_set ?_ GE349.out|refine below_set ?_ GE350.out|refine below_set ?_ GE351.out|refine below_set ?_ GE352.out)|exact HB.out)) hb);clear BK349;clear BK350;clear BK351;clear BK352;clear HB;have BK349:=n0_;have BK350:=n1_;have BK351:=n2_;have BK352:=n3_;have HB:=n4_;clear n0_ n1_ n2_ n3_ n4_;(try clear hb);(try clear hb2);(try clear hk);(try clear hi))|((with_reducible refine gate_callee (f:=62) rfl ?_);refine goesL_ (some 44) rfl rfl Tryz.func62 (by kernel_rfl) rfl #[.bool false,.string t358] rfl (by (try simp only [List.map_toArray,List.map_cons,List.map_nil]);first|done|rfl|(simp only [List.length_drop,List.length_take];rfl)) ?_;(with_reducible refine (integer_with.calls false t358 t362 t363 _ A30.out).mono ?_);rintro e w42 ⟨rfl,hb⟩;refine ⟨_,rfl,?_⟩;have n0_:=Aside0.mk (blk_below (g:=gb349) (o:=.cells #[.bool a0_0,.string a0_1] 43 (0,0)) (by (with_reducible repeat (first|refine blk_drewN ?_ _|refine blk_drew ?_|refine blk_alloc ?_ _));exact BK349.out) hb);have n1_:=Aside0.mk (blk_below (g:=gb350) (o:=.cells #[.bool a1_0,.string a1_1] 43 (0,0)) (by (with_reducible repeat (first|refine blk_drewN ?_ _|refine blk_drew ?_|refine blk_alloc ?_ _));exact BK350.out) hb);have n2_:=Aside0.mk (blk_below (g:=gb351) (o:=.cells #[.bool false,.string (⟨#[]⟩:ByteArray)] 43 (0,0)) (by (with_reducible repeat (first|refine blk_drewN ?_ _|refine blk_drew ?_|refine blk_alloc ?_ _));exact BK351.out) hb);have n3_:=Aside0.mk (blk_below (g:=gb352) (o:=.cells #[.bool false,.string (⟨#[]⟩:ByteArray)] 43 (0,0)) (by (with_reducible repeat (first|refine blk_drewN ?_ _|refine blk_drew ?_|refine blk_alloc ?_ _));exact BK352.out) hb);have n4_:=Aside0.mk (below_step (by repeat (first|(with_reducible first|exact HB.out|apply below_alloc|apply pw_below_drewN|apply below_drew1|refine below_set ?_ GE349.out|refine below_set ?_ GE350.out|refine below_set ?_ GE351.out|refine below_set ?_ GE352.out)|exact HB.out)) hb);clear BK349;clear BK350;clear BK351;clear BK352;clear HB;have BK349:=n0_;have BK350:=n1_;have BK351:=n2_;have BK352:=n3_;have HB:=n4_;clear n0_ n1_ n2_ n3_ n4_;(try clear hb);(try clear hb2);(try clear hk);(try clear hi);have hnb43:=NB351_352.out;have hnc43:=NB352_351.out;have hcz44_0:w42.cell? ⟨gb351,0,none⟩ = some (.bool false):=(blk_cell BK351.out 0).trans rfl;have hcz44_1:w42.cell? ⟨gb351,1,none⟩ = some (.string (⟨#[]⟩:ByteArray)):=(blk_cell BK351.out 1).trans rfl;have hfz44_0:=blk_frozen BK351.out 0;have hfz44_1:=blk_frozen BK351.out 1;have hcz45_0:w42.cell? ⟨gb352,0,none⟩ = some (.bool false):=(blk_cell BK352.out 0).trans rfl;have hcz45_1:w42.cell? ⟨gb352,1,none⟩ = some (.string (⟨#[]⟩:ByteArray)):=(blk_cell BK352.out 1).trans rfl;have hfz45_0:=blk_frozen BK352.out 0;have hfz45_1:=blk_frozen BK352.out 1))
    refine bodyPost_ret (results_cc rfl _ _ gb351 gb352 43 43 #[.bool t360,.string t361] #[.bool t362,.string t363] (0,0) (0,0) _ _ rfl (by (with_reducible repeat (first|refine blk_drewN ?_ _|refine blk_drew ?_|refine blk_alloc ?_ _));refine blk_far ?_ NB351_352.out _;(with_reducible repeat (first|refine blk_drewN ?_ _|refine blk_drew ?_|refine blk_alloc ?_ _));refine blk_far ?_ NB351_352.out _;(with_reducible repeat (first|refine blk_drewN ?_ _|refine blk_drew ?_|refine blk_alloc ?_ _));refine blk_put (cs:=#[.bool t360,.string (⟨#[]⟩:ByteArray)]) ?_ 1 _ rfl;(with_reducible repeat (first|refine blk_drewN ?_ _|refine blk_drew ?_|refine blk_alloc ?_ _));refine blk_put (cs:=#[.bool false,.string (⟨#[]⟩:ByteArray)]) ?_ 0 _ rfl;(with_reducible repeat (first|refine blk_drewN ?_ _|refine blk_drew ?_|refine blk_alloc ?_ _));exact BK351.out) Tryz.underlying43 rfl (by kernel_rfl) rfl (by (with_reducible repeat (first|refine blk_drewN ?_ _|refine blk_drew ?_|refine blk_alloc ?_ _));refine blk_put (cs:=#[.bool t362,.string (⟨#[]⟩:ByteArray)]) ?_ 1 _ rfl;(with_reducible repeat (first|refine blk_drewN ?_ _|refine blk_drew ?_|refine blk_alloc ?_ _));refine blk_put (cs:=#[.bool false,.string (⟨#[]⟩:ByteArray)]) ?_ 0 _ rfl;(with_reducible repeat (first|refine blk_drewN ?_ _|refine blk_drew ?_|refine blk_alloc ?_ _));refine blk_far ?_ NB352_351.out _;(with_reducible repeat (first|refine blk_drewN ?_ _|refine blk_drew ?_|refine blk_alloc ?_ _));refine blk_far ?_ NB352_351.out _;(with_reducible repeat (first|refine blk_drewN ?_ _|refine blk_drew ?_|refine blk_alloc ?_ _));exact BK352.out) Tryz.underlying43 rfl (by kernel_rfl)) rfl ?_
    exact ⟨by first|rfl|(simp [errW_none,errW_some]<;>rfl)|(simp [*,errW_none,errW_some]<;>rfl),by repeat (first|(with_reducible first|exact HB.out|apply below_alloc|apply pw_below_drewN|apply below_drew1|refine below_set ?_ GE349.out|refine below_set ?_ GE350.out|refine below_set ?_ GE351.out|refine below_set ?_ GE352.out)|exact HB.out)⟩
   ·replace c26:=Bool.eq_false_iff.mpr c26
    subst c26
    have H1:((integer_with.f (a0_0 != a1_0) t353).bind fun bt364=>((integer_with.f false t354).bind fun bt366=>(some (bt364.1,bt364.2,bt366.1,bt366.2)))) = some (r1,r2,r3,r4):=by rw [if_neg (show ¬ (false = true) by decide)] at H;exact H
    clear H
    have H:=H1
    clear H1
    replace H:=Option.bind_eq_some_iff.mp H
    obtain ⟨⟨t364,t365⟩,A460,H⟩:=H
    replace H:((integer_with.f false t354).bind fun bt366=>(some (t364,t365,bt366.1,bt366.2))) = some (r1,r2,r3,r4):=H
    have A46:=Aside0.mk A460
    clear A460
    replace H:=Option.bind_eq_some_iff.mp H
    obtain ⟨⟨t366,t367⟩,A470,H⟩:=H
    replace H:(some (t364,t365,t366,t367)) = some (r1,r2,r3,r4):=H
    have A47:=Aside0.mk A470
    clear A470
    simp only [Option.some.injEq,Prod.mk.injEq] at H
    obtain ⟨rfl,rfl,rfl,rfl⟩:=H
    have hnb48:=NB349_350.out
    have hnc48:=NB350_349.out
    have hnb49:=NB349_351.out
    have hnc49:=NB351_349.out
    have hnb50:=NB349_352.out
    have hnc50:=NB352_349.out
    have hcz51_0:wc.cell? ⟨gb349,0,none⟩ = some (.bool a0_0):=(blk_cell BK349.out 0).trans rfl
    have hcz51_1:wc.cell? ⟨gb349,1,none⟩ = some (.string a0_1):=(blk_cell BK349.out 1).trans rfl
    have hfz51_0:=blk_frozen BK349.out 0
    have hfz51_1:=blk_frozen BK349.out 1
    have hnb52:=NB350_351.out
    have hnc52:=NB351_350.out
    have hnb53:=NB350_352.out
    have hnc53:=NB352_350.out
    have hcz54_0:wc.cell? ⟨gb350,0,none⟩ = some (.bool a1_0):=(blk_cell BK350.out 0).trans rfl
    have hcz54_1:wc.cell? ⟨gb350,1,none⟩ = some (.string a1_1):=(blk_cell BK350.out 1).trans rfl
    have hfz54_0:=blk_frozen BK350.out 0
    have hfz54_1:=blk_frozen BK350.out 1
    go_wp2_with (first|((with_reducible refine gate_callee (f:=62) rfl ?_);refine goesL_ (some 42) rfl rfl Tryz.func62 (by kernel_rfl) rfl #[.bool (a0_0 != a1_0),.string t353] rfl (by (try simp only [List.map_toArray,List.map_cons,List.map_nil]);first|done|rfl|(simp only [List.length_drop,List.length_take];rfl)) ?_;(with_reducible refine (integer_with.calls (a0_0 != a1_0) t353 t364 t365 _ A46.out).mono ?_);rintro e w55 ⟨rfl,hb⟩;refine ⟨_,rfl,?_⟩;have n0_:=Aside0.mk (blk_below (g:=gb349) (o:=.cells #[.bool a0_0,.string a0_1] 43 (0,0)) (by (with_reducible repeat (first|refine blk_drewN ?_ _|refine blk_drew ?_|refine blk_alloc ?_ _));exact BK349.out) hb);have n1_:=Aside0.mk (blk_below (g:=gb350) (o:=.cells #[.bool a1_0,.string a1_1] 43 (0,0)) (by (with_reducible repeat (first|refine blk_drewN ?_ _|refine blk_drew ?_|refine blk_alloc ?_ _));exact BK350.out) hb);have n2_:=Aside0.mk (blk_below (g:=gb351) (o:=.cells #[.bool false,.string (⟨#[]⟩:ByteArray)] 43 (0,0)) (by (with_reducible repeat (first|refine blk_drewN ?_ _|refine blk_drew ?_|refine blk_alloc ?_ _));exact BK351.out) hb);have n3_:=Aside0.mk (blk_below (g:=gb352) (o:=.cells #[.bool false,.string (⟨#[]⟩:ByteArray)] 43 (0,0)) (by (with_reducible repeat (first|refine blk_drewN ?_ _|refine blk_drew ?_|refine blk_alloc ?_ _));exact BK352.out) hb);have n4_:=Aside0.mk (below_step (by repeat (first|(with_reducible first|exact HB.out|apply below_alloc|apply pw_below_drewN|apply below_drew1|refine below_set ?_ GE349.out|refine below_set ?_ GE350.out|refine below_set ?_ GE351.out|refine below_set ?_ GE352.out)|exact HB.out)) hb);clear BK349;clear BK350;clear BK351;clear BK352;clear HB;have BK349:=n0_;have BK350:=n1_;have BK351:=n2_;have BK352:=n3_;have HB:=n4_;clear n0_ n1_ n2_ n3_ n4_;(try clear hb);(try clear hb2);(try clear hk);(try clear hi))|((with_reducible refine gate_callee (f:=62) rfl ?_);refine goesL_ (some 44) rfl rfl Tryz.func62 (by kernel_rfl) rfl #[.bool false,.string t354] rfl (by (try simp only [List.map_toArray,List.map_cons,List.map_nil]);first|done|rfl|(simp only [List.length_drop,List.length_take];rfl)) ?_;(with_reducible refine (integer_with.calls false t354 t366 t367 _ A47.out).mono ?_);rintro e w56 ⟨rfl,hb⟩;refine ⟨_,rfl,?_⟩;have n0_:=Aside0.mk (blk_below (g:=gb349) (o:=.cells #[.bool a0_0,.string a0_1] 43 (0,0)) (by (with_reducible repeat (first|refine blk_drewN ?_ _|refine blk_drew ?_|refine blk_alloc ?_ _));exact BK349.out) hb);have n1_:=Aside0.mk (blk_below (g:=gb350) (o:=.cells #[.bool a1_0,.string a1_1] 43 (0,0)) (by (with_reducible repeat (first|refine blk_drewN ?_ _|refine blk_drew ?_|refine blk_alloc ?_ _));exact BK350.out) hb);have n2_:=Aside0.mk (blk_below (g:=gb351) (o:=.cells #[.bool false,.string (⟨#[]⟩:ByteArray)] 43 (0,0)) (by (with_reducible repeat (first|refine blk_drewN ?_ _|refine blk_drew ?_|refine blk_alloc ?_ _));exact BK351.out) hb);have n3_:=Aside0.mk (blk_below (g:=gb352) (o:=.cells #[.bool false,.string (⟨#[]⟩:ByteArray)] 43 (0,0)) (by (with_reducible repeat (first|refine blk_drewN ?_ _|refine blk_drew ?_|refine blk_alloc ?_ _));exact BK352.out) hb);have n4_:=Aside0.mk (below_step (by repeat (first|(with_reducible first|exact HB.out|apply below_alloc|apply pw_below_drewN|apply below_drew1|refine below_set ?_ GE349.out|refine below_set ?_ GE350.out|refine below_set ?_ GE351.out|refine below_set ?_ GE352.out)|exact HB.out)) hb);clear BK349;clear BK350;clear BK351;clear BK352;clear HB;have BK349:=n0_;have BK350:=n1_;have BK351:=n2_;have BK352:=n3_;have HB:=n4_;clear n0_ n1_ n2_ n3_ n4_;(try clear hb);(try clear hb2);(try clear hk);(try clear hi);have hnb57:=NB351_352.out;have hnc57:=NB352_351.out;have hcz58_0:w56.cell? ⟨gb351,0,none⟩ = some (.bool false):=(blk_cell BK351.out 0).trans rfl;have hcz58_1:w56.cell? ⟨gb351,1,none⟩ = some (.string (⟨#[]⟩:ByteArray)):=(blk_cell BK351.out 1).trans rfl;have hfz58_0:=blk_frozen BK351.out 0;have hfz58_1:=blk_frozen BK351.out 1;have hcz59_0:w56.cell? ⟨gb352,0,none⟩ = some (.bool false):=(blk_cell BK352.out 0).trans rfl;have hcz59_1:w56.cell? ⟨gb352,1,none⟩ = some (.string (⟨#[]⟩:ByteArray)):=(blk_cell BK352.out 1).trans rfl;have hfz59_0:=blk_frozen BK352.out 0;have hfz59_1:=blk_frozen BK352.out 1))
    refine bodyPost_ret (results_cc rfl _ _ gb351 gb352 43 43 #[.bool t364,.string t365] #[.bool t366,.string t367] (0,0) (0,0) _ _ rfl (by (with_reducible repeat (first|refine blk_drewN ?_ _|refine blk_drew ?_|refine blk_alloc ?_ _));refine blk_far ?_ NB351_352.out _;(with_reducible repeat (first|refine blk_drewN ?_ _|refine blk_drew ?_|refine blk_alloc ?_ _));refine blk_far ?_ NB351_352.out _;(with_reducible repeat (first|refine blk_drewN ?_ _|refine blk_drew ?_|refine blk_alloc ?_ _));refine blk_put (cs:=#[.bool t364,.string (⟨#[]⟩:ByteArray)]) ?_ 1 _ rfl;(with_reducible repeat (first|refine blk_drewN ?_ _|refine blk_drew ?_|refine blk_alloc ?_ _));refine blk_put (cs:=#[.bool false,.string (⟨#[]⟩:ByteArray)]) ?_ 0 _ rfl;(with_reducible repeat (first|refine blk_drewN ?_ _|refine blk_drew ?_|refine blk_alloc ?_ _));exact BK351.out) Tryz.underlying43 rfl (by kernel_rfl) rfl (by (with_reducible repeat (first|refine blk_drewN ?_ _|refine blk_drew ?_|refine blk_alloc ?_ _));refine blk_put (cs:=#[.bool t366,.string (⟨#[]⟩:ByteArray)]) ?_ 1 _ rfl;(with_reducible repeat (first|refine blk_drewN ?_ _|refine blk_drew ?_|refine blk_alloc ?_ _));refine blk_put (cs:=#[.bool false,.string (⟨#[]⟩:ByteArray)]) ?_ 0 _ rfl;(with_reducible repeat (first|refine blk_drewN ?_ _|refine blk_drew ?_|refine blk_alloc ?_ _));refine blk_far ?_ NB352_351.out _;(with_reducible repeat (first|refine blk_drewN ?_ _|refine blk_drew ?_|refine blk_alloc ?_ _));refine blk_far ?_ NB352_351.out _;(with_reducible repeat (first|refine blk_drewN ?_ _|refine blk_drew ?_|refine blk_alloc ?_ _));exact BK352.out) Tryz.underlying43 rfl (by kernel_rfl)) rfl ?_
    exact ⟨by first|rfl|(simp [errW_none,errW_some]<;>rfl)|(simp [*,errW_none,errW_some]<;>rfl),by repeat (first|(with_reducible first|exact HB.out|apply below_alloc|apply pw_below_drewN|apply below_drew1|refine below_set ?_ GE349.out|refine below_set ?_ GE350.out|refine below_set ?_ GE351.out|refine below_set ?_ GE352.out)|exact HB.out)⟩
end Go.Proofs.YtaknchlegjcdhaaGreatDoor.Pr
namespace Go.Proofs.YtaknchlegjcdhaaGreatDoor.Pr
open Go.RowKit Go.Proofs.YtaknchlegjcdhaaGreatDoorW.PrintWords Go.Proofs.YtaknchlegjcdhaaGreatDoorW.PrintLast Go.Proofs.YtaknchlegjcdhaaGreatDoorW.PrintMore
attribute [local go_sem] max2_int min2_int max_two min_two max_three min_three max_four min_four
set_option linter.unusedVariables false
set_option linter.unusedSimpArgs false
attribute [local go_sem high] eqA43
def integer_DivMod.f (k:Nat) (a0:ByteArray) (a1:ByteArray):Option (ByteArray × ByteArray × Int):=(integer_both.f k a0 a1).bind fun bt368=>(if bt368.2.2.2.2 = 0 then ((integer_zero.f).bind fun bt375=>(if (bt368.2.2.1 == bt375.1 && (bt368.2.2.2.1.toList == bt375.2.toList)) = true then (some ((⟨#[]⟩:ByteArray),(⟨#[]⟩:ByteArray),16)) else ((integer_number_divide.f k bt368.1 bt368.2.1 bt368.2.2.1 bt368.2.2.2.1).bind fun bt377=>((integer_number_text.f bt377.1 bt377.2.1).bind fun t383=>((integer_number_text.f bt377.2.2.1 bt377.2.2.2).bind fun t384=>(some (t383,t384,0))))))) else (some ((⟨#[]⟩:ByteArray),(⟨#[]⟩:ByteArray),bt368.2.2.2.2)))
theorem integer_DivMod.mono:∀ a0 a1 k,LeO (integer_DivMod.f k a0 a1) (integer_DivMod.f (k + 1) a0 a1):=by
 intro a0 a1 k
 unfold integer_DivMod.f
 repeat' first
   | (with_reducible exact integer_both.mono _ _ _)
   | (with_reducible exact integer_number_divide.mono _ _ _ _ _)
   | (with_reducible exact LeO.refl _)
   | (with_reducible exact LeO.none _)
   | (with_reducible refine LeO.ite ?_ ?_)
   | (with_reducible refine LeO.bind ?_ (fun _=>?_))
   | exact integer_both.mono _ _ _
   | exact integer_number_divide.mono _ _ _ _ _
   | exact LeO.none _
   | refine LeO.ite ?_ ?_
   | refine LeO.bind ?_ (fun _=>?_)
set_option maxHeartbeats 8000000 in
set_option maxRecDepth 100000 in
theorem integer_DivMod.calls (k:Nat) (a0:ByteArray) (a1:ByteArray) (r1:ByteArray) (r2:ByteArray) (r3:Int) (w:World) (hL:LaidW w) (h:integer_DivMod.f k a0 a1 = some (r1,r2,r3)) :
  Calls Tryz.prog 30 #[.string a0,.string a1] w fun e w'=>e = .returned (.tuple #[.string r1,.string r2,.int .i64 r3])∧Below w.heap.size w w':=by
 have hu43:=Tryz.underlying43
 have HB:=Aside0.mk (Below.refl w.heap.size w)
 have HLW:=Aside0.mk hL
 clear hL
 have H:((integer_both.f k a0 a1).bind fun bt368=>(if bt368.2.2.2.2 = 0 then ((integer_zero.f).bind fun bt375=>(if (bt368.2.2.1 == bt375.1 && (bt368.2.2.2.1.toList == bt375.2.toList)) = true then (some ((⟨#[]⟩:ByteArray),(⟨#[]⟩:ByteArray),16)) else ((integer_number_divide.f k bt368.1 bt368.2.1 bt368.2.2.1 bt368.2.2.2.1).bind fun bt377=>((integer_number_text.f bt377.1 bt377.2.1).bind fun t383=>((integer_number_text.f bt377.2.2.1 bt377.2.2.2).bind fun t384=>(some (t383,t384,0))))))) else (some ((⟨#[]⟩:ByteArray),(⟨#[]⟩:ByteArray),bt368.2.2.2.2)))) = some (r1,r2,r3):=h
 clear h
 replace H:=Option.bind_eq_some_iff.mp H
 obtain ⟨⟨t368,t369,t370,t371,t372⟩,A30,H⟩:=H
 replace H:(if t372 = 0 then ((integer_zero.f).bind fun bt375=>(if (t370 == bt375.1 && (t371.toList == bt375.2.toList)) = true then (some ((⟨#[]⟩:ByteArray),(⟨#[]⟩:ByteArray),16)) else ((integer_number_divide.f k t368 t369 t370 t371).bind fun bt377=>((integer_number_text.f bt377.1 bt377.2.1).bind fun t383=>((integer_number_text.f bt377.2.2.1 bt377.2.2.2).bind fun t384=>(some (t383,t384,0))))))) else (some ((⟨#[]⟩:ByteArray),(⟨#[]⟩:ByteArray),t372))) = some (r1,r2,r3):=H
 have A3:=Aside0.mk A30
 clear A30
 by_cases c4:t372 = 0
 ·rw [if_pos c4] at H
  have c4b0:(t372 == 0) = true:=beq_iff_eq.mpr c4
  have c4b1:(t372 != 0) = false:=bne_eq_false_iff_eq.mpr c4
  clear c4
  replace H:=Option.bind_eq_some_iff.mp H
  obtain ⟨⟨t375,t376⟩,A50,H⟩:=H
  replace H:(if (t370 == t375 && (t371.toList == t376.toList)) = true then (some ((⟨#[]⟩:ByteArray),(⟨#[]⟩:ByteArray),16)) else ((integer_number_divide.f k t368 t369 t370 t371).bind fun bt377=>((integer_number_text.f bt377.1 bt377.2.1).bind fun t383=>((integer_number_text.f bt377.2.2.1 bt377.2.2.2).bind fun t384=>(some (t383,t384,0)))))) = some (r1,r2,r3):=H
  have A5:=Aside0.mk A50
  clear A50
  by_cases c6:(t370 == t375 && (t371.toList == t376.toList)) = true
  ·rw [if_pos c6] at H
   have c6b0:(t370 == t375 && (t371.toList == t376.toList)) = true:=c6
   (try (have c6b1:decide (t370 = t375 && (t371.toList == t376.toList)) = true:=by simpa using c6))
   (try (have c6b2:(t370 == t375 && (t371.toList == t376.toList)) = true:=by simpa using c6))
   clear c6
   simp only [Option.some.injEq,Prod.mk.injEq] at H
   obtain ⟨rfl,rfl,rfl⟩:=H
   go_enter Tryz.func30,Tryz.ntmps30
   try go_wp2_with (first|((with_reducible refine gate_callee (f:=51) rfl ?_);refine goesL_ (some 15) rfl rfl Tryz.func51 (by kernel_rfl) rfl #[.string a0,.string a1] rfl (by (try simp only [List.map_toArray,List.map_cons,List.map_nil]);first|done|rfl|(simp only [List.length_drop,List.length_take];rfl)) ?_;(with_reducible refine (integer_both.calls k a0 a1 t368 t369 t370 t371 t372 _ A3.out).mono ?_);rintro e w7 ⟨rfl,hb⟩;refine ⟨_,rfl,?_⟩;have n0_:=Aside0.mk (below_step (by repeat (first|(with_reducible first|exact HB.out|apply below_alloc|apply pw_below_drewN|apply below_drew1)|exact HB.out)) hb);clear HB;have HB:=n0_;clear n0_;(try clear hb);(try clear hb2);(try clear hk);(try clear hi))|((with_reducible refine gate_dst (N:=7) rfl ?_);refine box_event ?hg (N:=7) ?hd (cs:=#[.bool false,.string (⟨#[]⟩:ByteArray)]) (t:=43) ?hr ?_;(case hd=>rfl);(case hg=>rfl);(case hr=>first|(go_simp;done)|(go_simp;rfl));intro gb373 hg w8 hbox hb;have n0_:=Aside0.mk (below_step (by repeat (first|(with_reducible first|exact HB.out|apply below_alloc|apply pw_below_drewN|apply below_drew1)|exact HB.out)) hb);have n1_:=Aside0.mk (hbox);have n2_:=Aside0.mk ((by rw [hg];exact (below_size (by repeat (first|(with_reducible first|exact HB.out|apply below_alloc|apply pw_below_drewN|apply below_drew1)|exact HB.out))):w.heap.size≤gb373));have n3_:=Aside0.mk ((by rw [hg];exact (below_size (by repeat (first|(with_reducible first|exact HB.out|apply below_alloc|apply pw_below_drewN|apply below_drew1)|exact HB.out))):w.heap.size≤gb373));clear HB;have HB:=n0_;have BK373:=n1_;have GW373:=n2_;have GE373:=n3_;clear n0_ n1_ n2_ n3_;clear hb hbox hg)|((with_reducible refine gate_dst (N:=8) rfl ?_);refine box_event ?hg (N:=8) ?hd (cs:=#[.bool false,.string (⟨#[]⟩:ByteArray)]) (t:=43) ?hr ?_;(case hd=>rfl);(case hg=>rfl);(case hr=>first|(go_simp;done)|(go_simp;rfl));intro gb374 hg w9 hbox hb;have n0_:=Aside0.mk (blk_below (g:=gb373) (o:=.cells #[.bool false,.string (⟨#[]⟩:ByteArray)] 43 (0,0)) (by (with_reducible repeat (first|refine blk_drewN ?_ _|refine blk_drew ?_|refine blk_alloc ?_ _));exact BK373.out) hb);have n1_:=Aside0.mk (below_step (by repeat (first|(with_reducible first|exact HB.out|apply below_alloc|apply pw_below_drewN|apply below_drew1|refine below_set ?_ GE373.out)|exact HB.out)) hb);have n2_:=Aside0.mk (hbox);have n3_:=Aside0.mk ((by rw [hg];exact (below_size (by repeat (first|(with_reducible first|exact HB.out|apply below_alloc|apply pw_below_drewN|apply below_drew1|refine below_set ?_ GE373.out)|exact HB.out))):w.heap.size≤gb374));have n4_:=Aside0.mk ((by rw [hg];exact (below_size (by repeat (first|(with_reducible first|exact HB.out|apply below_alloc|apply pw_below_drewN|apply below_drew1|refine below_set ?_ GE373.out)|exact HB.out))):w.heap.size≤gb374));have n5_:=Aside0.mk ((by rw [hg];exact Nat.ne_of_lt (blk_lt (g:=gb373) (o:=.cells #[.bool false,.string (⟨#[]⟩:ByteArray)] 43 (0,0)) (by (with_reducible repeat (first|refine blk_drewN ?_ _|refine blk_drew ?_|refine blk_alloc ?_ _));exact BK373.out)):gb373≠gb374));have n6_:=Aside0.mk ((by rw [hg];exact Nat.ne_of_gt (blk_lt (g:=gb373) (o:=.cells #[.bool false,.string (⟨#[]⟩:ByteArray)] 43 (0,0)) (by (with_reducible repeat (first|refine blk_drewN ?_ _|refine blk_drew ?_|refine blk_alloc ?_ _));exact BK373.out)):gb374≠gb373));clear BK373;clear HB;have BK373:=n0_;have HB:=n1_;have BK374:=n2_;have GW374:=n3_;have GE374:=n4_;have NB373_374:=n5_;have NB374_373:=n6_;clear n0_ n1_ n2_ n3_ n4_ n5_ n6_;clear hb hbox hg;have hnb10:=NB373_374.out;have hnc10:=NB374_373.out;have hcz11_0:w9.cell? ⟨gb373,0,none⟩ = some (.bool false):=(blk_cell BK373.out 0).trans rfl;have hcz11_1:w9.cell? ⟨gb373,1,none⟩ = some (.string (⟨#[]⟩:ByteArray)):=(blk_cell BK373.out 1).trans rfl;have hfz11_0:=blk_frozen BK373.out 0;have hfz11_1:=blk_frozen BK373.out 1;have hcz12_0:w9.cell? ⟨gb374,0,none⟩ = some (.bool false):=(blk_cell BK374.out 0).trans rfl;have hcz12_1:w9.cell? ⟨gb374,1,none⟩ = some (.string (⟨#[]⟩:ByteArray)):=(blk_cell BK374.out 1).trans rfl;have hfz12_0:=blk_frozen BK374.out 0;have hfz12_1:=blk_frozen BK374.out 1))
   have n0_:Aside0 (((((w9.setCell ⟨gb373,0,none⟩ (.bool t368)).setCell ⟨gb373,1,none⟩ (.string t369)).setCell ⟨gb374,0,none⟩ (.bool t370)).setCell ⟨gb374,1,none⟩ (.string t371)).heap[gb373]? = some (.cells #[.bool t368,.string t369] 43 (0,0))):=⟨by (with_reducible repeat (first|refine blk_drewN ?_ _|refine blk_drew ?_|refine blk_alloc ?_ _));refine blk_far ?_ NB373_374.out _;(with_reducible repeat (first|refine blk_drewN ?_ _|refine blk_drew ?_|refine blk_alloc ?_ _));refine blk_far ?_ NB373_374.out _;(with_reducible repeat (first|refine blk_drewN ?_ _|refine blk_drew ?_|refine blk_alloc ?_ _));refine blk_put (cs:=#[.bool t368,.string (⟨#[]⟩:ByteArray)]) ?_ 1 _ rfl;(with_reducible repeat (first|refine blk_drewN ?_ _|refine blk_drew ?_|refine blk_alloc ?_ _));refine blk_put (cs:=#[.bool false,.string (⟨#[]⟩:ByteArray)]) ?_ 0 _ rfl;(with_reducible repeat (first|refine blk_drewN ?_ _|refine blk_drew ?_|refine blk_alloc ?_ _));exact BK373.out⟩
   have n1_:Aside0 (((((w9.setCell ⟨gb373,0,none⟩ (.bool t368)).setCell ⟨gb373,1,none⟩ (.string t369)).setCell ⟨gb374,0,none⟩ (.bool t370)).setCell ⟨gb374,1,none⟩ (.string t371)).heap[gb374]? = some (.cells #[.bool t370,.string t371] 43 (0,0))):=⟨by (with_reducible repeat (first|refine blk_drewN ?_ _|refine blk_drew ?_|refine blk_alloc ?_ _));refine blk_put (cs:=#[.bool t370,.string (⟨#[]⟩:ByteArray)]) ?_ 1 _ rfl;(with_reducible repeat (first|refine blk_drewN ?_ _|refine blk_drew ?_|refine blk_alloc ?_ _));refine blk_put (cs:=#[.bool false,.string (⟨#[]⟩:ByteArray)]) ?_ 0 _ rfl;(with_reducible repeat (first|refine blk_drewN ?_ _|refine blk_drew ?_|refine blk_alloc ?_ _));refine blk_far ?_ NB374_373.out _;(with_reducible repeat (first|refine blk_drewN ?_ _|refine blk_drew ?_|refine blk_alloc ?_ _));refine blk_far ?_ NB374_373.out _;(with_reducible repeat (first|refine blk_drewN ?_ _|refine blk_drew ?_|refine blk_alloc ?_ _));exact BK374.out⟩
   have n2_:Aside0 (Below w.heap.size w ((((w9.setCell ⟨gb373,0,none⟩ (.bool t368)).setCell ⟨gb373,1,none⟩ (.string t369)).setCell ⟨gb374,0,none⟩ (.bool t370)).setCell ⟨gb374,1,none⟩ (.string t371))):=⟨by repeat (first|(with_reducible first|exact HB.out|apply below_alloc|apply pw_below_drewN|apply below_drew1|refine below_set ?_ GE373.out|refine below_set ?_ GE374.out)|exact HB.out)⟩
   (try clear BK373)
   (try clear BK374)
   (try clear HB)
   generalize ((((w9.setCell ⟨gb373,0,none⟩ (.bool t368)).setCell ⟨gb373,1,none⟩ (.string t369)).setCell ⟨gb374,0,none⟩ (.bool t370)).setCell ⟨gb374,1,none⟩ (.string t371)) = w13 at n0_ n1_ n2_ ⊢
   have BK373:=n0_
   have BK374:=n1_
   have HB:=n2_
   clear n0_ n1_ n2_
   have n0_:=Aside0.mk (blk_drew BK373.out)
   have n1_:=Aside0.mk (blk_drew BK374.out)
   have n2_:=Aside0.mk (below_drew1 HB.out)
   clear BK373
   clear BK374
   clear HB
   have BK373:=n0_
   have BK374:=n1_
   have HB:=n2_
   clear n0_ n1_ n2_
   refine start_ (n:=4) (S:=fun w'=>w'.cell? ⟨gb374,0,none⟩ = some (.bool t370)∧w'.cell? ⟨gb374,1,none⟩ = some (.string t371)) (ds:=[]) #[false,false,false,false] (by kernel_rfl) rfl rfl ⟨(blk_cell BK374.out 0).trans rfl,(blk_cell BK374.out 1).trans rfl⟩ (fun hHeld=>?_)
   generalize w13.drew = w14 at BK373 BK374 HB hHeld ⊢
   refine take_ (i:=0) (N:=some 24) (v:=?_) (a':=?_) #[true,false,false,false] rfl rfl (by kernel_rfl) (fun _ _ _ h=>h) (Or.inl ⟨by rfl,?_⟩) hHeld ?_ ?_
   rotate_left
   ·rintro w' ⟨s0,s1⟩
    go_simp
    with_reducible rfl
   rotate_left
   ·simp only [Act.put,List.setIfInBounds_toArray,List.set_cons_zero,List.set_cons_succ,i64_w,i32_w]
    rfl
   refine one_ (i:=1) (N:=some 25) #[true,true,false,false] rfl rfl (by kernel_rfl) (by decide) (fun K hK=>?_)
   refine goes_ Tryz.func59 (by kernel_rfl) rfl #[] (by rfl) rfl rfl (by (try simp only [List.map_toArray,List.map_cons,List.map_nil]);first|done|rfl|(simp only [List.length_drop,List.length_take];rfl)) ?_
   with_reducible refine (integer_zero.calls  t375 t376 _ A5.out).mono ?_
   rintro e w15 ⟨rfl,hb⟩
   refine ⟨_,rfl,?_⟩
   have n0_:=Aside0.mk (blk_below (g:=gb373) (o:=.cells #[.bool t368,.string t369] 43 (0,0)) (by (with_reducible repeat (first|refine blk_drewN ?_ _|refine blk_drew ?_|refine blk_alloc ?_ _));exact BK373.out) hb)
   have n1_:=Aside0.mk (blk_below (g:=gb374) (o:=.cells #[.bool t370,.string t371] 43 (0,0)) (by (with_reducible repeat (first|refine blk_drewN ?_ _|refine blk_drew ?_|refine blk_alloc ?_ _));exact BK374.out) hb)
   have n2_:=Aside0.mk (below_step (by repeat (first|(with_reducible first|exact HB.out|apply below_alloc|apply pw_below_drewN|apply below_drew1|refine below_set ?_ GE373.out|refine below_set ?_ GE374.out)|exact HB.out)) hb)
   clear BK373
   clear BK374
   clear HB
   have BK373:=n0_
   have BK374:=n1_
   have HB:=n2_
   clear n0_ n1_ n2_
   (try clear hb)
   (try clear hb2)
   (try clear hk)
   (try clear hi)
   refine hK.out _ _ ⟨(blk_cell BK374.out 0).trans rfl,(blk_cell BK374.out 1).trans rfl⟩ (fun hHeld=>?_)
   clear hK K
   refine norm_ (a':=?_) ?_ ?_
   rotate_left
   ·show Act.put _ (some 25) _ = _
    simp only [Act.put,List.setIfInBounds_toArray,List.set_cons_zero,List.set_cons_succ,i64_w,i32_w]
    rfl
   refine pure_ (i:=2) (N:=some 26) (v:=?_) (a':=?_) #[true,true,true,false] rfl rfl (by kernel_rfl) (fun _ _ _ h=>h) (Or.inl ⟨by rfl,?_⟩) ?_ ?_
   rotate_left
   ·intro w'
    go_simp
    with_reducible rfl
   rotate_left
   ·simp only [Act.put,List.setIfInBounds_toArray,List.set_cons_zero,List.set_cons_succ,i64_w,i32_w]
    rfl
   refine pure_ (i:=3) (N:=some 23) (v:=?_) (a':=?_) #[true,true,true,true] rfl rfl (by kernel_rfl) (fun _ _ _ h=>h) (Or.inl ⟨by rfl,?_⟩) ?_ ?_
   rotate_left
   ·intro w'
    go_simp
    with_reducible rfl
   rotate_left
   ·simp only [Act.put,List.setIfInBounds_toArray,List.set_cons_zero,List.set_cons_succ,i64_w,i32_w]
    rfl
   refine done_ (by kernel_rfl) ?_
   try go_wp2
   go_ret3
   exact ⟨by first|rfl|(simp [errW_none,errW_some]<;>rfl)|(simp [*,errW_none,errW_some]<;>rfl),by repeat (first|(with_reducible first|exact HB.out|apply below_alloc|apply pw_below_drewN|apply below_drew1|refine below_set ?_ GE373.out|refine below_set ?_ GE374.out)|exact HB.out)⟩
  ·rw [if_neg c6] at H
   have c6b0:(t370 == t375 && (t371.toList == t376.toList)) = false:=by simpa using c6
   (try (have c6b1:decide (t370 = t375 && (t371.toList == t376.toList)) = false:=by simpa using c6))
   (try (have c6b2:(t370 == t375 && (t371.toList == t376.toList)) = false:=by simpa using c6))
   (try (have c6b3:¬ (t370 = t375 && (t371.toList == t376.toList)):=by simpa using c6))
   clear c6
   replace H:=Option.bind_eq_some_iff.mp H
   obtain ⟨⟨t377,t378,t379,t380⟩,A160,H⟩:=H
   replace H:((integer_number_text.f t377 t378).bind fun t383=>((integer_number_text.f t379 t380).bind fun t384=>(some (t383,t384,0)))) = some (r1,r2,r3):=H
   have A16:=Aside0.mk A160
   clear A160
   replace H:=Option.bind_eq_some_iff.mp H
   obtain ⟨t383,A170,H⟩:=H
   replace H:((integer_number_text.f t379 t380).bind fun t384=>(some (t383,t384,0))) = some (r1,r2,r3):=H
   have A17:=Aside0.mk A170
   clear A170
   replace H:=Option.bind_eq_some_iff.mp H
   obtain ⟨t384,A180,H⟩:=H
   replace H:(some (t383,t384,0)) = some (r1,r2,r3):=H
   have A18:=Aside0.mk A180
   clear A180
   simp only [Option.some.injEq,Prod.mk.injEq] at H
   obtain ⟨rfl,rfl,rfl⟩:=H
   go_enter Tryz.func30,Tryz.ntmps30
   try go_wp2_with (first|((with_reducible refine gate_callee (f:=51) rfl ?_);refine goesL_ (some 15) rfl rfl Tryz.func51 (by kernel_rfl) rfl #[.string a0,.string a1] rfl (by (try simp only [List.map_toArray,List.map_cons,List.map_nil]);first|done|rfl|(simp only [List.length_drop,List.length_take];rfl)) ?_;(with_reducible refine (integer_both.calls k a0 a1 t368 t369 t370 t371 t372 _ A3.out).mono ?_);rintro e w19 ⟨rfl,hb⟩;refine ⟨_,rfl,?_⟩;have n0_:=Aside0.mk (below_step (by repeat (first|(with_reducible first|exact HB.out|apply below_alloc|apply pw_below_drewN|apply below_drew1)|exact HB.out)) hb);clear HB;have HB:=n0_;clear n0_;(try clear hb);(try clear hb2);(try clear hk);(try clear hi))|((with_reducible refine gate_dst (N:=7) rfl ?_);refine box_event ?hg (N:=7) ?hd (cs:=#[.bool false,.string (⟨#[]⟩:ByteArray)]) (t:=43) ?hr ?_;(case hd=>rfl);(case hg=>rfl);(case hr=>first|(go_simp;done)|(go_simp;rfl));intro gb373 hg w20 hbox hb;have n0_:=Aside0.mk (below_step (by repeat (first|(with_reducible first|exact HB.out|apply below_alloc|apply pw_below_drewN|apply below_drew1)|exact HB.out)) hb);have n1_:=Aside0.mk (hbox);have n2_:=Aside0.mk ((by rw [hg];exact (below_size (by repeat (first|(with_reducible first|exact HB.out|apply below_alloc|apply pw_below_drewN|apply below_drew1)|exact HB.out))):w.heap.size≤gb373));have n3_:=Aside0.mk ((by rw [hg];exact (below_size (by repeat (first|(with_reducible first|exact HB.out|apply below_alloc|apply pw_below_drewN|apply below_drew1)|exact HB.out))):w.heap.size≤gb373));clear HB;have HB:=n0_;have BK373:=n1_;have GW373:=n2_;have GE373:=n3_;clear n0_ n1_ n2_ n3_;clear hb hbox hg)|((with_reducible refine gate_dst (N:=8) rfl ?_);refine box_event ?hg (N:=8) ?hd (cs:=#[.bool false,.string (⟨#[]⟩:ByteArray)]) (t:=43) ?hr ?_;(case hd=>rfl);(case hg=>rfl);(case hr=>first|(go_simp;done)|(go_simp;rfl));intro gb374 hg w21 hbox hb;have n0_:=Aside0.mk (blk_below (g:=gb373) (o:=.cells #[.bool false,.string (⟨#[]⟩:ByteArray)] 43 (0,0)) (by (with_reducible repeat (first|refine blk_drewN ?_ _|refine blk_drew ?_|refine blk_alloc ?_ _));exact BK373.out) hb);have n1_:=Aside0.mk (below_step (by repeat (first|(with_reducible first|exact HB.out|apply below_alloc|apply pw_below_drewN|apply below_drew1|refine below_set ?_ GE373.out)|exact HB.out)) hb);have n2_:=Aside0.mk (hbox);have n3_:=Aside0.mk ((by rw [hg];exact (below_size (by repeat (first|(with_reducible first|exact HB.out|apply below_alloc|apply pw_below_drewN|apply below_drew1|refine below_set ?_ GE373.out)|exact HB.out))):w.heap.size≤gb374));have n4_:=Aside0.mk ((by rw [hg];exact (below_size (by repeat (first|(with_reducible first|exact HB.out|apply below_alloc|apply pw_below_drewN|apply below_drew1|refine below_set ?_ GE373.out)|exact HB.out))):w.heap.size≤gb374));have n5_:=Aside0.mk ((by rw [hg];exact Nat.ne_of_lt (blk_lt (g:=gb373) (o:=.cells #[.bool false,.string (⟨#[]⟩:ByteArray)] 43 (0,0)) (by (with_reducible repeat (first|refine blk_drewN ?_ _|refine blk_drew ?_|refine blk_alloc ?_ _));exact BK373.out)):gb373≠gb374));have n6_:=Aside0.mk ((by rw [hg];exact Nat.ne_of_gt (blk_lt (g:=gb373) (o:=.cells #[.bool false,.string (⟨#[]⟩:ByteArray)] 43 (0,0)) (by (with_reducible repeat (first|refine blk_drewN ?_ _|refine blk_drew ?_|refine blk_alloc ?_ _));exact BK373.out)):gb374≠gb373));clear BK373;clear HB;have BK373:=n0_;have HB:=n1_;have BK374:=n2_;have GW374:=n3_;have GE374:=n4_;have NB373_374:=n5_;have NB374_373:=n6_;clear n0_ n1_ n2_ n3_ n4_ n5_ n6_;clear hb hbox hg;have hnb22:=NB373_374.out;have hnc22:=NB374_373.out;have hcz23_0:w21.cell? ⟨gb373,0,none⟩ = some (.bool false):=(blk_cell BK373.out 0).trans rfl;have hcz23_1:w21.cell? ⟨gb373,1,none⟩ = some (.string (⟨#[]⟩:ByteArray)):=(blk_cell BK373.out 1).trans rfl;have hfz23_0:=blk_frozen BK373.out 0;have hfz23_1:=blk_frozen BK373.out 1;have hcz24_0:w21.cell? ⟨gb374,0,none⟩ = some (.bool false):=(blk_cell BK374.out 0).trans rfl;have hcz24_1:w21.cell? ⟨gb374,1,none⟩ = some (.string (⟨#[]⟩:ByteArray)):=(blk_cell BK374.out 1).trans rfl;have hfz24_0:=blk_frozen BK374.out 0;have hfz24_1:=blk_frozen BK374.out 1))
   have n0_:Aside0 (((((w21.setCell ⟨gb373,0,none⟩ (.bool t368)).setCell ⟨gb373,1,none⟩ (.string t369)).setCell ⟨gb374,0,none⟩ (.bool t370)).setCell ⟨gb374,1,none⟩ (.string t371)).heap[gb373]? = some (.cells #[.bool t368,.string t369] 43 (0,0))):=⟨by (with_reducible repeat (first|refine blk_drewN ?_ _|refine blk_drew ?_|refine blk_alloc ?_ _));refine blk_far ?_ NB373_374.out _;(with_reducible repeat (first|refine blk_drewN ?_ _|refine blk_drew ?_|refine blk_alloc ?_ _));refine blk_far ?_ NB373_374.out _;(with_reducible repeat (first|refine blk_drewN ?_ _|refine blk_drew ?_|refine blk_alloc ?_ _));refine blk_put (cs:=#[.bool t368,.string (⟨#[]⟩:ByteArray)]) ?_ 1 _ rfl;(with_reducible repeat (first|refine blk_drewN ?_ _|refine blk_drew ?_|refine blk_alloc ?_ _));refine blk_put (cs:=#[.bool false,.string (⟨#[]⟩:ByteArray)]) ?_ 0 _ rfl;(with_reducible repeat (first|refine blk_drewN ?_ _|refine blk_drew ?_|refine blk_alloc ?_ _));exact BK373.out⟩
   have n1_:Aside0 (((((w21.setCell ⟨gb373,0,none⟩ (.bool t368)).setCell ⟨gb373,1,none⟩ (.string t369)).setCell ⟨gb374,0,none⟩ (.bool t370)).setCell ⟨gb374,1,none⟩ (.string t371)).heap[gb374]? = some (.cells #[.bool t370,.string t371] 43 (0,0))):=⟨by (with_reducible repeat (first|refine blk_drewN ?_ _|refine blk_drew ?_|refine blk_alloc ?_ _));refine blk_put (cs:=#[.bool t370,.string (⟨#[]⟩:ByteArray)]) ?_ 1 _ rfl;(with_reducible repeat (first|refine blk_drewN ?_ _|refine blk_drew ?_|refine blk_alloc ?_ _));refine blk_put (cs:=#[.bool false,.string (⟨#[]⟩:ByteArray)]) ?_ 0 _ rfl;(with_reducible repeat (first|refine blk_drewN ?_ _|refine blk_drew ?_|refine blk_alloc ?_ _));refine blk_far ?_ NB374_373.out _;(with_reducible repeat (first|refine blk_drewN ?_ _|refine blk_drew ?_|refine blk_alloc ?_ _));refine blk_far ?_ NB374_373.out _;(with_reducible repeat (first|refine blk_drewN ?_ _|refine blk_drew ?_|refine blk_alloc ?_ _));exact BK374.out⟩
   have n2_:Aside0 (Below w.heap.size w ((((w21.setCell ⟨gb373,0,none⟩ (.bool t368)).setCell ⟨gb373,1,none⟩ (.string t369)).setCell ⟨gb374,0,none⟩ (.bool t370)).setCell ⟨gb374,1,none⟩ (.string t371))):=⟨by repeat (first|(with_reducible first|exact HB.out|apply below_alloc|apply pw_below_drewN|apply below_drew1|refine below_set ?_ GE373.out|refine below_set ?_ GE374.out)|exact HB.out)⟩
   (try clear BK373)
   (try clear BK374)
   (try clear HB)
   generalize ((((w21.setCell ⟨gb373,0,none⟩ (.bool t368)).setCell ⟨gb373,1,none⟩ (.string t369)).setCell ⟨gb374,0,none⟩ (.bool t370)).setCell ⟨gb374,1,none⟩ (.string t371)) = w25 at n0_ n1_ n2_ ⊢
   have BK373:=n0_
   have BK374:=n1_
   have HB:=n2_
   clear n0_ n1_ n2_
   have n0_:=Aside0.mk (blk_drew BK373.out)
   have n1_:=Aside0.mk (blk_drew BK374.out)
   have n2_:=Aside0.mk (below_drew1 HB.out)
   clear BK373
   clear BK374
   clear HB
   have BK373:=n0_
   have BK374:=n1_
   have HB:=n2_
   clear n0_ n1_ n2_
   refine start_ (n:=4) (S:=fun w'=>w'.cell? ⟨gb374,0,none⟩ = some (.bool t370)∧w'.cell? ⟨gb374,1,none⟩ = some (.string t371)) (ds:=[]) #[false,false,false,false] (by kernel_rfl) rfl rfl ⟨(blk_cell BK374.out 0).trans rfl,(blk_cell BK374.out 1).trans rfl⟩ (fun hHeld=>?_)
   generalize w25.drew = w26 at BK373 BK374 HB hHeld ⊢
   refine take_ (i:=0) (N:=some 24) (v:=?_) (a':=?_) #[true,false,false,false] rfl rfl (by kernel_rfl) (fun _ _ _ h=>h) (Or.inl ⟨by rfl,?_⟩) hHeld ?_ ?_
   rotate_left
   ·rintro w' ⟨s0,s1⟩
    go_simp
    with_reducible rfl
   rotate_left
   ·simp only [Act.put,List.setIfInBounds_toArray,List.set_cons_zero,List.set_cons_succ,i64_w,i32_w]
    rfl
   refine one_ (i:=1) (N:=some 25) #[true,true,false,false] rfl rfl (by kernel_rfl) (by decide) (fun K hK=>?_)
   refine goes_ Tryz.func59 (by kernel_rfl) rfl #[] (by rfl) rfl rfl (by (try simp only [List.map_toArray,List.map_cons,List.map_nil]);first|done|rfl|(simp only [List.length_drop,List.length_take];rfl)) ?_
   with_reducible refine (integer_zero.calls  t375 t376 _ A5.out).mono ?_
   rintro e w27 ⟨rfl,hb⟩
   refine ⟨_,rfl,?_⟩
   have n0_:=Aside0.mk (blk_below (g:=gb373) (o:=.cells #[.bool t368,.string t369] 43 (0,0)) (by (with_reducible repeat (first|refine blk_drewN ?_ _|refine blk_drew ?_|refine blk_alloc ?_ _));exact BK373.out) hb)
   have n1_:=Aside0.mk (blk_below (g:=gb374) (o:=.cells #[.bool t370,.string t371] 43 (0,0)) (by (with_reducible repeat (first|refine blk_drewN ?_ _|refine blk_drew ?_|refine blk_alloc ?_ _));exact BK374.out) hb)
   have n2_:=Aside0.mk (below_step (by repeat (first|(with_reducible first|exact HB.out|apply below_alloc|apply pw_below_drewN|apply below_drew1|refine below_set ?_ GE373.out|refine below_set ?_ GE374.out)|exact HB.out)) hb)
   clear BK373
   clear BK374
   clear HB
   have BK373:=n0_
   have BK374:=n1_
   have HB:=n2_
   clear n0_ n1_ n2_
   (try clear hb)
   (try clear hb2)
   (try clear hk)
   (try clear hi)
   refine hK.out _ _ ⟨(blk_cell BK374.out 0).trans rfl,(blk_cell BK374.out 1).trans rfl⟩ (fun hHeld=>?_)
   clear hK K
   refine norm_ (a':=?_) ?_ ?_
   rotate_left
   ·show Act.put _ (some 25) _ = _
    simp only [Act.put,List.setIfInBounds_toArray,List.set_cons_zero,List.set_cons_succ,i64_w,i32_w]
    rfl
   refine pure_ (i:=2) (N:=some 26) (v:=?_) (a':=?_) #[true,true,true,false] rfl rfl (by kernel_rfl) (fun _ _ _ h=>h) (Or.inl ⟨by rfl,?_⟩) ?_ ?_
   rotate_left
   ·intro w'
    go_simp
    with_reducible rfl
   rotate_left
   ·simp only [Act.put,List.setIfInBounds_toArray,List.set_cons_zero,List.set_cons_succ,i64_w,i32_w]
    rfl
   refine pure_ (i:=3) (N:=some 23) (v:=?_) (a':=?_) #[true,true,true,true] rfl rfl (by kernel_rfl) (fun _ _ _ h=>h) (Or.inl ⟨by rfl,?_⟩) ?_ ?_
   rotate_left
   ·intro w'
    go_simp
    with_reducible rfl
   rotate_left
   ·simp only [Act.put,List.setIfInBounds_toArray,List.set_cons_zero,List.set_cons_succ,i64_w,i32_w]
    rfl
   refine done_ (by kernel_rfl) ?_
   have hcz28_0:w27.cell? ⟨gb373,0,none⟩ = some (.bool t368):=(blk_cell BK373.out 0).trans rfl
   have hcz28_1:w27.cell? ⟨gb373,1,none⟩ = some (.string t369):=(blk_cell BK373.out 1).trans rfl
   have hfz28_0:=blk_frozen BK373.out 0
   have hfz28_1:=blk_frozen BK373.out 1
   have hcz29_0:w27.cell? ⟨gb374,0,none⟩ = some (.bool t370):=(blk_cell BK374.out 0).trans rfl
   have hcz29_1:w27.cell? ⟨gb374,1,none⟩ = some (.string t371):=(blk_cell BK374.out 1).trans rfl
   have hfz29_0:=blk_frozen BK374.out 0
   have hfz29_1:=blk_frozen BK374.out 1
   try go_wp2_with (first|((with_reducible refine gate_callee (f:=60) rfl ?_);refine goesL_ (some 30) rfl rfl Tryz.func60 (by kernel_rfl) rfl #[.agg #[.bool t368,.string t369],.agg #[.bool t370,.string t371]] rfl (by (try simp only [List.map_toArray,List.map_cons,List.map_nil]);first|done|rfl|(simp only [List.length_drop,List.length_take];rfl)) ?_;(with_reducible refine (integer_number_divide.calls k t368 t369 t370 t371 t377 t378 t379 t380 _ ?side1 A16.out).mono ?_);(case side1=>exact HLW.out.below (by repeat (first|(with_reducible first|exact HB.out|apply below_alloc|apply pw_below_drewN|apply below_drew1|refine below_set ?_ GE373.out|refine below_set ?_ GE374.out)|exact HB.out)));rintro e w30 ⟨rfl,hb⟩;refine ⟨_,rfl,?_⟩;have n0_:=Aside0.mk (blk_below (g:=gb373) (o:=.cells #[.bool t368,.string t369] 43 (0,0)) (by (with_reducible repeat (first|refine blk_drewN ?_ _|refine blk_drew ?_|refine blk_alloc ?_ _));exact BK373.out) hb);have n1_:=Aside0.mk (blk_below (g:=gb374) (o:=.cells #[.bool t370,.string t371] 43 (0,0)) (by (with_reducible repeat (first|refine blk_drewN ?_ _|refine blk_drew ?_|refine blk_alloc ?_ _));exact BK374.out) hb);have n2_:=Aside0.mk (below_step (by repeat (first|(with_reducible first|exact HB.out|apply below_alloc|apply pw_below_drewN|apply below_drew1|refine below_set ?_ GE373.out|refine below_set ?_ GE374.out)|exact HB.out)) hb);clear BK373;clear BK374;clear HB;have BK373:=n0_;have BK374:=n1_;have HB:=n2_;clear n0_ n1_ n2_;(try clear hb);(try clear hb2);(try clear hk);(try clear hi))|((with_reducible refine gate_dst (N:=10) rfl ?_);refine box_event ?hg (N:=10) ?hd (cs:=#[.bool false,.string (⟨#[]⟩:ByteArray)]) (t:=43) ?hr ?_;(case hd=>rfl);(case hg=>rfl);(case hr=>first|(go_simp;done)|(go_simp;rfl));intro gb381 hg w31 hbox hb;have n0_:=Aside0.mk (blk_below (g:=gb373) (o:=.cells #[.bool t368,.string t369] 43 (0,0)) (by (with_reducible repeat (first|refine blk_drewN ?_ _|refine blk_drew ?_|refine blk_alloc ?_ _));exact BK373.out) hb);have n1_:=Aside0.mk (blk_below (g:=gb374) (o:=.cells #[.bool t370,.string t371] 43 (0,0)) (by (with_reducible repeat (first|refine blk_drewN ?_ _|refine blk_drew ?_|refine blk_alloc ?_ _));exact BK374.out) hb);have n2_:=Aside0.mk (below_step (by repeat (first|(with_reducible first|exact HB.out|apply below_alloc|apply pw_below_drewN|apply below_drew1|refine below_set ?_ GE373.out|refine below_set ?_ GE374.out)|exact HB.out)) hb);have n3_:=Aside0.mk (hbox);have n4_:=Aside0.mk ((by rw [hg];exact (below_size (by repeat (first|(with_reducible first|exact HB.out|apply below_alloc|apply pw_below_drewN|apply below_drew1|refine below_set ?_ GE373.out|refine below_set ?_ GE374.out)|exact HB.out))):w.heap.size≤gb381));have n5_:=Aside0.mk ((by rw [hg];exact (below_size (by repeat (first|(with_reducible first|exact HB.out|apply below_alloc|apply pw_below_drewN|apply below_drew1|refine below_set ?_ GE373.out|refine below_set ?_ GE374.out)|exact HB.out))):w.heap.size≤gb381));have n6_:=Aside0.mk ((by rw [hg];exact Nat.ne_of_lt (blk_lt (g:=gb373) (o:=.cells #[.bool t368,.string t369] 43 (0,0)) (by (with_reducible repeat (first|refine blk_drewN ?_ _|refine blk_drew ?_|refine blk_alloc ?_ _));exact BK373.out)):gb373≠gb381));have n7_:=Aside0.mk ((by rw [hg];exact Nat.ne_of_gt (blk_lt (g:=gb373) (o:=.cells #[.bool t368,.string t369] 43 (0,0)) (by (with_reducible repeat (first|refine blk_drewN ?_ _|refine blk_drew ?_|refine blk_alloc ?_ _));exact BK373.out)):gb381≠gb373));have n8_:=Aside0.mk ((by rw [hg];exact Nat.ne_of_lt (blk_lt (g:=gb374) (o:=.cells #[.bool t370,.string t371] 43 (0,0)) (by (with_reducible repeat (first|refine blk_drewN ?_ _|refine blk_drew ?_|refine blk_alloc ?_ _));exact BK374.out)):gb374≠gb381));have n9_:=Aside0.mk ((by rw [hg];exact Nat.ne_of_gt (blk_lt (g:=gb374) (o:=.cells #[.bool t370,.string t371] 43 (0,0)) (by (with_reducible repeat (first|refine blk_drewN ?_ _|refine blk_drew ?_|refine blk_alloc ?_ _));exact BK374.out)):gb381≠gb374));clear BK373;clear BK374;clear HB;have BK373:=n0_;have BK374:=n1_;have HB:=n2_;have BK381:=n3_;have GW381:=n4_;have GE381:=n5_;have NB373_381:=n6_;have NB381_373:=n7_;have NB374_381:=n8_;have NB381_374:=n9_;clear n0_ n1_ n2_ n3_ n4_ n5_ n6_ n7_ n8_ n9_;clear hb hbox hg)|((with_reducible refine gate_dst (N:=11) rfl ?_);refine box_event ?hg (N:=11) ?hd (cs:=#[.bool false,.string (⟨#[]⟩:ByteArray)]) (t:=43) ?hr ?_;(case hd=>rfl);(case hg=>rfl);(case hr=>first|(go_simp;done)|(go_simp;rfl));intro gb382 hg w32 hbox hb;have n0_:=Aside0.mk (blk_below (g:=gb373) (o:=.cells #[.bool t368,.string t369] 43 (0,0)) (by (with_reducible repeat (first|refine blk_drewN ?_ _|refine blk_drew ?_|refine blk_alloc ?_ _));exact BK373.out) hb);have n1_:=Aside0.mk (blk_below (g:=gb374) (o:=.cells #[.bool t370,.string t371] 43 (0,0)) (by (with_reducible repeat (first|refine blk_drewN ?_ _|refine blk_drew ?_|refine blk_alloc ?_ _));exact BK374.out) hb);have n2_:=Aside0.mk (blk_below (g:=gb381) (o:=.cells #[.bool false,.string (⟨#[]⟩:ByteArray)] 43 (0,0)) (by (with_reducible repeat (first|refine blk_drewN ?_ _|refine blk_drew ?_|refine blk_alloc ?_ _));exact BK381.out) hb);have n3_:=Aside0.mk (below_step (by repeat (first|(with_reducible first|exact HB.out|apply below_alloc|apply pw_below_drewN|apply below_drew1|refine below_set ?_ GE373.out|refine below_set ?_ GE374.out|refine below_set ?_ GE381.out)|exact HB.out)) hb);have n4_:=Aside0.mk (hbox);have n5_:=Aside0.mk ((by rw [hg];exact (below_size (by repeat (first|(with_reducible first|exact HB.out|apply below_alloc|apply pw_below_drewN|apply below_drew1|refine below_set ?_ GE373.out|refine below_set ?_ GE374.out|refine below_set ?_ GE381.out)|exact HB.out))):w.heap.size≤gb382));have n6_:=Aside0.mk ((by rw [hg];exact (below_size (by repeat (first|(with_reducible first|exact HB.out|apply below_alloc|apply pw_below_drewN|apply below_drew1|refine below_set ?_ GE373.out|refine below_set ?_ GE374.out|refine below_set ?_ GE381.out)|exact HB.out))):w.heap.size≤gb382));have n7_:=Aside0.mk ((by rw [hg];exact Nat.ne_of_lt (blk_lt (g:=gb373) (o:=.cells #[.bool t368,.string t369] 43 (0,0)) (by (with_reducible repeat (first|refine blk_drewN ?_ _|refine blk_drew ?_|refine blk_alloc ?_ _));exact BK373.out)):gb373≠gb382));have n8_:=Aside0.mk ((by rw [hg];exact Nat.ne_of_gt (blk_lt (g:=gb373) (o:=.cells #[.bool t368,.string t369] 43 (0,0)) (by (with_reducible repeat (first|refine blk_drewN ?_ _|refine blk_drew ?_|refine blk_alloc ?_ _));exact BK373.out)):gb382≠gb373));have n9_:=Aside0.mk ((by rw [hg];exact Nat.ne_of_lt (blk_lt (g:=gb374) (o:=.cells #[.bool t370,.string t371] 43 (0,0)) (by (with_reducible repeat (first|refine blk_drewN ?_ _|refine blk_drew ?_|refine blk_alloc ?_ _));exact BK374.out)):gb374≠gb382));have n10_:=Aside0.mk ((by rw [hg];exact Nat.ne_of_gt (blk_lt (g:=gb374) (o:=.cells #[.bool t370,.string t371] 43 (0,0)) (by (with_reducible repeat (first|refine blk_drewN ?_ _|refine blk_drew ?_|refine blk_alloc ?_ _));exact BK374.out)):gb382≠gb374));have n11_:=Aside0.mk ((by rw [hg];exact Nat.ne_of_lt (blk_lt (g:=gb381) (o:=.cells #[.bool false,.string (⟨#[]⟩:ByteArray)] 43 (0,0)) (by (with_reducible repeat (first|refine blk_drewN ?_ _|refine blk_drew ?_|refine blk_alloc ?_ _));exact BK381.out)):gb381≠gb382));have n12_:=Aside0.mk ((by rw [hg];exact Nat.ne_of_gt (blk_lt (g:=gb381) (o:=.cells #[.bool false,.string (⟨#[]⟩:ByteArray)] 43 (0,0)) (by (with_reducible repeat (first|refine blk_drewN ?_ _|refine blk_drew ?_|refine blk_alloc ?_ _));exact BK381.out)):gb382≠gb381));clear BK373;clear BK374;clear BK381;clear HB;have BK373:=n0_;have BK374:=n1_;have BK381:=n2_;have HB:=n3_;have BK382:=n4_;have GW382:=n5_;have GE382:=n6_;have NB373_382:=n7_;have NB382_373:=n8_;have NB374_382:=n9_;have NB382_374:=n10_;have NB381_382:=n11_;have NB382_381:=n12_;clear n0_ n1_ n2_ n3_ n4_ n5_ n6_ n7_ n8_ n9_ n10_ n11_ n12_;clear hb hbox hg;have hnb33:=NB381_373.out;have hnc33:=NB373_381.out;have hnb34:=NB381_374.out;have hnc34:=NB374_381.out;have hnb35:=NB381_382.out;have hnc35:=NB382_381.out;have hcz36_0:w32.cell? ⟨gb381,0,none⟩ = some (.bool false):=(blk_cell BK381.out 0).trans rfl;have hcz36_1:w32.cell? ⟨gb381,1,none⟩ = some (.string (⟨#[]⟩:ByteArray)):=(blk_cell BK381.out 1).trans rfl;have hfz36_0:=blk_frozen BK381.out 0;have hfz36_1:=blk_frozen BK381.out 1;have hnb37:=NB382_373.out;have hnc37:=NB373_382.out;have hnb38:=NB382_374.out;have hnc38:=NB374_382.out;have hcz39_0:w32.cell? ⟨gb382,0,none⟩ = some (.bool false):=(blk_cell BK382.out 0).trans rfl;have hcz39_1:w32.cell? ⟨gb382,1,none⟩ = some (.string (⟨#[]⟩:ByteArray)):=(blk_cell BK382.out 1).trans rfl;have hfz39_0:=blk_frozen BK382.out 0;have hfz39_1:=blk_frozen BK382.out 1))
   have n0_:Aside0 (((((w32.setCell ⟨gb381,0,none⟩ (.bool t377)).setCell ⟨gb381,1,none⟩ (.string t378)).setCell ⟨gb382,0,none⟩ (.bool t379)).setCell ⟨gb382,1,none⟩ (.string t380)).heap[gb373]? = some (.cells #[.bool t368,.string t369] 43 (0,0))):=⟨by (with_reducible repeat (first|refine blk_drewN ?_ _|refine blk_drew ?_|refine blk_alloc ?_ _));refine blk_far ?_ NB373_382.out _;(with_reducible repeat (first|refine blk_drewN ?_ _|refine blk_drew ?_|refine blk_alloc ?_ _));refine blk_far ?_ NB373_382.out _;(with_reducible repeat (first|refine blk_drewN ?_ _|refine blk_drew ?_|refine blk_alloc ?_ _));refine blk_far ?_ NB373_381.out _;(with_reducible repeat (first|refine blk_drewN ?_ _|refine blk_drew ?_|refine blk_alloc ?_ _));refine blk_far ?_ NB373_381.out _;(with_reducible repeat (first|refine blk_drewN ?_ _|refine blk_drew ?_|refine blk_alloc ?_ _));exact BK373.out⟩
   have n1_:Aside0 (((((w32.setCell ⟨gb381,0,none⟩ (.bool t377)).setCell ⟨gb381,1,none⟩ (.string t378)).setCell ⟨gb382,0,none⟩ (.bool t379)).setCell ⟨gb382,1,none⟩ (.string t380)).heap[gb374]? = some (.cells #[.bool t370,.string t371] 43 (0,0))):=⟨by (with_reducible repeat (first|refine blk_drewN ?_ _|refine blk_drew ?_|refine blk_alloc ?_ _));refine blk_far ?_ NB374_382.out _;(with_reducible repeat (first|refine blk_drewN ?_ _|refine blk_drew ?_|refine blk_alloc ?_ _));refine blk_far ?_ NB374_382.out _;(with_reducible repeat (first|refine blk_drewN ?_ _|refine blk_drew ?_|refine blk_alloc ?_ _));refine blk_far ?_ NB374_381.out _;(with_reducible repeat (first|refine blk_drewN ?_ _|refine blk_drew ?_|refine blk_alloc ?_ _));refine blk_far ?_ NB374_381.out _;(with_reducible repeat (first|refine blk_drewN ?_ _|refine blk_drew ?_|refine blk_alloc ?_ _));exact BK374.out⟩
   have n2_:Aside0 (((((w32.setCell ⟨gb381,0,none⟩ (.bool t377)).setCell ⟨gb381,1,none⟩ (.string t378)).setCell ⟨gb382,0,none⟩ (.bool t379)).setCell ⟨gb382,1,none⟩ (.string t380)).heap[gb381]? = some (.cells #[.bool t377,.string t378] 43 (0,0))):=⟨by (with_reducible repeat (first|refine blk_drewN ?_ _|refine blk_drew ?_|refine blk_alloc ?_ _));refine blk_far ?_ NB381_382.out _;(with_reducible repeat (first|refine blk_drewN ?_ _|refine blk_drew ?_|refine blk_alloc ?_ _));refine blk_far ?_ NB381_382.out _;(with_reducible repeat (first|refine blk_drewN ?_ _|refine blk_drew ?_|refine blk_alloc ?_ _));refine blk_put (cs:=#[.bool t377,.string (⟨#[]⟩:ByteArray)]) ?_ 1 _ rfl;(with_reducible repeat (first|refine blk_drewN ?_ _|refine blk_drew ?_|refine blk_alloc ?_ _));refine blk_put (cs:=#[.bool false,.string (⟨#[]⟩:ByteArray)]) ?_ 0 _ rfl;(with_reducible repeat (first|refine blk_drewN ?_ _|refine blk_drew ?_|refine blk_alloc ?_ _));exact BK381.out⟩
   have n3_:Aside0 (((((w32.setCell ⟨gb381,0,none⟩ (.bool t377)).setCell ⟨gb381,1,none⟩ (.string t378)).setCell ⟨gb382,0,none⟩ (.bool t379)).setCell ⟨gb382,1,none⟩ (.string t380)).heap[gb382]? = some (.cells #[.bool t379,.string t380] 43 (0,0))):=⟨by (with_reducible repeat (first|refine blk_drewN ?_ _|refine blk_drew ?_|refine blk_alloc ?_ _));refine blk_put (cs:=#[.bool t379,.string (⟨#[]⟩:ByteArray)]) ?_ 1 _ rfl;(with_reducible repeat (first|refine blk_drewN ?_ _|refine blk_drew ?_|refine blk_alloc ?_ _));refine blk_put (cs:=#[.bool false,.string (⟨#[]⟩:ByteArray)]) ?_ 0 _ rfl;(with_reducible repeat (first|refine blk_drewN ?_ _|refine blk_drew ?_|refine blk_alloc ?_ _));refine blk_far ?_ NB382_381.out _;(with_reducible repeat (first|refine blk_drewN ?_ _|refine blk_drew ?_|refine blk_alloc ?_ _));refine blk_far ?_ NB382_381.out _;(with_reducible repeat (first|refine blk_drewN ?_ _|refine blk_drew ?_|refine blk_alloc ?_ _));exact BK382.out⟩
   have n4_:Aside0 (Below w.heap.size w ((((w32.setCell ⟨gb381,0,none⟩ (.bool t377)).setCell ⟨gb381,1,none⟩ (.string t378)).setCell ⟨gb382,0,none⟩ (.bool t379)).setCell ⟨gb382,1,none⟩ (.string t380))):=⟨by repeat (first|(with_reducible first|exact HB.out|apply below_alloc|apply pw_below_drewN|apply below_drew1|refine below_set ?_ GE373.out|refine below_set ?_ GE374.out|refine below_set ?_ GE381.out|refine below_set ?_ GE382.out)|exact HB.out)⟩
   (try clear BK373)
   (try clear BK374)
   (try clear BK381)
   (try clear BK382)
   (try clear HB)
   generalize ((((w32.setCell ⟨gb381,0,none⟩ (.bool t377)).setCell ⟨gb381,1,none⟩ (.string t378)).setCell ⟨gb382,0,none⟩ (.bool t379)).setCell ⟨gb382,1,none⟩ (.string t380)) = w40 at n0_ n1_ n2_ n3_ n4_ ⊢
   have BK373:=n0_
   have BK374:=n1_
   have BK381:=n2_
   have BK382:=n3_
   have HB:=n4_
   clear n0_ n1_ n2_ n3_ n4_
   have n0_:=Aside0.mk (blk_drew BK373.out)
   have n1_:=Aside0.mk (blk_drew BK374.out)
   have n2_:=Aside0.mk (blk_drew BK381.out)
   have n3_:=Aside0.mk (blk_drew BK382.out)
   have n4_:=Aside0.mk (below_drew1 HB.out)
   clear BK373
   clear BK374
   clear BK381
   clear BK382
   clear HB
   have BK373:=n0_
   have BK374:=n1_
   have BK381:=n2_
   have BK382:=n3_
   have HB:=n4_
   clear n0_ n1_ n2_ n3_ n4_
   refine start_ (n:=7) (S:=fun w'=>w'.cell? ⟨gb381,0,none⟩ = some (.bool t377)∧w'.cell? ⟨gb381,1,none⟩ = some (.string t378)∧w'.cell? ⟨gb382,0,none⟩ = some (.bool t379)∧w'.cell? ⟨gb382,1,none⟩ = some (.string t380)) (ds:=[]) #[false,false,false,false,false,false,false] (by kernel_rfl) rfl rfl ⟨(blk_cell BK381.out 0).trans rfl,(blk_cell BK381.out 1).trans rfl,(blk_cell BK382.out 0).trans rfl,(blk_cell BK382.out 1).trans rfl⟩ (fun hHeld=>?_)
   generalize w40.drew = w41 at BK373 BK374 BK381 BK382 HB hHeld ⊢
   refine take_ (i:=0) (N:=some 33) (v:=?_) (a':=?_) #[true,false,false,false,false,false,false] rfl rfl (by kernel_rfl) (fun _ _ _ h=>h) (Or.inl ⟨by rfl,?_⟩) hHeld ?_ ?_
   rotate_left
   ·rintro w' ⟨s0,s1,s2,s3⟩
    go_simp
    with_reducible rfl
   rotate_left
   ·simp only [Act.put,List.setIfInBounds_toArray,List.set_cons_zero,List.set_cons_succ,i64_w,i32_w]
    rfl
   refine take_ (i:=2) (N:=some 35) (v:=?_) (a':=?_) #[true,false,true,false,false,false,false] rfl rfl (by kernel_rfl) (fun _ _ _ h=>h) (Or.inl ⟨by rfl,?_⟩) hHeld ?_ ?_
   rotate_left
   ·rintro w' ⟨s0,s1,s2,s3⟩
    go_simp
    with_reducible rfl
   rotate_left
   ·simp only [Act.put,List.setIfInBounds_toArray,List.set_cons_zero,List.set_cons_succ,i64_w,i32_w]
    rfl
   refine one_ (i:=1) (N:=some 34) #[true,true,true,false,false,false,false] rfl rfl (by kernel_rfl) (by decide) (fun K hK=>?_)
   refine goes_ Tryz.func46 (by kernel_rfl) rfl #[.agg #[.bool t377,.string t378]] (by rfl) rfl rfl (by (try simp only [List.map_toArray,List.map_cons,List.map_nil]);first|done|rfl|(simp only [List.length_drop,List.length_take];rfl)) ?_
   with_reducible refine (integer_number_text.calls t377 t378 t383 _ A17.out).mono ?_
   rintro e w42 ⟨rfl,hb⟩
   refine ⟨_,rfl,?_⟩
   have n0_:=Aside0.mk (blk_below (g:=gb373) (o:=.cells #[.bool t368,.string t369] 43 (0,0)) (by (with_reducible repeat (first|refine blk_drewN ?_ _|refine blk_drew ?_|refine blk_alloc ?_ _));exact BK373.out) hb)
   have n1_:=Aside0.mk (blk_below (g:=gb374) (o:=.cells #[.bool t370,.string t371] 43 (0,0)) (by (with_reducible repeat (first|refine blk_drewN ?_ _|refine blk_drew ?_|refine blk_alloc ?_ _));exact BK374.out) hb)
   have n2_:=Aside0.mk (blk_below (g:=gb381) (o:=.cells #[.bool t377,.string t378] 43 (0,0)) (by (with_reducible repeat (first|refine blk_drewN ?_ _|refine blk_drew ?_|refine blk_alloc ?_ _));exact BK381.out) hb)
   have n3_:=Aside0.mk (blk_below (g:=gb382) (o:=.cells #[.bool t379,.string t380] 43 (0,0)) (by (with_reducible repeat (first|refine blk_drewN ?_ _|refine blk_drew ?_|refine blk_alloc ?_ _));exact BK382.out) hb)
   have n4_:=Aside0.mk (below_step (by repeat (first|(with_reducible first|exact HB.out|apply below_alloc|apply pw_below_drewN|apply below_drew1|refine below_set ?_ GE373.out|refine below_set ?_ GE374.out|refine below_set ?_ GE381.out|refine below_set ?_ GE382.out)|exact HB.out)) hb)
   clear BK373
   clear BK374
   clear BK381
   clear BK382
   clear HB
   have BK373:=n0_
   have BK374:=n1_
   have BK381:=n2_
   have BK382:=n3_
   have HB:=n4_
   clear n0_ n1_ n2_ n3_ n4_
   (try clear hb)
   (try clear hb2)
   (try clear hk)
   (try clear hi)
   refine hK.out _ _ ⟨(blk_cell BK381.out 0).trans rfl,(blk_cell BK381.out 1).trans rfl,(blk_cell BK382.out 0).trans rfl,(blk_cell BK382.out 1).trans rfl⟩ (fun hHeld=>?_)
   clear hK K
   refine norm_ (a':=?_) ?_ ?_
   rotate_left
   ·show Act.put _ (some 34) _ = _
    simp only [Act.put,List.setIfInBounds_toArray,List.set_cons_zero,List.set_cons_succ,i64_w,i32_w]
    rfl
   refine one_ (i:=3) (N:=some 36) #[true,true,true,true,false,false,false] rfl rfl (by kernel_rfl) (by decide) (fun K hK=>?_)
   refine goes_ Tryz.func46 (by kernel_rfl) rfl #[.agg #[.bool t379,.string t380]] (by rfl) rfl rfl (by (try simp only [List.map_toArray,List.map_cons,List.map_nil]);first|done|rfl|(simp only [List.length_drop,List.length_take];rfl)) ?_
   with_reducible refine (integer_number_text.calls t379 t380 t384 _ A18.out).mono ?_
   rintro e w43 ⟨rfl,hb⟩
   refine ⟨_,rfl,?_⟩
   have n0_:=Aside0.mk (blk_below (g:=gb373) (o:=.cells #[.bool t368,.string t369] 43 (0,0)) (by (with_reducible repeat (first|refine blk_drewN ?_ _|refine blk_drew ?_|refine blk_alloc ?_ _));exact BK373.out) hb)
   have n1_:=Aside0.mk (blk_below (g:=gb374) (o:=.cells #[.bool t370,.string t371] 43 (0,0)) (by (with_reducible repeat (first|refine blk_drewN ?_ _|refine blk_drew ?_|refine blk_alloc ?_ _));exact BK374.out) hb)
   have n2_:=Aside0.mk (blk_below (g:=gb381) (o:=.cells #[.bool t377,.string t378] 43 (0,0)) (by (with_reducible repeat (first|refine blk_drewN ?_ _|refine blk_drew ?_|refine blk_alloc ?_ _));exact BK381.out) hb)
   have n3_:=Aside0.mk (blk_below (g:=gb382) (o:=.cells #[.bool t379,.string t380] 43 (0,0)) (by (with_reducible repeat (first|refine blk_drewN ?_ _|refine blk_drew ?_|refine blk_alloc ?_ _));exact BK382.out) hb)
   have n4_:=Aside0.mk (below_step (by repeat (first|(with_reducible first|exact HB.out|apply below_alloc|apply pw_below_drewN|apply below_drew1|refine below_set ?_ GE373.out|refine below_set ?_ GE374.out|refine below_set ?_ GE381.out|refine below_set ?_ GE382.out)|exact HB.out)) hb)
   clear BK373
   clear BK374
   clear BK381
   clear BK382
   clear HB
   have BK373:=n0_
   have BK374:=n1_
   have BK381:=n2_
   have BK382:=n3_
   have HB:=n4_
   clear n0_ n1_ n2_ n3_ n4_
   (try clear hb)
   (try clear hb2)
   (try clear hk)
   (try clear hi)
   refine hK.out _ _ ⟨(blk_cell BK381.out 0).trans rfl,(blk_cell BK381.out 1).trans rfl,(blk_cell BK382.out 0).trans rfl,(blk_cell BK382.out 1).trans rfl⟩ (fun hHeld=>?_)
   clear hK K
   refine norm_ (a':=?_) ?_ ?_
   rotate_left
   ·show Act.put _ (some 36) _ = _
    simp only [Act.put,List.setIfInBounds_toArray,List.set_cons_zero,List.set_cons_succ,i64_w,i32_w]
    rfl
   refine pure_ (i:=4) (N:=some 4) (v:=?_) (a':=?_) #[true,true,true,true,true,false,false] rfl rfl (by kernel_rfl) (fun _ _ _ h=>h) (Or.inl ⟨by rfl,?_⟩) ?_ ?_
   rotate_left
   ·intro w'
    go_simp
    with_reducible rfl
   rotate_left
   ·simp only [Act.put,List.setIfInBounds_toArray,List.set_cons_zero,List.set_cons_succ,i64_w,i32_w]
    rfl
   refine pure_ (i:=5) (N:=some 5) (v:=?_) (a':=?_) #[true,true,true,true,true,true,false] rfl rfl (by kernel_rfl) (fun _ _ _ h=>h) (Or.inl ⟨by rfl,?_⟩) ?_ ?_
   rotate_left
   ·intro w'
    go_simp
    with_reducible rfl
   rotate_left
   ·simp only [Act.put,List.setIfInBounds_toArray,List.set_cons_zero,List.set_cons_succ,i64_w,i32_w]
    rfl
   refine pure_ (i:=6) (N:=some 6) (v:=?_) (a':=?_) #[true,true,true,true,true,true,true] rfl rfl (by kernel_rfl) (fun _ _ _ h=>h) (Or.inl ⟨by rfl,?_⟩) ?_ ?_
   rotate_left
   ·intro w'
    go_simp
    with_reducible rfl
   rotate_left
   ·simp only [Act.put,List.setIfInBounds_toArray,List.set_cons_zero,List.set_cons_succ,i64_w,i32_w]
    rfl
   refine done_ (by kernel_rfl) ?_
   try go_wp2
   go_ret3
   exact ⟨by first|rfl|(simp [errW_none,errW_some]<;>rfl)|(simp [*,errW_none,errW_some]<;>rfl),by repeat (first|(with_reducible first|exact HB.out|apply below_alloc|apply pw_below_drewN|apply below_drew1|refine below_set ?_ GE373.out|refine below_set ?_ GE374.out|refine below_set ?_ GE381.out|refine below_set ?_ GE382.out)|exact HB.out)⟩
 ·rw [if_neg c4] at H
  have c4b0:(t372 == 0) = false:=beq_eq_false_iff_ne.mpr c4
  have c4b1:(t372 != 0) = true:=bne_iff_ne.mpr c4
  simp only [Option.some.injEq,Prod.mk.injEq] at H
  obtain ⟨rfl,rfl,rfl⟩:=H
  go_enter Tryz.func30,Tryz.ntmps30
  go_wp2_with (first|((with_reducible refine gate_callee (f:=51) rfl ?_);refine goesL_ (some 15) rfl rfl Tryz.func51 (by kernel_rfl) rfl #[.string a0,.string a1] rfl (by (try simp only [List.map_toArray,List.map_cons,List.map_nil]);first|done|rfl|(simp only [List.length_drop,List.length_take];rfl)) ?_;(with_reducible refine (integer_both.calls k a0 a1 t368 t369 t370 t371 t372 _ A3.out).mono ?_);rintro e w44 ⟨rfl,hb⟩;refine ⟨_,rfl,?_⟩;have n0_:=Aside0.mk (below_step (by repeat (first|(with_reducible first|exact HB.out|apply below_alloc|apply pw_below_drewN|apply below_drew1)|exact HB.out)) hb);clear HB;have HB:=n0_;clear n0_;(try clear hb);(try clear hb2);(try clear hk);(try clear hi))|((with_reducible refine gate_dst (N:=7) rfl ?_);refine box_event ?hg (N:=7) ?hd (cs:=#[.bool false,.string (⟨#[]⟩:ByteArray)]) (t:=43) ?hr ?_;(case hd=>rfl);(case hg=>rfl);(case hr=>first|(go_simp;done)|(go_simp;rfl));intro gb373 hg w45 hbox hb;have n0_:=Aside0.mk (below_step (by repeat (first|(with_reducible first|exact HB.out|apply below_alloc|apply pw_below_drewN|apply below_drew1)|exact HB.out)) hb);have n1_:=Aside0.mk (hbox);have n2_:=Aside0.mk ((by rw [hg];exact (below_size (by repeat (first|(with_reducible first|exact HB.out|apply below_alloc|apply pw_below_drewN|apply below_drew1)|exact HB.out))):w.heap.size≤gb373));have n3_:=Aside0.mk ((by rw [hg];exact (below_size (by repeat (first|(with_reducible first|exact HB.out|apply below_alloc|apply pw_below_drewN|apply below_drew1)|exact HB.out))):w.heap.size≤gb373));clear HB;have HB:=n0_;have BK373:=n1_;have GW373:=n2_;have GE373:=n3_;clear n0_ n1_ n2_ n3_;clear hb hbox hg)|((with_reducible refine gate_dst (N:=8) rfl ?_);refine box_event ?hg (N:=8) ?hd (cs:=#[.bool false,.string (⟨#[]⟩:ByteArray)]) (t:=43) ?hr ?_;(case hd=>rfl);(case hg=>rfl);(case hr=>first|(go_simp;done)|(go_simp;rfl));intro gb374 hg w46 hbox hb;have n0_:=Aside0.mk (blk_below (g:=gb373) (o:=.cells #[.bool false,.string (⟨#[]⟩:ByteArray)] 43 (0,0)) (by (with_reducible repeat (first|refine blk_drewN ?_ _|refine blk_drew ?_|refine blk_alloc ?_ _));exact BK373.out) hb);have n1_:=Aside0.mk (below_step (by repeat (first|(with_reducible first|exact HB.out|apply below_alloc|apply pw_below_drewN|apply below_drew1|refine below_set ?_ GE373.out)|exact HB.out)) hb);have n2_:=Aside0.mk (hbox);have n3_:=Aside0.mk ((by rw [hg];exact (below_size (by repeat (first|(with_reducible first|exact HB.out|apply below_alloc|apply pw_below_drewN|apply below_drew1|refine below_set ?_ GE373.out)|exact HB.out))):w.heap.size≤gb374));have n4_:=Aside0.mk ((by rw [hg];exact (below_size (by repeat (first|(with_reducible first|exact HB.out|apply below_alloc|apply pw_below_drewN|apply below_drew1|refine below_set ?_ GE373.out)|exact HB.out))):w.heap.size≤gb374));have n5_:=Aside0.mk ((by rw [hg];exact Nat.ne_of_lt (blk_lt (g:=gb373) (o:=.cells #[.bool false,.string (⟨#[]⟩:ByteArray)] 43 (0,0)) (by (with_reducible repeat (first|refine blk_drewN ?_ _|refine blk_drew ?_|refine blk_alloc ?_ _));exact BK373.out)):gb373≠gb374));have n6_:=Aside0.mk ((by rw [hg];exact Nat.ne_of_gt (blk_lt (g:=gb373) (o:=.cells #[.bool false,.string (⟨#[]⟩:ByteArray)] 43 (0,0)) (by (with_reducible repeat (first|refine blk_drewN ?_ _|refine blk_drew ?_|refine blk_alloc ?_ _));exact BK373.out)):gb374≠gb373));clear BK373;clear HB;have BK373:=n0_;have HB:=n1_;have BK374:=n2_;have GW374:=n3_;have GE374:=n4_;have NB373_374:=n5_;have NB374_373:=n6_;clear n0_ n1_ n2_ n3_ n4_ n5_ n6_;clear hb hbox hg;have hnb47:=NB373_374.out;have hnc47:=NB374_373.out;have hcz48_0:w46.cell? ⟨gb373,0,none⟩ = some (.bool false):=(blk_cell BK373.out 0).trans rfl;have hcz48_1:w46.cell? ⟨gb373,1,none⟩ = some (.string (⟨#[]⟩:ByteArray)):=(blk_cell BK373.out 1).trans rfl;have hfz48_0:=blk_frozen BK373.out 0;have hfz48_1:=blk_frozen BK373.out 1;have hcz49_0:w46.cell? ⟨gb374,0,none⟩ = some (.bool false):=(blk_cell BK374.out 0).trans rfl;have hcz49_1:w46.cell? ⟨gb374,1,none⟩ = some (.string (⟨#[]⟩:ByteArray)):=(blk_cell BK374.out 1).trans rfl;have hfz49_0:=blk_frozen BK374.out 0;have hfz49_1:=blk_frozen BK374.out 1))
  go_ret3
  exact ⟨by first|rfl|(simp [errW_none,errW_some]<;>rfl)|(simp [*,errW_none,errW_some]<;>rfl),by repeat (first|(with_reducible first|exact HB.out|apply below_alloc|apply pw_below_drewN|apply below_drew1|refine below_set ?_ GE373.out|refine below_set ?_ GE374.out)|exact HB.out)⟩
end Go.Proofs.YtaknchlegjcdhaaGreatDoor.Pr
set_option linter.unusedVariables false
set_option linter.unusedSimpArgs false
namespace Go.Proofs.YtaknchlegjcdhaaGreatDoor.Pr
open Go.RowKit Go.Lib Go.Proofs.YtaknchlegjcdhaaGreatDoorW.PrintWords Go.Proofs.YtaknchlegjcdhaaGreatDoorW.PrintLast Go.Proofs.YtaknchlegjcdhaaGreatDoorW.PrintMore Go.Proofs.YtaknchlegjcdhaaGreatDoor.NatTh
def ngB (a:ByteArray):Bool:=(bs a).head? == some 45
def abB (a:ByteArray):ByteArray:=if ngB a = true then a.extract 1 a.size else a
def iv (a:ByteArray):Bool:=nv (abB a) && (!ngB a || !((abB a).toList == ([48]:List UInt8)))
def zof (a:ByteArray):Int:=zn (ngB a) (nat (abB a))
def it (z:Int):ByteArray:=if z < 0 then (⟨#[45]⟩:ByteArray) ++ num z.natAbs else num z.natAbs
theorem one45:(⟨#[45]⟩:ByteArray).toList = ([45]:List UInt8):=toL _
theorem cut_eq (a:ByteArray):strings_CutPrefix.f a (⟨#[45]⟩:ByteArray) = some (abB a,ngB a):=by
 have hsz:=bs_length a
 have s1:((⟨#[45]⟩:ByteArray).size:Int) = 1:=rfl
 have key:stringslite_HasPrefix.f a (⟨#[45]⟩:ByteArray) = some (ngB a):=by
  unfold stringslite_HasPrefix.f
  rw [s1]
  by_cases h:(a.size:Int) ≥ 1
  ·rw [if_pos h,if_pos (by omega),if_pos (by omega),one45,toL,show ((1:Int)).toNat = 1 from rfl,bs_to]
   congr 1
   unfold ngB
   cases hb:bs a with
   | nil=>rw [hb] at hsz;simp at hsz;omega
   | cons c l =>
    simp only [List.take_succ_cons,List.take_zero,List.head?_cons]
    by_cases hc:c = 45
    ·subst hc;rfl
    ·have e1:(([c]:List UInt8) == [45]) = false:=beq_eq_false_iff_ne.2 (fun e=>hc (by simpa using e))
     have e2:((some c:Option UInt8) == some 45) = false:=beq_eq_false_iff_ne.2 (fun e=>hc (Option.some.inj e))
     rw [e1,e2]
  ·rw [if_neg h]
   have h0:bs a = []:=List.length_eq_zero_iff.1 (by omega)
   unfold ngB
   rw [h0]
   rfl
 unfold strings_CutPrefix.f stringslite_CutPrefix.f
 rw [key,Option.bind_some,s1]
 by_cases h:ngB a = true
 ·have hs:1≤(a.size:Int):=by
   unfold ngB at h
   cases hb:bs a with
   | nil=>rw [hb] at h;cases h
   | cons c l=>rw [hb] at hsz;simp at hsz;omega
  rw [if_pos h,if_pos (by omega),if_pos hs,Option.bind_some]
  unfold abB
  rw [if_pos h,h]
  rfl
 ·rw [if_neg h,Option.bind_some]
  unfold abB
  rw [if_neg h,(by simpa using h:ngB a = false)]
theorem ab_size (a:ByteArray):(abB a).size≤a.size:=by
 unfold abB
 split
 ·rw [ByteArray.size_extract];omega
 ·exact Nat.le_refl _
theorem read_ev (a:ByteArray) (hs:a.size < 1152921504606846976):Ev (fun k=>integer_read.f k a) (ngB a,abB a,iv a):=by
 have v:=Valid_ev (abB a) (Nat.lt_of_le_of_lt (ab_size a) hs)
 refine Ev.congr (f:=fun k=>(natural_Valid.f k (abB a)).bind fun t108=>(if t108 = true then (some (ngB a,abB a,(!ngB a || (!((abB a).toList == ([48]:List UInt8)))))) else (some (ngB a,abB a,false)))) (fun k=>by unfold integer_read.f;rw [cut_eq];rfl) (Ev.bind v (Ev.congr (fun k=>?_) (Ev.now _)))
 unfold iv
 cases nv (abB a) with
 | true=>rw [if_pos rfl,Bool.true_and]
 | false=>rw [if_neg (by simp),Bool.false_and]
theorem iv_nv {a:ByteArray} (h:iv a = true):nv (abB a) = true:=by
 unfold iv at h
 exact (Bool.and_eq_true_iff.1 h).1
theorem zp_zof {a:ByteArray} (h:iv a = true):zp (zof a) = (ngB a,abB a):=by
 have h1:=iv_nv h
 have h2:=num_nat h1
 have h3:(!ngB a || !((abB a).toList == ([48]:List UInt8))) = true:=by
  unfold iv at h
  exact (Bool.and_eq_true_iff.1 h).2
 unfold zp zof zn
 cases hn:ngB a with
 | false =>
  rw [if_neg (by simp),Int.natAbs_natCast,h2,decide_eq_false (by omega)]
 | true =>
  rw [hn,← h2,beq0] at h3
  have h4:nat (abB a)≠0:=by simpa using h3
  rw [if_pos rfl,Int.natAbs_neg,Int.natAbs_natCast,h2,decide_eq_true (by omega)]
theorem zn_zp (z:Int):zn (zp z).1 (nat (zp z).2) = z:=by
 unfold zp zn
 rw [nat_num]
 by_cases h:z < 0
 ·rw [if_pos (decide_eq_true h)];omega
 ·rw [if_neg (by simpa using h)];omega
theorem text_zp (z:Int) (h:(num z.natAbs).size < 9000000000000000000):integer_number_text.f (zp z).1 (zp z).2 = some (it z):=by
 unfold integer_number_text.f it zp
 by_cases hz:z < 0
 ·rw [if_pos (decide_eq_true hz),if_pos (by dsimp only;omega),if_pos hz]
 ·rw [if_neg (by simpa using hz),if_neg hz]
theorem it_zof {a:ByteArray} (h:iv a = true):it (zof a) = a:=by
 have e:=zp_zof h
 unfold zp at e
 obtain ⟨e1,e2⟩:=Prod.mk.inj e
 unfold it
 rw [e2]
 by_cases hz:zof a < 0
 ·rw [if_pos hz]
  rw [decide_eq_true hz] at e1
  apply bs_inj
  have h1:abB a = a.extract 1 a.size:=if_pos e1.symm
  rw [h1]
  have h2:bs ((⟨#[45]⟩:ByteArray) ++ a.extract 1 a.size) = [45] ++ bs (a.extract 1 a.size):=by
   unfold bs
   rw [ByteArray.data_append,Array.toList_append]
  rw [h2,bs_from]
  have h3:ngB a = true:=e1.symm
  unfold ngB at h3
  cases hb:bs a with
  | nil=>rw [hb] at h3;cases h3
  | cons c l =>
   rw [hb] at h3
   have:c = 45:=by simpa using h3
   rw [this]
   rfl
 ·rw [if_neg hz]
  rw [decide_eq_false hz] at e1
  exact if_neg (by rw [← e1];simp)
theorem head_num (n:Nat):(bs (num n)).head?≠some 45:=by
 rw [bs_num]
 intro h
 have h1:=(nml_dec n).1
 cases hb:decDigits n with
 | nil=>rw [hb] at h;cases h
 | cons c l =>
  rw [hb] at h h1
  have h2:=h1 c (by simp)
  have h3:c = 45:=by simpa using h
  subst h3
  revert h2
  unfold isDig
  decide
theorem ng_it (z:Int):ngB (it z) = decide (z < 0):=by
 unfold ngB it
 by_cases hz:z < 0
 ·rw [if_pos hz,decide_eq_true hz]
  have h2:bs ((⟨#[45]⟩:ByteArray) ++ num z.natAbs) = [45] ++ bs (num z.natAbs):=by
   unfold bs
   rw [ByteArray.data_append,Array.toList_append]
  rw [h2]
  rfl
 ·rw [if_neg hz,decide_eq_false hz]
  exact beq_eq_false_iff_ne.2 (head_num _)
theorem ab_it (z:Int):abB (it z) = num z.natAbs:=by
 have hn:=ng_it z
 unfold abB
 rw [hn]
 by_cases hz:z < 0
 ·rw [if_pos (decide_eq_true hz)]
  apply bs_inj
  rw [bs_from]
  unfold it
  rw [if_pos hz]
  have h2:bs ((⟨#[45]⟩:ByteArray) ++ num z.natAbs) = [45] ++ bs (num z.natAbs):=by
   unfold bs
   rw [ByteArray.data_append,Array.toList_append]
  rw [h2]
  rfl
 ·rw [if_neg (by simpa using hz)]
  unfold it
  rw [if_neg hz]
theorem iv_it (z:Int):iv (it z) = true:=by
 unfold iv
 rw [ab_it,ng_it,nv_num,beq0,Bool.true_and]
 by_cases hz:z < 0
 ·rw [decide_eq_true hz,decide_eq_false (by omega)];rfl
 ·rw [decide_eq_false hz];rfl
theorem zof_it (z:Int):zof (it z) = z:=by
 unfold zof
 rw [ab_it,ng_it,nat_num]
 exact (by have:=zn_zp z;unfold zp at this;rw [nat_num] at this;exact this)
theorem it_nat (n:Nat):it (n:Int) = num n:=by
 unfold it
 rw [if_neg (by omega),Int.natAbs_natCast]
theorem zpn (n:Nat):zp (n:Int) = (false,num n):=by
 unfold zp
 rw [decide_eq_false (by omega),Int.natAbs_natCast]
def Zs (e:Nat) (z:Int):Prop:=Sz e z.natAbs
theorem is_it {a:ByteArray} (h:iv a = true) (hs:a.size≤120):∃ z,a = it z∧Zs 120 z:=by
 refine ⟨zof a,(it_zof h).symm,?_⟩
 have h1:nv (abB a) = true:=iv_nv h
 obtain ⟨n,hn,h2⟩:=is_num h1 (Nat.le_trans (ab_size a) hs)
 have e:=(Prod.mk.inj (zp_zof h)).2
 rw [hn] at e
 unfold Zs
 rw [show (zof a).natAbs = n from num_inj e]
 exact h2
theorem Zs.mono {e f:Nat} {z:Int} (h:Zs e z) (hf:e≤f):Zs f z:=Sz.mono h hf
theorem Zs.le {e:Nat} {y z:Int} (h:Zs e z) (hm:y.natAbs≤z.natAbs):Zs e y:=Sz.le h hm
theorem Zs.neg {e:Nat} {z:Int} (h:Zs e z):Zs e (-z):=h.le (by omega)
theorem Zs.add {e:Nat} {y z:Int} (hy:Zs e y) (hz:Zs e z):Zs (e + 1) (y + z):=(Sz.add hy hz).le (by omega)
theorem Zs.mul {e f:Nat} {y z:Int} (hy:Zs e y) (hz:Zs f z):Zs (e + f) (y * z):=(Sz.mul hy hz).le (by rw [Int.natAbs_mul];exact Nat.le_refl _)
theorem Zs.sh {e:Nat} {z:Int} (h:Zs e z) (he:1≤e) (h2:e≤100000):Sh (num z.natAbs):=Sz.sh h he h2
theorem Zs.txt {e:Nat} {z:Int} (h:Zs e z) (he:1≤e) (h2:e≤100000):integer_number_text.f (zp z).1 (zp z).2 = some (it z):=text_zp z (by have:=sz_size he h;omega)
theorem opp_eq (z:Int):integer_number_opposite.f (zp z).1 (zp z).2 = some (zp (-z)):=by
 unfold integer_number_opposite.f
 have:integer_with.f (!(zp z).1) (zp z).2 = some (zp (-z)):=by
  unfold zp
  dsimp only
  rw [with_eq]
  have:zn (!decide (z < 0)) z.natAbs = -z:=by
   unfold zn
   by_cases hz:z < 0
   ·rw [decide_eq_true hz,if_neg (by simp)];omega
   ·rw [decide_eq_false hz,if_pos (by rfl)];omega
  rw [this]
  rfl
 rw [this]
 rfl
theorem sign_eq (z:Int):integer_number_sign.f (zp z).1 (zp z).2 = some z.sign:=by
 unfold integer_number_sign.f integer_zero.f zp
 rw [Option.bind_some]
 dsimp only
 rw [show (⟨#[48]⟩:ByteArray).toList = ([48]:List UInt8) from toL _,beq0]
 rcases Int.lt_trichotomy z 0 with h|h|h
 ·rw [if_neg (by simp [h]),if_pos (decide_eq_true h),Int.sign_eq_neg_one_of_neg h]
 ·subst h;rfl
 ·rw [if_neg (by simp;omega),if_neg (by simp;omega),Int.sign_eq_one_of_pos h]
theorem plus_eq2 {e:Nat} {y z:Int} (hy:Zs e y) (hz:Zs e z) (he:1≤e) (h2:e≤100000):integer_number_plus.f (zp y).1 (zp y).2 (zp z).1 (zp z).2 = some (zp (y + z)):=by
 unfold integer_number_plus.f
 have e1:nv (zp y).2 = true:=nv_num _
 have e2:nv (zp z).2 = true:=nv_num _
 rw [if_pos ⟨by rw [e1,e2];rfl,hy.sh he h2,hz.sh he h2⟩,zn_zp,zn_zp]
theorem times_eq {e:Nat} {y z:Int} (hy:Zs e y) (hz:Zs e z) (he:1≤e) (h2:e≤100000):integer_number_times.f (zp y).1 (zp y).2 (zp z).1 (zp z).2 = some (zp (y * z)):=by
 unfold integer_number_times.f
 have e0:natural_Mul.f (zp y).2 (zp z).2 = some (num (y.natAbs * z.natAbs),0):=mul_f (hy.sh he h2) (hz.sh he h2)
 rw [e0,Option.bind_some]
 dsimp only
 rw [with_eq,Option.bind_some]
 have:zn ((zp y).1 != (zp z).1) (y.natAbs * z.natAbs) = y * z:=by
  unfold zp zn
  dsimp only
  rw [Int.natCast_mul]
  by_cases h1:y < 0
  ·have a1:(y.natAbs:Int) = -y:=by omega
   by_cases h3:z < 0
   ·have a2:(z.natAbs:Int) = -z:=by omega
    rw [decide_eq_true h1,decide_eq_true h3,if_neg (by simp),a1,a2,Int.neg_mul_neg]
   ·have a2:(z.natAbs:Int) = z:=by omega
    rw [decide_eq_true h1,decide_eq_false h3,if_pos (by rfl),a1,a2,Int.neg_mul,Int.neg_neg]
  ·have a1:(y.natAbs:Int) = y:=by omega
   by_cases h3:z < 0
   ·have a2:(z.natAbs:Int) = -z:=by omega
    rw [decide_eq_false h1,decide_eq_true h3,if_pos (by rfl),a1,a2,Int.mul_neg,Int.neg_neg]
   ·have a2:(z.natAbs:Int) = z:=by omega
    rw [decide_eq_false h1,decide_eq_false h3,if_neg (by simp),a1,a2]
 rw [this]
theorem div_zn {y z:Int} (hz:z≠0):(if y < 0∧y.natAbs % z.natAbs≠0 then (zn (decide (y < 0) != decide (z < 0)) (y.natAbs / z.natAbs + 1),((z.natAbs - y.natAbs % z.natAbs:Nat):Int)) else (zn (decide (y < 0) != decide (z < 0)) (y.natAbs / z.natAbs),((y.natAbs % z.natAbs:Nat):Int))) = (y / z,y % z):=by
 have hb:0 < z.natAbs:=by omega
 have key:=Nat.div_add_mod y.natAbs z.natAbs
 have hlt:=Nat.mod_lt y.natAbs hb
 generalize hq:y.natAbs / z.natAbs = q at *
 generalize hr:y.natAbs % z.natAbs = r at *
 have key':(z.natAbs:Int) * (q:Int) + (r:Int) = (y.natAbs:Int):=by rw [← key];simp
 have uniq:∀ Q R:Int,y = z * Q + R→0≤R→R < (z.natAbs:Int)→(Q,R) = (y / z,y % z):=fun Q R h1 h2 h3=>by
  have hmod:y % z = R:=by
   rw [h1,Int.add_comm,Int.add_mul_emod_self_left]
   rcases Int.lt_or_gt_of_ne hz with h|h
   ·rw [← Int.emod_neg]
    exact Int.emod_eq_of_lt h2 (by omega)
   ·exact Int.emod_eq_of_lt h2 (by omega)
  have hdiv:y / z = Q:=by
   rw [h1,Int.add_comm,Int.add_mul_ediv_left _ _ hz]
   have:R / z = 0:=by
    rcases Int.lt_or_gt_of_ne hz with h|h
    ·have h4:R / -z = 0:=Int.ediv_eq_zero_of_lt h2 (by omega)
     rw [Int.ediv_neg] at h4
     omega
    ·exact Int.ediv_eq_zero_of_lt h2 (by omega)
   rw [this];omega
  rw [hmod,hdiv]
 have hsz:(z.natAbs:Int) = z ∨ (z.natAbs:Int) = -z:=by omega
 split
 ·rename_i h
  obtain ⟨h1,h2⟩:=h
  refine uniq _ _ ?_ (by omega) (by omega)
  have a1:(y.natAbs:Int) = -y:=by omega
  rw [a1] at key'
  unfold zn
  have hsub:((z.natAbs - r:Nat):Int) = (z.natAbs:Int) - r:=by omega
  rw [hsub]
  by_cases h3:z < 0
  ·have a2:(z.natAbs:Int) = -z:=by omega
   rw [a2] at key' ⊢
   rw [decide_eq_true h1,decide_eq_true h3,if_neg (by simp)]
   rw [Int.natCast_add,Int.mul_add,Int.natCast_one,Int.mul_one]
   rw [Int.neg_mul] at key'
   omega
  ·have a2:(z.natAbs:Int) = z:=by omega
   rw [a2] at key' ⊢
   rw [decide_eq_true h1,decide_eq_false h3,if_pos (by rfl)]
   rw [Int.natCast_add,Int.mul_neg,Int.mul_add,Int.natCast_one,Int.mul_one]
   omega
 ·rename_i h
  refine uniq _ _ ?_ (by omega) (by omega)
  unfold zn
  by_cases h1:y < 0
  ·have h2:r = 0:=by
    by_cases h2:r = 0
    ·exact h2
    ·exact absurd ⟨h1,h2⟩ h
   have a1:(y.natAbs:Int) = -y:=by omega
   rw [a1] at key'
   by_cases h3:z < 0
   ·have a2:(z.natAbs:Int) = -z:=by omega
    rw [a2] at key'
    rw [decide_eq_true h1,decide_eq_true h3,if_neg (by simp)]
    rw [Int.neg_mul] at key'
    omega
   ·have a2:(z.natAbs:Int) = z:=by omega
    rw [a2] at key'
    rw [decide_eq_true h1,decide_eq_false h3,if_pos (by rfl),Int.mul_neg]
    omega
  ·have a1:(y.natAbs:Int) = y:=by omega
   rw [a1] at key'
   by_cases h3:z < 0
   ·have a2:(z.natAbs:Int) = -z:=by omega
    rw [a2] at key'
    rw [decide_eq_false h1,decide_eq_true h3,if_pos (by rfl),Int.mul_neg]
    rw [Int.neg_mul] at key'
    omega
   ·have a2:(z.natAbs:Int) = z:=by omega
    rw [a2] at key'
    rw [decide_eq_false h1,decide_eq_false h3,if_neg (by simp)]
    omega
end Go.Proofs.YtaknchlegjcdhaaGreatDoor.Pr
set_option linter.unusedVariables false
set_option linter.unusedSimpArgs false
namespace Go.Proofs.YtaknchlegjcdhaaGreatDoor.Pr
open Go.RowKit Go.Lib Go.Proofs.YtaknchlegjcdhaaGreatDoorW.PrintWords Go.Proofs.YtaknchlegjcdhaaGreatDoorW.PrintLast Go.Proofs.YtaknchlegjcdhaaGreatDoorW.PrintMore Go.Proofs.YtaknchlegjcdhaaGreatDoor.NatTh
theorem zp_fst (z:Int):(zp z).1 = decide (z < 0):=rfl
theorem zp_snd (z:Int):(zp z).2 = num z.natAbs:=rfl
theorem divide_ev {e:Nat} {y z:Int} (hy:Zs e y) (hz:Zs e z) (he:1≤e) (h2:e≤90000) (h0:z≠0) :
  Ev (fun k=>integer_number_divide.f k (zp y).1 (zp y).2 (zp z).1 (zp z).2) ((zp (y / z)).1,(zp (y / z)).2,(zp (y % z)).1,(zp (y % z)).2):=by
 have d:=div_e (hy.sh he (by omega)) (hz.sh he (by omega))
 rw [if_neg (by omega:z.natAbs≠0)] at d
 have key:=div_zn (y:=y) h0
 have hq:Zs e ((y.natAbs / z.natAbs:Nat):Int):=hy.le (by rw [Int.natAbs_natCast];exact Nat.div_le_self _ _)
 have hr:Zs e ((y.natAbs % z.natAbs:Nat):Int):=hy.le (by rw [Int.natAbs_natCast];exact Nat.mod_le _ _)
 have sq:=hq.sh he (by omega)
 have sr:=hr.sh he (by omega)
 rw [Int.natAbs_natCast] at sq sr
 have s1:Sh (num 1):=Sz.sh (e:=1) (by unfold Sz;omega) (by omega) (by omega)
 have hlt:=Nat.mod_lt y.natAbs (by omega:0 < z.natAbs)
 have fin:∀ b:Bool,Ev (fun k=>integer_number_divide.j0 k (num (y.natAbs / z.natAbs)) (num (y.natAbs % z.natAbs)) b (zp y).1 (zp y).2 (zp z).1 (zp z).2)
   (if b = true then ((zp (zn (decide (y < 0) != decide (z < 0)) (y.natAbs / z.natAbs + 1))).1,(zp (zn (decide (y < 0) != decide (z < 0)) (y.natAbs / z.natAbs + 1))).2,(zp ((z.natAbs - y.natAbs % z.natAbs:Nat):Int)).1,(zp ((z.natAbs - y.natAbs % z.natAbs:Nat):Int)).2)
    else ((zp (zn (decide (y < 0) != decide (z < 0)) (y.natAbs / z.natAbs))).1,(zp (zn (decide (y < 0) != decide (z < 0)) (y.natAbs / z.natAbs))).2,(zp ((y.natAbs % z.natAbs:Nat):Int)).1,(zp ((y.natAbs % z.natAbs:Nat):Int)).2)):=fun b=>by
  refine Ev.step (f:=fun _=>some _) (fun k=>?_) (Ev.now _)
  rw [integer_number_divide.j0]
  cases b with
  | true =>
   rw [if_pos rfl,if_pos rfl,str1,add_f sq s1,Option.bind_some,zp_snd z,sub_f (hz.sh he (by omega)) sr,if_neg (by omega),Option.bind_some]
   dsimp only
   rw [zp_fst,zp_fst,with_eq,Option.bind_some,with_eq,Option.bind_some]
   rfl
  | false =>
   rw [if_neg (by simp),if_neg (by simp),zp_fst,zp_fst,with_eq,Option.bind_some,with_eq,Option.bind_some]
   rfl
 refine Ev.congr (fun k=>rfl) (Ev.bind d ?_)
 dsimp only
 by_cases hy0:y < 0
 ·have e1:∀ k,(if (zp y).1 = true then (integer_number_divide.j0 k (num (y.natAbs / z.natAbs)) (num (y.natAbs % z.natAbs)) ((num (y.natAbs % z.natAbs)).toList != ([48]:List UInt8)) (zp y).1 (zp y).2 (zp z).1 (zp z).2) else (integer_number_divide.j0 k (num (y.natAbs / z.natAbs)) (num (y.natAbs % z.natAbs)) false (zp y).1 (zp y).2 (zp z).1 (zp z).2)) = _:=fun k=>if_pos (decide_eq_true hy0)
  refine Ev.congr e1 ?_
  have e2:((num (y.natAbs % z.natAbs)).toList != ([48]:List UInt8)) = decide (y.natAbs % z.natAbs≠0):=by
   rw [bne,beq0]
   by_cases h:y.natAbs % z.natAbs = 0
   ·rw [decide_eq_true h,decide_eq_false (by omega)];rfl
   ·rw [decide_eq_false h,decide_eq_true h];rfl
  rw [e2]
  have f:=fin (decide (y.natAbs % z.natAbs≠0))
  by_cases h:y.natAbs % z.natAbs = 0
  ·rw [if_neg (by rintro ⟨_,h3⟩;exact h3 h)] at key
   obtain ⟨k1,k2⟩:=Prod.mk.inj key
   rw [if_neg (by simp [h]),k1,k2] at f
   exact f
  ·rw [if_pos ⟨hy0,h⟩] at key
   obtain ⟨k1,k2⟩:=Prod.mk.inj key
   rw [if_pos (decide_eq_true h),k1,k2] at f
   exact f
 ·have e1:∀ k,(if (zp y).1 = true then (integer_number_divide.j0 k (num (y.natAbs / z.natAbs)) (num (y.natAbs % z.natAbs)) ((num (y.natAbs % z.natAbs)).toList != ([48]:List UInt8)) (zp y).1 (zp y).2 (zp z).1 (zp z).2) else (integer_number_divide.j0 k (num (y.natAbs / z.natAbs)) (num (y.natAbs % z.natAbs)) false (zp y).1 (zp y).2 (zp z).1 (zp z).2)) = _:=fun k=>if_neg (by rw [zp_fst];simpa using hy0)
  refine Ev.congr e1 ?_
  have f:=fin false
  rw [if_neg (by rintro ⟨h3,_⟩;exact hy0 h3)] at key
  obtain ⟨k1,k2⟩:=Prod.mk.inj key
  rw [if_neg (by simp),k1,k2] at f
  exact f
def S1 (a:ByteArray):Prop:=a.size≤1000
def okB (a b:ByteArray):Bool:=iv a && iv b
def bothZ (a b:ByteArray):Bool × ByteArray × Bool × ByteArray × Int:=if okB a b = true then ((zp (zof a)).1,(zp (zof a)).2,(zp (zof b)).1,(zp (zof b)).2,0) else (false,(⟨#[48]⟩:ByteArray),false,(⟨#[48]⟩:ByteArray),1)
theorem iboth_ev (a b:ByteArray) (ha:S1 a) (hb:S1 b):Ev (fun k=>integer_both.f k a b) (bothZ a b):=by
 unfold S1 at ha hb
 have ra:=read_ev a (by omega)
 have rb:=read_ev b (by omega)
 unfold bothZ okB
 refine Ev.congr (fun k=>rfl) (Ev.bind ra (Ev.bind rb ?_))
 dsimp only
 cases h1:iv a with
 | false =>
  rw [Bool.false_and,if_neg (by simp)]
  refine Ev.congr (fun k=>if_neg (by simp)) (Ev.step (f:=fun _=>some _) (fun k=>?_) (Ev.now _))
  rw [integer_both.j0,if_pos rfl]
  rfl
 | true =>
  refine Ev.congr (fun k=>if_pos rfl) ?_
  rw [Bool.true_and]
  cases h2:iv b with
  | false =>
   rw [if_neg (by simp)]
   refine Ev.step (f:=fun _=>some _) (fun k=>?_) (Ev.now _)
   rw [integer_both.j0,if_pos (by rfl)]
   rfl
  | true =>
   rw [if_pos rfl,zp_zof h1,zp_zof h2]
   refine Ev.step (f:=fun _=>some _) (fun k=>?_) (Ev.now _)
   rw [integer_both.j0,if_neg (by simp)]
theorem zs_of {a:ByteArray} {d:Nat} (h:iv a = true) (hs:a.size ≤ d):Zs d (zof a):=by
 have h1:nv (abB a) = true:=iv_nv h
 have e:=(Prod.mk.inj (zp_zof h)).2
 have h2:=pv_lt (bs (abB a)) ((nv_iff _).1 h1).1
 rw [bs_length] at h2
 have h3:(zof a).natAbs = nat (abB a):=num_inj (by rw [e,num_nat h1])
 unfold Zs Sz
 rw [h3]
 exact Nat.lt_of_lt_of_le h2 (Nat.pow_le_pow_right (by omega) (Nat.le_trans (ab_size a) hs))
theorem zs_zof {a:ByteArray} (h:iv a = true) (hs:S1 a):Zs 1000 (zof a):=zs_of h hs
def addZ (a b:ByteArray):ByteArray × Int:=if okB a b = true then (it (zof a + zof b),0) else (⟨#[]⟩,1)
def subZ (a b:ByteArray):ByteArray × Int:=if okB a b = true then (it (zof a - zof b),0) else (⟨#[]⟩,1)
def mulZ (a b:ByteArray):ByteArray × Int:=if okB a b = true then (it (zof a * zof b),0) else (⟨#[]⟩,1)
def cmpZ (a b:ByteArray):Int × Int:=if okB a b = true then ((zof a - zof b).sign,0) else (0,1)
def divZ (a b:ByteArray):ByteArray × ByteArray × Int:=if okB a b = true then (if zof b = 0 then (⟨#[]⟩,⟨#[]⟩,16) else (it (zof a / zof b),it (zof a % zof b),0)) else (⟨#[]⟩,⟨#[]⟩,1)
def signZ (a:ByteArray):Int × Int:=if iv a = true then ((zof a).sign,0) else (0,1)
def absZ (a:ByteArray):ByteArray × Int:=if iv a = true then (num (zof a).natAbs,0) else (⟨#[]⟩,1)
def negZ (a:ByteArray):ByteArray × Int:=if iv a = true then (it (-zof a),0) else (⟨#[]⟩,1)
theorem ok_and {a b:ByteArray} (h:okB a b = true):iv a = true∧iv b = true:=Bool.and_eq_true_iff.1 h
theorem zAdd_ev (a b:ByteArray) (ha:S1 a) (hb:S1 b):Ev (fun k=>integer_Add.f k a b) (addZ a b):=by
 refine Ev.congr (fun k=>rfl) (Ev.bind (iboth_ev a b ha hb) ?_)
 unfold addZ bothZ
 by_cases h:okB a b = true
 ·obtain ⟨h1,h2⟩:=ok_and h
  have z1:=zs_zof h1 ha
  have z2:=zs_zof h2 hb
  rw [if_pos h,if_pos h]
  refine Ev.congr (fun k=>?_) (Ev.now _)
  rw [if_pos rfl,plus_eq2 z1 z2 (by omega) (by omega),Option.bind_some,(z1.add z2).txt (by omega) (by omega),Option.bind_some]
 ·rw [if_neg h,if_neg h]
  exact Ev.congr (fun k=>if_neg (by simp)) (Ev.now _)
theorem zSub_ev (a b:ByteArray) (ha:S1 a) (hb:S1 b):Ev (fun k=>integer_Sub.f k a b) (subZ a b):=by
 refine Ev.congr (fun k=>rfl) (Ev.bind (iboth_ev a b ha hb) ?_)
 unfold subZ bothZ
 by_cases h:okB a b = true
 ·obtain ⟨h1,h2⟩:=ok_and h
  have z1:=zs_zof h1 ha
  have z2:=(zs_zof h2 hb).neg
  rw [if_pos h,if_pos h]
  refine Ev.congr (fun k=>?_) (Ev.now _)
  rw [if_pos rfl,opp_eq,Option.bind_some,plus_eq2 z1 z2 (by omega) (by omega),Option.bind_some,(z1.add z2).txt (by omega) (by omega),Option.bind_some,Int.sub_eq_add_neg]
 ·rw [if_neg h,if_neg h]
  exact Ev.congr (fun k=>if_neg (by simp)) (Ev.now _)
theorem zMul_ev (a b:ByteArray) (ha:S1 a) (hb:S1 b):Ev (fun k=>integer_Mul.f k a b) (mulZ a b):=by
 refine Ev.congr (fun k=>rfl) (Ev.bind (iboth_ev a b ha hb) ?_)
 unfold mulZ bothZ
 by_cases h:okB a b = true
 ·obtain ⟨h1,h2⟩:=ok_and h
  have z1:=zs_zof h1 ha
  have z2:=zs_zof h2 hb
  rw [if_pos h,if_pos h]
  refine Ev.congr (fun k=>?_) (Ev.now _)
  rw [if_pos rfl,times_eq z1 z2 (by omega) (by omega),Option.bind_some,(z1.mul z2).txt (by omega) (by omega),Option.bind_some]
 ·rw [if_neg h,if_neg h]
  exact Ev.congr (fun k=>if_neg (by simp)) (Ev.now _)
theorem zCompare_ev (a b:ByteArray) (ha:S1 a) (hb:S1 b):Ev (fun k=>integer_Compare.f k a b) (cmpZ a b):=by
 refine Ev.congr (fun k=>rfl) (Ev.bind (iboth_ev a b ha hb) ?_)
 unfold cmpZ bothZ
 by_cases h:okB a b = true
 ·obtain ⟨h1,h2⟩:=ok_and h
  have z1:=zs_zof h1 ha
  have z2:=(zs_zof h2 hb).neg
  rw [if_pos h,if_pos h]
  refine Ev.congr (fun k=>?_) (Ev.now _)
  rw [opp_eq,Option.bind_some,plus_eq2 z1 z2 (by omega) (by omega),Option.bind_some,sign_eq,Option.bind_some,Int.sub_eq_add_neg]
 ·rw [if_neg h,if_neg h]
  have z0:Zs 1 0:=by unfold Zs Sz;decide
  refine Ev.congr (fun k=>?_) (Ev.now _)
  have e2:(⟨#[48]⟩:ByteArray) = (zp 0).2:=by rw [str0];rfl
  dsimp only
  rw [show false = (zp 0).1 from rfl,e2,opp_eq,Option.bind_some,plus_eq2 z0 (z0.neg) (by omega) (by omega),Option.bind_some,sign_eq,Option.bind_some]
  rfl
theorem zDivMod_ev (a b:ByteArray) (ha:S1 a) (hb:S1 b):Ev (fun k=>integer_DivMod.f k a b) (divZ a b):=by
 refine Ev.congr (fun k=>rfl) (Ev.bind (iboth_ev a b ha hb) ?_)
 unfold divZ bothZ
 by_cases h:okB a b = true
 ·obtain ⟨h1,h2⟩:=ok_and h
  have z1:=zs_zof h1 ha
  have z2:=zs_zof h2 hb
  rw [if_pos h,if_pos h]
  refine Ev.congr (fun k=>(if_pos rfl).trans (Option.bind_some _ _)) ?_
  have c0:((zp (zof b)).1 == false && ((zp (zof b)).2.toList == (⟨#[48]⟩:ByteArray).toList)) = decide (zof b = 0):=by
   rw [show (⟨#[48]⟩:ByteArray).toList = ([48]:List UInt8) from toL _,zp_snd,beq0,zp_fst]
   by_cases h0:zof b = 0
   ·rw [h0];rfl
   ·rw [decide_eq_false h0,decide_eq_false (by omega:¬ (zof b).natAbs = 0),Bool.and_false]
  dsimp only
  by_cases h0:zof b = 0
  ·rw [if_pos h0]
   exact Ev.congr (fun k=>if_pos (by rw [c0,h0];rfl)) (Ev.now _)
  ·rw [if_neg h0]
   have zq:Zs 1000 (zof a / zof b):=by
    refine z1.le ?_
    exact Int.natAbs_ediv_le_natAbs _ _
   have zr:Zs 1000 (zof a % zof b):=by
    refine z2.le ?_
    have h5:=Int.emod_nonneg (zof a) h0
    have h6:=Int.emod_lt (zof a) h0
    omega
   refine Ev.congr (fun k=>if_neg (by rw [c0,decide_eq_false h0];simp)) (Ev.bind (divide_ev z1 z2 (by omega) (by omega) h0) (Ev.congr (fun k=>?_) (Ev.now _)))
   rw [zq.txt (by omega) (by omega),Option.bind_some,zr.txt (by omega) (by omega),Option.bind_some]
 ·rw [if_neg h,if_neg h]
  exact Ev.congr (fun k=>if_neg (by simp)) (Ev.now _)
theorem iv0:iv (⟨#[48]⟩:ByteArray) = true:=by rw [str0,← it_nat];exact iv_it _
theorem ione_ev (a:ByteArray) (ha:S1 a):Ev (fun k=>integer_one.f k a) (if iv a = true then ((zp (zof a)).1,(zp (zof a)).2,0) else (false,(⟨#[48]⟩:ByteArray),1)):=by
 refine Ev.congr (fun k=>rfl) (Ev.bind (iboth_ev a (⟨#[48]⟩:ByteArray) ha (show (1:Nat)≤1000 by omega)) ?_)
 unfold bothZ okB
 rw [iv0,Bool.and_true]
 by_cases h:iv a = true
 ·rw [if_pos h,if_pos h];exact Ev.now _
 ·rw [if_neg h,if_neg h];exact Ev.now _
theorem zSign_ev (a:ByteArray) (ha:S1 a):Ev (fun k=>integer_Sign.f k a) (signZ a):=by
 refine Ev.congr (fun k=>rfl) (Ev.bind (ione_ev a ha) ?_)
 unfold signZ
 by_cases h:iv a = true
 ·rw [if_pos h,if_pos h]
  refine Ev.congr (fun k=>?_) (Ev.now _)
  rw [sign_eq,Option.bind_some]
 ·rw [if_neg h,if_neg h]
  have e2:(⟨#[48]⟩:ByteArray) = (zp 0).2:=by rw [str0];rfl
  refine Ev.congr (fun k=>?_) (Ev.now _)
  dsimp only
  rw [show false = (zp 0).1 from rfl,e2,sign_eq,Option.bind_some]
  rfl
theorem zAbs_ev (a:ByteArray) (ha:S1 a):Ev (fun k=>integer_Abs.f k a) (absZ a):=by
 refine Ev.congr (fun k=>rfl) (Ev.bind (ione_ev a ha) ?_)
 unfold absZ
 by_cases h:iv a = true
 ·rw [if_pos h,if_pos h]
  exact Ev.congr (fun k=>if_pos rfl) (Ev.now _)
 ·rw [if_neg h,if_neg h]
  exact Ev.congr (fun k=>if_neg (by simp)) (Ev.now _)
theorem zNeg_ev (a:ByteArray) (ha:S1 a):Ev (fun k=>integer_Neg.f k a) (negZ a):=by
 refine Ev.congr (fun k=>rfl) (Ev.bind (ione_ev a ha) ?_)
 unfold negZ
 by_cases h:iv a = true
 ·have z1:=(zs_zof h ha).neg
  rw [if_pos h,if_pos h]
  refine Ev.congr (fun k=>?_) (Ev.now _)
  rw [if_pos rfl,opp_eq,Option.bind_some,z1.txt (by omega) (by omega),Option.bind_some]
 ·rw [if_neg h,if_neg h]
  exact Ev.congr (fun k=>if_neg (by simp)) (Ev.now _)
theorem zValid_ev (a:ByteArray) (ha:S1 a):Ev (fun k=>integer_Valid.f k a) (iv a):=Ev.congr (fun k=>rfl) (Ev.bind (read_ev a (by unfold S1 at ha;omega)) (Ev.now _))
end Go.Proofs.YtaknchlegjcdhaaGreatDoor.Pr
set_option linter.unusedVariables false
set_option linter.unusedSimpArgs false
namespace Go.Proofs.YtaknchlegjcdhaaGreatDoor.Pr
open Go.RowKit Go.Lib Go.Proofs.YtaknchlegjcdhaaGreatDoorW.PrintWords Go.Proofs.YtaknchlegjcdhaaGreatDoorW.PrintLast Go.Proofs.YtaknchlegjcdhaaGreatDoorW.PrintMore
abbrev Ent:=Nat × Nat × Bool × ByteArray
structure Lies (w0 w:World) (E:List Ent):Prop where
 at_:∀ e ∈ E,w.heap[e.2.1]? = some (.cells #[.bool e.2.2.1,.string e.2.2.2] 43 (0,0))
 ge:∀ e ∈ E,w0.heap.size≤e.2.1
 one:∀ e ∈ E,∀ d ∈ E,e.1 = d.1 ∨ e.2.1 = d.2.1→e = d
 bel:Below w0.heap.size w0 w
theorem Lies.nil (w:World):Lies w w []:=⟨fun e h=>by simp at h,fun e h=>by simp at h,fun e h=>by simp at h,Below.refl _ _⟩
theorem Lies.step {w0 w w':World} {E:List Ent} (h:Lies w0 w E) (hb:Below w.heap.size w w'):Lies w0 w' E :=
 ⟨fun e he=>blk_below (h.at_ e he) hb,h.ge,h.one,below_step h.bel hb⟩
theorem Lies.drew {w0 w:World} {E:List Ent} (h:Lies w0 w E):Lies w0 w.drew E:=h.step (below_drew1 (Below.refl _ _))
theorem Lies.sub {w0 w:World} {E D:List Ent} (h:Lies w0 w E) (hd:∀ e ∈ D,e ∈ E):Lies w0 w D :=
 ⟨fun e he=>h.at_ e (hd e he),fun e he=>h.ge e (hd e he),fun e he d hd'=>h.one e (hd e he) d (hd d hd'),h.bel⟩
theorem Lies.alloc {w0 w w':World} {E:List Ent} (h:Lies w0 w E) (k g:Nat) (hk:∀ e ∈ E,e.1≠k) (hg:g = w.heap.size) (hbox:w'.heap[g]? = some (.cells #[.bool false,.string ⟨#[]⟩] 43 (0,0))) (hb:Below w.heap.size w w') :
  Lies w0 w' ((k,g,false,⟨#[]⟩) :: E):=by
 have hs:=h.step hb
 refine ⟨fun e he=>?_,fun e he=>?_,fun e he d hd hed=>?_,hs.bel⟩
 ·rcases List.mem_cons.1 he with rfl|he
  ·exact hbox
  ·exact hs.at_ e he
 ·rcases List.mem_cons.1 he with rfl|he
  ·rw [hg]
   exact below_size h.bel
  ·exact h.ge e he
 ·rcases List.mem_cons.1 he with rfl|he
  ·rcases List.mem_cons.1 hd with rfl|hd
   ·rfl
   ·rcases hed with h1|h1
    ·exact absurd h1.symm (hk d hd)
    ·have:=blk_lt (h.at_ d hd)
     simp only at h1
     omega
  ·rcases List.mem_cons.1 hd with rfl|hd
   ·rcases hed with h1|h1
    ·exact absurd h1 (hk e he)
    ·have:=blk_lt (h.at_ e he)
     simp only at h1
     omega
   ·exact h.one e he d hd hed
def upd (E:List Ent) (k:Nat) (b:Bool) (s:ByteArray):List Ent:=E.map fun e=>if e.1 = k then (e.1,e.2.1,b,s) else e
theorem upd_mem {E:List Ent} {k g:Nat} {b0:Bool} {s0:ByteArray} (h:(k,g,b0,s0) ∈ E) (b:Bool) (s:ByteArray):(k,g,b,s) ∈ upd E k b s:=List.mem_map.2 ⟨_,h,by rw [if_pos rfl]⟩
theorem upd_mem_ne {E:List Ent} {e:Ent} (h:e ∈ E) {k:Nat} (hk:e.1≠k) (b:Bool) (s:ByteArray):e ∈ upd E k b s:=List.mem_map.2 ⟨_,h,by rw [if_neg hk]⟩
theorem Lies.stored {w0 w w':World} {E:List Ent} (h:Lies w0 w E) {k g:Nat} {b0:Bool} {s0:ByteArray} (hm:(k,g,b0,s0) ∈ E) (b:Bool) (s:ByteArray)
  (hn:w'.heap[g]? = some (.cells #[.bool b,.string s] 43 (0,0))) (ho:∀ i,i < w.heap.size→i≠g→w'.heap[i]? = w.heap[i]?) (hb:Below w0.heap.size w0 w'):Lies w0 w' (upd E k b s):=by
 refine ⟨fun e he=>?_,fun e he=>?_,fun e he d hd hed=>?_,hb⟩
 ·obtain ⟨d,hd,rfl⟩:=List.mem_map.1 he
  by_cases hk:d.1 = k
  ·have:=h.one d hd _ hm (.inl hk)
   subst this
   rw [if_pos rfl]
   exact hn
  ·rw [if_neg hk]
   refine (ho _ (blk_lt (h.at_ d hd)) (fun hg=>hk ?_)).trans (h.at_ d hd)
   rw [h.one d hd _ hm (.inr hg)]
 ·obtain ⟨d,hd,rfl⟩:=List.mem_map.1 he
  split
  ·exact h.ge d hd
  ·exact h.ge d hd
 ·obtain ⟨e1,he1,rfl⟩:=List.mem_map.1 he
  obtain ⟨d1,hd1,rfl⟩:=List.mem_map.1 hd
  have key:e1.1 = d1.1 ∨ e1.2.1 = d1.2.1:=by
   revert hed
   split<;>split<;>exact fun h=>h
  have:=h.one e1 he1 d1 hd1 key
  subst this
  rfl
theorem Lies.set {w0 w:World} {E:List Ent} (h:Lies w0 w E) {k g:Nat} {b0:Bool} {s0:ByteArray} (hm:(k,g,b0,s0) ∈ E) (b:Bool) (s:ByteArray) :
  Lies w0 ((w.setCell ⟨g,0,none⟩ (.bool b)).setCell ⟨g,1,none⟩ (.string s)) (upd E k b s):=by
 have hg:=h.at_ _ hm
 have hge:=h.ge _ hm
 refine h.stored hm b s (blk_put (cs:=#[.bool b,.string s0]) (blk_put (cs:=#[.bool b0,.string s0]) hg 0 _ rfl) 1 _ rfl) (fun i hi hne=>?_) (below_set (below_set h.bel hge) hge)
 exact (Go.Deep.blk_setCell_other _ _ _ _ hne).trans (Go.Deep.blk_setCell_other _ _ _ _ hne)
theorem Lies.grown {w0 w w':World} {E:List Ent} (h:Lies w0 w E) {k g:Nat} {b0:Bool} {s0:ByteArray} (hm:(k,g,b0,s0) ∈ E) (b:Bool) (s:ByteArray)
  (hn:w'.heap[g]? = some (.cells #[.bool b,.string s] 43 (0,0))) (hG:w.grownBy w' (some g)):Lies w0 w' (upd E k b s) :=
 h.stored hm b s hn (fun i hi hne=>hG.block i hi (fun he=>hne (by injection he))) (pw_below_grown h.bel _ h.bel.size hG (fun k hk=>by injection hk with hk;rw [← hk];exact h.ge _ hm))
theorem Lies.c0 {w0 w:World} {E:List Ent} (h:Lies w0 w E) {k g:Nat} {b:Bool} {s:ByteArray} (hm:(k,g,b,s) ∈ E):w.cell? ⟨g,0,none⟩ = some (.bool b):=(blk_cell (h.at_ _ hm) 0).trans rfl
theorem Lies.c1 {w0 w:World} {E:List Ent} (h:Lies w0 w E) {k g:Nat} {b:Bool} {s:ByteArray} (hm:(k,g,b,s) ∈ E):w.cell? ⟨g,1,none⟩ = some (.string s):=(blk_cell (h.at_ _ hm) 1).trans rfl
theorem Lies.z0 {w0 w:World} {E:List Ent} (h:Lies w0 w E) {k g:Nat} {b:Bool} {s:ByteArray} (hm:(k,g,b,s) ∈ E):w.frozen? ⟨g,0,none⟩ = false:=blk_frozen (h.at_ _ hm) 0
theorem Lies.z1 {w0 w:World} {E:List Ent} (h:Lies w0 w E) {k g:Nat} {b:Bool} {s:ByteArray} (hm:(k,g,b,s) ∈ E):w.frozen? ⟨g,1,none⟩ = false:=blk_frozen (h.at_ _ hm) 1
end Go.Proofs.YtaknchlegjcdhaaGreatDoor.Pr
set_option linter.unusedVariables false
set_option linter.unusedSimpArgs false
namespace Go.Proofs.YtaknchlegjcdhaaGreatDoor.Pr
open Go.RowKit Go.Lib Go.Proofs.YtaknchlegjcdhaaGreatDoorW.PrintWords Go.Proofs.YtaknchlegjcdhaaGreatDoorW.PrintLast Go.Proofs.YtaknchlegjcdhaaGreatDoorW.PrintMore
def bezL:Nat→Bool→ByteArray→Bool→ByteArray→Bool→ByteArray→Bool→ByteArray→Option (Bool × ByteArray × Bool × ByteArray)
 | 0,_,_,_,_,_,_,_,_=>none
 | k + 1,r0,r1,s0,s1,x0,x1,y0,y1 =>
  if (s0 == false && (s1.toList == ([48]:List UInt8))) = true then some (r0,r1,x0,x1)
  else (integer_number_divide.f k r0 r1 s0 s1).bind fun q=>(integer_number_times.f q.1 q.2.1 y0 y1).bind fun p=>(integer_number_opposite.f p.1 p.2).bind fun o=>(integer_number_plus.f x0 x1 o.1 o.2).bind fun z =>
   bezL k s0 s1 q.2.2.1 q.2.2.2 y0 y1 z.1 z.2
def bezT (k:Nat) (n0:Bool) (n1:ByteArray) (m0:Bool) (m1:ByteArray) (r0:Bool) (r1:ByteArray) (x0:Bool) (x1:ByteArray):Option (ByteArray × ByteArray × ByteArray) :=
 (integer_with.f false m1).bind fun d=>(integer_number_divide.f k d.1 d.2 r0 r1).bind fun p=>(integer_number_divide.f k x0 x1 p.1 p.2.1).bind fun q=>(integer_number_times.f n0 n1 q.2.2.1 q.2.2.2).bind fun t=>(integer_number_opposite.f t.1 t.2).bind fun o =>
  (integer_number_plus.f r0 r1 o.1 o.2).bind fun u=>(integer_number_divide.f k u.1 u.2 m0 m1).bind fun z=>(integer_number_text.f r0 r1).bind fun a=>(integer_number_text.f q.2.2.1 q.2.2.2).bind fun b=>(integer_number_text.f z.1 z.2.1).bind fun c=>some (a,b,c)
theorem fresh_cons {E:List Ent} {k j g:Nat} {b:Bool} {s:ByteArray} (hne:j≠k) (h:∀ e ∈ E,e.1≠k):∀ e ∈ ((j,g,b,s):Ent) :: E,e.1≠k:=fun e he=>by
 rcases List.mem_cons.1 he with rfl|he
 ·exact hne
 ·exact h e he
end Go.Proofs.YtaknchlegjcdhaaGreatDoor.Pr
