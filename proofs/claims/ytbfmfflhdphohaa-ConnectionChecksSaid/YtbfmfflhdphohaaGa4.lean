/- Part 4 of 5: walks and laws of functions that the last part joins. The words of the print (W..) are the kit's, cut down by program to what is used here. -/
import Derived.Test.YtbfmfflhdphohaaGa3
set_option linter.unusedVariables false
set_option linter.unusedSimpArgs false
namespace Go.Proofs.Ytbfmfflhdphohaa.Pr
open Go.RowKit Go.Proofs.YtbfmfflhdphohaaW.PrintWords Go.Proofs.YtbfmfflhdphohaaW.PrintLast Go.Proofs.YtbfmfflhdphohaaW.PrintMore
attribute [local go_sem] max2_int min2_int max_two min_two max_three min_three max_four min_four
mutual
def garboardref32_leads.l0:Nat→List (S48)→List Int→Int→List Int→Int→Option (Bool)
 | 0,_,_,_,_,_=>none
 | k + 1,x0,x2,x3,x9,x10=>if x10 < (x2.length:Int) then (if 0≤x10 then ((garboardref32_find.f k x0 (rd x2 x10)).bind fun t282=>(if t282 < 0 then (some false) else (garboardref32_leads.l1 k x0 x2 x3 x9 x10 t282 (([]:List Int)) 0))) else (none)) else (if (x2.length:Int) > 0 then ((garboardref32_Has.f k x9 x3).bind fun t280=>(some t280)) else (some false))
def garboardref32_leads.l1:Nat→List (S48)→List Int→Int→List Int→Int→Int→List Int→Int→Option (Bool)
 | 0,_,_,_,_,_,_,_,_=>none
 | k + 1,x0,x2,x3,x9,x10,x11,x12,x13=>if x13 < (x9.length:Int) then (if 0≤x11 then (if x11 < (x0.length:Int) then (if 0≤x13 then ((garboardref32_other.f ((rd_T48 x0 x11).f0) ((rd_T48 x0 x11).f1) ((rd_T48 x0 x11).f2) ((rd_T48 x0 x11).f3) ((rd_T48 x0 x11).f4.f0) ((rd_T48 x0 x11).f4.f1) ((rd_T48 x0 x11).f4.f2) (rd x9 x13)).bind fun t288=>(if t288 ≥ 0 then (if x12.length < 17592186044416 then (garboardref32_leads.l1 k x0 x2 x3 x9 x10 x11 (x12 ++ [t288]) (wrap64 (x13 + 1))) else (none)) else (garboardref32_leads.l1 k x0 x2 x3 x9 x10 x11 x12 (wrap64 (x13 + 1))))) else (none)) else (none)) else (none)) else (garboardref32_leads.l0 k x0 x2 x3 x12 (wrap64 (x10 + 1)))
end
def garboardref32_leads.f (k:Nat) (l0:List (S48)) (l1:List Int) (l2:List Int) (a3:Int):Option (Bool):=(some (([]:List Int):List Int)).bind fun y274=>(if y274.length + l1.length < 17592186044416 then (garboardref32_leads.l0 k l0 l2 a3 (y274 ++ l1) 0) else (none))
def garboardref32_leads.T12:Bool × List (List Nat × List Nat):=(true,[([],[]),([],[]),([0,1],[0,1]),([2],[2]),([],[]),([],[]),([4,5],[4,5]),([6],[6]),([3,7],[3,7]),([8,8,0,1,2,3,4,5,6,7,8],[8])])
def garboardref32_leads.B12:List Nat:=[0,0,3,7,0,0,48,112,255,511]
theorem garboardref32_leads.tab12:rtab .any (opsOf Try.f51 12) = garboardref32_leads.T12:=by kernel_rfl
theorem garboardref32_leads.bits12:waitsOk garboardref32_leads.T12.2 garboardref32_leads.B12 = true:=by kernel_rfl
set_option maxHeartbeats 8000000 in
set_option maxRecDepth 100000 in
theorem garboardref32_leads.calls (k:Nat) (A0:Option Addr) (c0:Nat) (l0:List (S48)) (A1:Option Addr) (c1:Nat) (l1:List Int) (A2:Option Addr) (c2:Nat) (l2:List Int) (a3:Int) (r:Bool) (w:World) (hr0:Kd.C k48 w A0 l0.length l0) (hc0:l0.length≤c0) (hr1:Kd.C (Kd.int .i64) w A1 l1.length l1) (hc1:l1.length≤c1) (hr2:Kd.C (Kd.int .i64) w A2 l2.length l2) (hc2:l2.length≤c2) (h:garboardref32_leads.f k l0 l1 l2 a3 = some r) :
  Calls Try.prog 51 #[.slice A0 l0.length c0,.slice A1 l1.length c1,.slice A2 l2.length c2,.int .i64 a3] w fun e w'=>e = .returned (.bool r)∧Below w.heap.size w w':=by
 have hu48:=Try.underlying48
 have HR0:=Aside0.mk hr0
 have HC0:=Aside0.mk hc0
 clear hr0 hc0
 have HR1:=Aside0.mk hr1
 have HC1:=Aside0.mk hc1
 clear hr1 hc1
 have HR2:=Aside0.mk hr2
 have HC2:=Aside0.mk hc2
 clear hr2 hc2
 have HB:=Aside0.mk (Below.refl w.heap.size w)
 have H:((some (([]:List Int):List Int)).bind fun y274=>(if y274.length + l1.length < 17592186044416 then (garboardref32_leads.l0 k l0 l2 a3 (y274 ++ l1) 0) else (none))) = some r:=h
 clear h
 obtain ⟨y274,hy274⟩:∃ y_:List Int,y_ = (([]:List Int)):=⟨_,rfl⟩
 replace H:(if y274.length + l1.length < 17592186044416 then (garboardref32_leads.l0 k l0 l2 a3 (y274 ++ l1) 0) else (none)) = some r:=by first|(rw [hy274];with_reducible exact H)|(have H2_:=(Option.bind_some _ _).symm.trans H;rw [hy274];with_reducible exact H2_)|(have H2_:=(Option.bind_some _ _).symm.trans H;with_reducible exact H2_)|with_reducible exact H|(rw [hy274];exact H)|exact H
 have Ny274:=Aside0.mk hy274
 clear hy274
 by_cases c5:y274.length + l1.length < 17592186044416
 ·rw [if_pos c5] at H
  have LMc5:=Aside0.mk c5
  clear c5
  obtain ⟨y277,hy277⟩:∃ y_:List Int,y_ = (y274 ++ l1):=⟨_,rfl⟩
  replace H:(garboardref32_leads.l0 k l0 l2 a3 y277 0) = some r:=by first|(rw [hy277];with_reducible exact H)|(have H2_:=(Option.bind_some _ _).symm.trans H;rw [hy277];with_reducible exact H2_)|(have H2_:=(Option.bind_some _ _).symm.trans H;with_reducible exact H2_)|with_reducible exact H|(rw [hy277];exact H)|exact H
  have Ny277:=Aside0.mk hy277
  clear hy277
  have H':=Aside0.mk H
  clear H
  go_enter Try.func51,Try.ntmps51
  go_wp2_with (first|((with_reducible refine gate_dst (N:=15) rfl ?_);refine Kd.R_lit (Kd.int .i64) _ 3 ?hg (N:=15) ?hd (xs:=([]:List Int)) (inner:=[]) (ok:=fun _=>True) (okp:=fun _=>True) ?hr ?hp (fun _ hk=>hk) trivial (Below.refl _ _) (Nat.le_refl _) (by simp) ?_;(case hd=>rfl);(case hg=>rfl);(case hr=>first|(go_simp;done)|(go_simp;rfl));(case hp=>exact (Reps.none _ _));intro v275 w6 ho7 hb hg_ hnew_;clear hg_ hnew_;(first|rw [← Ny274.out] at ho7|(simp only [Int.reduceToNat] at ho7;rw [← Ny274.out] at ho7));have n0_:=Aside0.mk (Kd.R_lower ho7 (below_size (by repeat (first|(with_reducible first|exact HB.out|apply below_alloc|apply pw_below_drewN|apply below_drew1)|exact HB.out))));have n1_:=Aside0.mk (below_step (by repeat (first|(with_reducible first|exact HB.out|apply below_alloc|apply pw_below_drewN|apply below_drew1)|exact HB.out)) hb);clear HB;have HO276:=n0_;have HB:=n1_;clear n0_ n1_;clear hb ho7)|((with_reducible refine gate_builtin (b:=.append) (xs:=#[.tmp 15,.tmp 16]) rfl ?_);at_builtin;refine Kd.R_append_rows (Kd.int .i64) (w0:=w) w.heap.size rfl (.tmp 15) (.tmp 16) 23 3 (.int .i64 0) 8 rfl Try.underlying23 info3 rfl (by decide) (by omega) v275 y274 l1 _ _ _ (fun _=>True) (fun _=>False) rfl rfl ?aO ?aR (fun _ _ h=>h) (fun _ h=>h.elim) ?aF ?aB ?aS ?aL ?_;(case aR=>repeat (first|exact (Kd.C_below HR1.out HB.out)|(with_reducible refine Kd.C_alloc ?_ _)|(with_reducible refine Kd.C_drewN ?_ _)|(with_reducible refine Kd.C_drew ?_)));(case aB=>exact (by repeat (first|(with_reducible first|exact HB.out|apply below_alloc|apply pw_below_drewN|apply below_drew1)|exact HB.out)));(case aF=>exact (fun _ _=>trivial));(case aO=>exact (by (with_reducible repeat (first|apply Kd.R_alloc|apply Kd.R_drewN|apply Kd.R_drew));exact HO276.out));(case aS=>exact (below_size (by repeat (first|(with_reducible first|exact HB.out|apply below_alloc|apply pw_below_drewN|apply below_drew1)|exact HB.out))));(case aL=>have:=LMc5.out;omega);intro v278 w8 ho hb hg hat;rw [← Ny277.out] at ho;have n0_:=Aside0.mk (hb);have n1_:=Aside0.mk (ho);clear HB;clear HO276;have HB:=n0_;have HO279:=n1_;clear n0_ n1_;clear ho hb hg hat))
  go_loopg [9,10] k (fun kq v9 v10 w'=>∃ (x9_1:List Int) (x10_1:Int),v10 = .int .i64 x10_1∧Aside0 (garboardref32_leads.l0 kq l0 l2 a3 x9_1 x10_1 = some r)∧Aside0 (kq≤k)∧Aside0 (Kd.R (Kd.int .i64) 3 w' w.heap.size (fun _=>True) v9 x9_1)∧Aside0 (Below w.heap.size w w'))
  case atStart=>exact ⟨(y277),(0),(by first|rfl|(simp;done)|(simp [*];done)),H',⟨Nat.le_refl _⟩,⟨by (with_reducible repeat (first|apply Kd.R_alloc|apply Kd.R_drewN|apply Kd.R_drew));exact HO279.out⟩,⟨by repeat (first|(with_reducible first|exact HB.out|apply below_alloc|apply pw_below_drewN|apply below_drew1)|exact HB.out)⟩⟩
  case round =>
   clear H'
   try clear c1
   try clear c2
   try clear p2
   try clear c5
   obtain ⟨x9_1,x10_1,rfl,HA,HK1,HO_9,HB⟩:=hrel
   cases gk with
   | zero=>exact absurd HA.out (by simp [garboardref32_leads.l0])
   | succ k1 =>
    have H:=HA.out
    clear HA
    simp only [garboardref32_leads.l0] at H
    by_cases c9:x10_1 < (l2.length:Int)
    ·rw [if_pos c9] at H
     have c9b0:decide (x10_1 < (l2.length:Int)) = true:=decide_eq_true c9
     clear c9
     by_cases c10:0≤x10_1
     ·rw [if_pos c10] at H
      have c10b0:decide (0≤x10_1) = true:=decide_eq_true c10
      clear c10
      replace H:=Option.bind_eq_some_iff.mp H
      obtain ⟨t282,A110,H⟩:=H
      replace H:(if t282 < 0 then (some false) else (garboardref32_leads.l1 k1 l0 l2 a3 x9_1 x10_1 t282 (([]:List Int)) 0)) = some r:=H
      have A11:=Aside0.mk A110
      clear A110
      by_cases c12:t282 < 0
      ·rw [if_pos c12] at H
       have c12b0:decide (t282 < 0) = true:=decide_eq_true c12
       clear c12
       obtain rfl:=Option.some.inj H
       have p281:0≤(x10_1:Int):=of_decide_eq_true (by first|(with_reducible assumption)|assumption)
       have q281:x10_1 < (l2.length:Int):=of_decide_eq_true (by first|(with_reducible assumption)|assumption)
       obtain ⟨ad281,e281,hx281_0⟩:=Kd.at_int HR2.out x10_1 p281 q281
       cases e281
       replace hx281_0:=(HB.out.cell (World.block_lt_of_cell? w _ hx281_0)).trans hx281_0
       replace p281:=eq_true p281
       replace q281:=eq_true q281
       go_wp2_with (first|((with_reducible refine gate_callee (f:=83) rfl ?_);refine goesL_ (some 29) rfl rfl Try.func83 (by kernel_rfl) rfl #[.slice A0 l0.length c0,.int .i64 (rd l2 x10_1)] rfl (by (try simp only [List.map_toArray,List.map_cons,List.map_nil]);first|done|rfl|(simp only [List.length_drop,List.length_take];rfl)) ?_;(with_reducible refine (garboardref32_find.calls k1 _ _ l0 (rd l2 x10_1) t282 _ ?side1 ?side2 A11.out).mono ?_);(case side1=>repeat (first|exact (Kd.C_below HR0.out HB.out)|(with_reducible refine Kd.C_alloc ?_ _)|(with_reducible refine Kd.C_drewN ?_ _)|(with_reducible refine Kd.C_drew ?_)));(case side2=>exact HC0.out);rintro e w' ⟨rfl,⟨nd,rfl⟩⟩;refine ⟨_,rfl,?_⟩))
       go_ret
       exact ⟨by first|rfl|(simp [errW_none,errW_some]<;>rfl)|(simp [*,errW_none,errW_some]<;>rfl),by repeat (first|(with_reducible first|exact HB.out|apply below_alloc|apply pw_below_drewN|apply below_drew1)|exact HB.out)⟩
      ·rw [if_neg c12] at H
       have c12b0:decide (t282 < 0) = false:=decide_eq_false c12
       clear c12
       obtain ⟨y283,hy283⟩:∃ y_:List Int,y_ = (([]:List Int)):=⟨_,rfl⟩
       replace H:(garboardref32_leads.l1 k1 l0 l2 a3 x9_1 x10_1 t282 y283 0) = some r:=by first|(rw [hy283];with_reducible exact H)|(have H2_:=(Option.bind_some _ _).symm.trans H;rw [hy283];with_reducible exact H2_)|(have H2_:=(Option.bind_some _ _).symm.trans H;with_reducible exact H2_)|with_reducible exact H|(rw [hy283];exact H)|exact H
       have Ny283:=Aside0.mk hy283
       clear hy283
       have H':=Aside0.mk H
       clear H
       have p281:0≤(x10_1:Int):=of_decide_eq_true (by first|(with_reducible assumption)|assumption)
       have q281:x10_1 < (l2.length:Int):=of_decide_eq_true (by first|(with_reducible assumption)|assumption)
       obtain ⟨ad281,e281,hx281_0⟩:=Kd.at_int HR2.out x10_1 p281 q281
       cases e281
       replace hx281_0:=(HB.out.cell (World.block_lt_of_cell? w _ hx281_0)).trans hx281_0
       replace p281:=eq_true p281
       replace q281:=eq_true q281
       go_wp2_with (first|((with_reducible refine gate_callee (f:=83) rfl ?_);refine goesL_ (some 29) rfl rfl Try.func83 (by kernel_rfl) rfl #[.slice A0 l0.length c0,.int .i64 (rd l2 x10_1)] rfl (by (try simp only [List.map_toArray,List.map_cons,List.map_nil]);first|done|rfl|(simp only [List.length_drop,List.length_take];rfl)) ?_;(with_reducible refine (garboardref32_find.calls k1 _ _ l0 (rd l2 x10_1) t282 _ ?side1 ?side2 A11.out).mono ?_);(case side1=>repeat (first|exact (Kd.C_below HR0.out HB.out)|(with_reducible refine Kd.C_alloc ?_ _)|(with_reducible refine Kd.C_drewN ?_ _)|(with_reducible refine Kd.C_drew ?_)));(case side2=>exact HC0.out);rintro e w' ⟨rfl,⟨nd,rfl⟩⟩;refine ⟨_,rfl,?_⟩)|((with_reducible refine gate_dst (N:=32) rfl ?_);refine Kd.R_lit (Kd.int .i64) _ 3 ?hg (N:=32) ?hd (xs:=([]:List Int)) (inner:=[]) (ok:=fun _=>True) (okp:=fun _=>True) ?hr ?hp (fun _ hk=>hk) trivial (Below.refl _ _) (Nat.le_refl _) (by simp) ?_;(case hd=>rfl);(case hg=>rfl);(case hr=>first|(go_simp;done)|(go_simp;rfl));(case hp=>exact (Reps.none _ _));intro v284 w13 ho14 hb hg_ hnew_;clear hg_ hnew_;(first|rw [← Ny283.out] at ho14|(simp only [Int.reduceToNat] at ho14;rw [← Ny283.out] at ho14));have n0_:=Aside0.mk (Kd.R_elder' (by (with_reducible repeat (first|apply Kd.R_alloc|apply Kd.R_drewN|apply Kd.R_drew));exact HO_9.out) (Kd.R_base ho14) hb);have n1_:=Aside0.mk (Kd.R_lower (Kd.R_new' ho14 (Kd.R_lt (by (with_reducible repeat (first|apply Kd.R_alloc|apply Kd.R_drewN|apply Kd.R_drew));exact HO_9.out))) (below_size (by repeat (first|(with_reducible first|exact HB.out|apply below_alloc|apply pw_below_drewN|apply below_drew1)|exact HB.out))));have n2_:=Aside0.mk (below_step (by repeat (first|(with_reducible first|exact HB.out|apply below_alloc|apply pw_below_drewN|apply below_drew1)|exact HB.out)) hb);clear HO_9;clear HB;have HO_9:=n0_;have HO285:=n1_;have HB:=n2_;clear n0_ n1_ n2_;clear hb ho14))
       go_loopg [12,13] k1 (fun kq v12 v13 w'=>∃ (x12_2:List Int) (x13_2:Int),v13 = .int .i64 x13_2∧Aside0 (garboardref32_leads.l1 kq l0 l2 a3 x9_1 x10_1 t282 x12_2 x13_2 = some r)∧Aside0 (kq≤k1)∧Aside0 (Kd.R (Kd.int .i64) 3 w' w.heap.size (fun k_=>some k_≠(v12:Value).ownBlock) u9 x9_1)∧Aside0 (Kd.R (Kd.int .i64) 3 w' w.heap.size (fun k_=>some k_≠(u9:Value).ownBlock) v12 x12_2)∧Aside0 (Below w.heap.size w w'))
       case atStart=>exact ⟨(y283),(0),(by first|rfl|(simp;done)|(simp [*];done)),H',⟨Nat.le_refl _⟩,⟨by (with_reducible repeat (first|apply Kd.R_alloc|apply Kd.R_drewN|apply Kd.R_drew));exact Kd.R_mono HO_9.out (fun _ hk=>hk.2)⟩,⟨by (with_reducible repeat (first|apply Kd.R_alloc|apply Kd.R_drewN|apply Kd.R_drew));exact Kd.R_mono HO285.out (fun _ hk=>hk.2)⟩,⟨by repeat (first|(with_reducible first|exact HB.out|apply below_alloc|apply pw_below_drewN|apply below_drew1)|exact HB.out)⟩⟩
       case round =>
        clear H'
        try clear c1
        try clear c2
        try clear p2
        try clear q2
        try clear hx2
        try clear c5
        try clear c8
        try clear c9
        try clear c9b0
        try clear c10
        try clear c10b0
        try clear c12
        try clear c12b0
        try clear hx281_0
        try clear p2
        try clear p281
        try clear q281
        obtain ⟨x12_2,x13_2,rfl,HA,HK2,HO_9,HO_12,HB⟩:=hrel
        cases gk with
        | zero=>exact absurd HA.out (by simp [garboardref32_leads.l1])
        | succ k2 =>
         have H:=HA.out
         clear HA
         simp only [garboardref32_leads.l1] at H
         by_cases c15:x13_2 < (x9_1.length:Int)
         ·rw [if_pos c15] at H
          have c15b0:decide (x13_2 < (x9_1.length:Int)) = true:=decide_eq_true c15
          clear c15
          by_cases c16:0≤t282
          ·rw [if_pos c16] at H
           have c16b0:decide (0≤t282) = true:=decide_eq_true c16
           clear c16
           by_cases c17:t282 < (l0.length:Int)
           ·rw [if_pos c17] at H
            have c17b0:decide (t282 < (l0.length:Int)) = true:=decide_eq_true c17
            clear c17
            by_cases c18:0≤x13_2
            ·rw [if_pos c18] at H
             have c18b0:decide (0≤x13_2) = true:=decide_eq_true c18
             clear c18
             replace H:=Option.bind_eq_some_iff.mp H
             obtain ⟨t288,A190,H⟩:=H
             replace H:(if t288 ≥ 0 then (if x12_2.length < 17592186044416 then (garboardref32_leads.l1 k2 l0 l2 a3 x9_1 x10_1 t282 (x12_2 ++ [t288]) (wrap64 (x13_2 + 1))) else (none)) else (garboardref32_leads.l1 k2 l0 l2 a3 x9_1 x10_1 t282 x12_2 (wrap64 (x13_2 + 1)))) = some r:=H
             have A19:=Aside0.mk A190
             clear A190
             by_cases c20:t288 ≥ 0
             ·rw [if_pos c20] at H
              have c20b0:decide (0≤t288) = true:=decide_eq_true c20
              clear c20
              by_cases c21:x12_2.length < 17592186044416
              ·rw [if_pos c21] at H
               have LMc21:=Aside0.mk c21
               clear c21
               obtain ⟨y289,hy289⟩:∃ y_:List Int,y_ = (x12_2 ++ [t288]):=⟨_,rfl⟩
               replace H:(garboardref32_leads.l1 k2 l0 l2 a3 x9_1 x10_1 t282 y289 (wrap64 (x13_2 + 1))) = some r:=by first|(rw [hy289];with_reducible exact H)|(have H2_:=(Option.bind_some _ _).symm.trans H;rw [hy289];with_reducible exact H2_)|(have H2_:=(Option.bind_some _ _).symm.trans H;with_reducible exact H2_)|with_reducible exact H|(rw [hy289];exact H)|exact H
               have Ny289:=Aside0.mk hy289
               clear hy289
               have H':=Aside0.mk H
               clear H
               obtain ⟨Ao22,co22,eo22⟩:=Kd.R_slice HO_9.out
               subst eo22
               try go_wp2
               have n0_:=Aside0.mk (Kd.R_drew HO_9.out)
               have n1_:=Aside0.mk (Kd.R_drew HO_12.out)
               have n2_:=Aside0.mk (below_drew1 HB.out)
               clear HO_9
               clear HO_12
               clear HB
               have HO_9:=n0_
               have HO_12:=n1_
               have HB:=n2_
               clear n0_ n1_ n2_
               have p286:0≤(t282:Int):=of_decide_eq_true (by first|(with_reducible assumption)|assumption)
               have q286:t282 < (l0.length:Int):=of_decide_eq_true (by first|(with_reducible assumption)|assumption)
               obtain ⟨ad286,e286,hx286_0,hx286_1,hx286_2,hx286_3,hx286_4,hx286_5,hx286_6⟩:=at_T48 HR0.out t282 p286 q286
               have hw286_6:=hx286_6
               have hw286_5:=hx286_5
               have hw286_4:=hx286_4
               have hw286_3:=hx286_3
               have hw286_2:=hx286_2
               have hw286_1:=hx286_1
               have hw286_0:=hx286_0
               cases e286
               replace hx286_0:=(HB.out.cell (World.block_lt_of_cell? w _ hx286_0)).trans hx286_0
               replace hx286_1:=(HB.out.cell (World.block_lt_of_cell? w _ hx286_1)).trans hx286_1
               replace hx286_2:=(HB.out.cell (World.block_lt_of_cell? w _ hx286_2)).trans hx286_2
               replace hx286_3:=(HB.out.cell (World.block_lt_of_cell? w _ hx286_3)).trans hx286_3
               replace hx286_4:=(HB.out.cell (World.block_lt_of_cell? w _ hx286_4)).trans hx286_4
               replace hx286_5:=(HB.out.cell (World.block_lt_of_cell? w _ hx286_5)).trans hx286_5
               replace hx286_6:=(HB.out.cell (World.block_lt_of_cell? w _ hx286_6)).trans hx286_6
               replace p286:=eq_true p286
               replace q286:=eq_true q286
               have p287:0≤(x13_2:Int):=of_decide_eq_true (by first|(with_reducible assumption)|assumption)
               have q287:x13_2 < (x9_1.length:Int):=of_decide_eq_true (by first|(with_reducible assumption)|assumption)
               obtain ⟨ad287,e287,hx287_0⟩:=Kd.at_int (Kd.R_reads' HO_9.out).2.2 x13_2 p287 q287
               cases e287
               replace p287:=eq_true p287
               replace q287:=eq_true q287
               refine start_ (n:=10) (S:=fun w'=>w'.cell? (ad286.add ((t282).toNat * 7)) = some (.int .i64 ((rd_T48 l0 t282).f0))∧w'.cell? ⟨(ad286.add ((t282).toNat * 7)).block,(ad286.add ((t282).toNat * 7)).off + 1,none⟩ = some (.int .i64 ((rd_T48 l0 t282).f1))∧w'.cell? ⟨(ad286.add ((t282).toNat * 7)).block,(ad286.add ((t282).toNat * 7)).off + 2,none⟩ = some (.int .i64 ((rd_T48 l0 t282).f2))∧w'.cell? ⟨(ad286.add ((t282).toNat * 7)).block,(ad286.add ((t282).toNat * 7)).off + 3,none⟩ = some (.int .i64 ((rd_T48 l0 t282).f3))∧w'.cell? ⟨(ad286.add ((t282).toNat * 7)).block,(ad286.add ((t282).toNat * 7)).off + 4,none⟩ = some (.string ((rd_T48 l0 t282).f4.f0))∧w'.cell? ⟨(ad286.add ((t282).toNat * 7)).block,(ad286.add ((t282).toNat * 7)).off + 5,none⟩ = some (.string ((rd_T48 l0 t282).f4.f1))∧w'.cell? ⟨(ad286.add ((t282).toNat * 7)).block,(ad286.add ((t282).toNat * 7)).off + 6,none⟩ = some (.string ((rd_T48 l0 t282).f4.f2))∧w'.cell? (ad287.add (x13_2).toNat) = some (.int .i64 (rd x9_1 x13_2))) (ds:=[]) #[false,false,false,false,false,false,false,false,false,false] (by kernel_rfl) rfl rfl ⟨((HB.out.cell (World.block_lt_of_cell? w _ hw286_0)).trans hw286_0),((HB.out.cell (World.block_lt_of_cell? w _ hw286_1)).trans hw286_1),((HB.out.cell (World.block_lt_of_cell? w _ hw286_2)).trans hw286_2),((HB.out.cell (World.block_lt_of_cell? w _ hw286_3)).trans hw286_3),((HB.out.cell (World.block_lt_of_cell? w _ hw286_4)).trans hw286_4),((HB.out.cell (World.block_lt_of_cell? w _ hw286_5)).trans hw286_5),((HB.out.cell (World.block_lt_of_cell? w _ hw286_6)).trans hw286_6),hx287_0⟩ (fun hHeld=>?_);refine with_tabW garboardref32_leads.tab12 garboardref32_leads.bits12 (fun HT_ HW_=>?_)
               generalize wr.drew = w23 at HO_9 HO_12 HB hx286_0 hx286_1 hx286_2 hx286_3 hx286_4 hx286_5 hx286_6 hx287_0 hHeld ⊢
               refine pure_ (i:=0) (N:=some 39) (v:=?_) (a':=?_) #[true,false,false,false,false,false,false,false,false,false] rfl rfl (any_of HT_.out (by kernel_rfl)) (fun _ _ _ h=>h) (Or.inl ⟨by rfl,?_⟩) ?_ ?_
               rotate_left
               ·intro w'
                go_simp
                with_reducible rfl
               rotate_left
               ·simp only [Act.put,List.setIfInBounds_toArray,List.set_cons_zero,List.set_cons_succ,i64_w,i32_w]
                rfl
               refine pure_ (i:=1) (N:=some 40) (v:=?_) (a':=?_) #[true,true,false,false,false,false,false,false,false,false] rfl rfl (any_of HT_.out (by kernel_rfl)) (fun _ _ _ h=>h) (Or.inl ⟨by rfl,?_⟩) ?_ ?_
               rotate_left
               ·intro w'
                go_simp
                with_reducible rfl
               rotate_left
               ·simp only [Act.put,List.setIfInBounds_toArray,List.set_cons_zero,List.set_cons_succ,i64_w,i32_w]
                rfl
               refine pure_ (i:=2) (N:=some 41) (v:=?_) (a':=?_) #[true,true,true,false,false,false,false,false,false,false] rfl rfl (any_of HT_.out (by kernel_rfl)) (fun _ _ _ h=>h) (Or.inl ⟨by rfl,?_⟩) ?_ ?_
               rotate_left
               ·intro w'
                go_simp
                with_reducible rfl
               rotate_left
               ·simp only [Act.put,List.setIfInBounds_toArray,List.set_cons_zero,List.set_cons_succ,i64_w,i32_w]
                rfl
               refine pure_ (i:=4) (N:=some 43) (v:=?_) (a':=?_) #[true,true,true,false,true,false,false,false,false,false] rfl rfl (any_of HT_.out (by kernel_rfl)) (fun _ _ _ h=>h) (Or.inl ⟨by rfl,?_⟩) ?_ ?_
               rotate_left
               ·intro w'
                go_simp
                with_reducible rfl
               rotate_left
               ·simp only [Act.put,List.setIfInBounds_toArray,List.set_cons_zero,List.set_cons_succ,i64_w,i32_w]
                rfl
               refine pure_ (i:=5) (N:=some 44) (v:=?_) (a':=?_) #[true,true,true,false,true,true,false,false,false,false] rfl rfl (any_of HT_.out (by kernel_rfl)) (fun _ _ _ h=>h) (Or.inl ⟨by rfl,?_⟩) ?_ ?_
               rotate_left
               ·intro w'
                go_simp
                with_reducible rfl
               rotate_left
               ·simp only [Act.put,List.setIfInBounds_toArray,List.set_cons_zero,List.set_cons_succ,i64_w,i32_w]
                rfl
               refine pure_ (i:=6) (N:=some 45) (v:=?_) (a':=?_) #[true,true,true,false,true,true,true,false,false,false] rfl rfl (any_of HT_.out (by kernel_rfl)) (fun _ _ _ h=>h) (Or.inl ⟨by rfl,?_⟩) ?_ ?_
               rotate_left
               ·intro w'
                go_simp
                with_reducible rfl
               rotate_left
               ·simp only [Act.put,List.setIfInBounds_toArray,List.set_cons_zero,List.set_cons_succ,i64_w,i32_w]
                rfl
               refine take_ (i:=3) (N:=some 42) (v:=?_) (a':=?_) #[true,true,true,true,true,true,true,false,false,false] rfl rfl (take_ofW HT_.out HW_.out (by kernel_rfl)) (fun _ _ _ h=>h) (Or.inl ⟨by rfl,?_⟩) hHeld ?_ ?_
               rotate_left
               ·rintro w' ⟨s0,s1,s2,s3,s4,s5,s6,s7⟩
                go_simp
                with_reducible rfl
               rotate_left
               ·simp only [Act.put,List.setIfInBounds_toArray,List.set_cons_zero,List.set_cons_succ,i64_w,i32_w]
                rfl
               refine take_ (i:=7) (N:=some 46) (v:=?_) (a':=?_) #[true,true,true,true,true,true,true,true,false,false] rfl rfl (take_ofW HT_.out HW_.out (by kernel_rfl)) (fun _ _ _ h=>h) (Or.inl ⟨by rfl,?_⟩) hHeld ?_ ?_
               rotate_left
               ·rintro w' ⟨s0,s1,s2,s3,s4,s5,s6,s7⟩
                go_simp
                with_reducible rfl
               rotate_left
               ·simp only [Act.put,List.setIfInBounds_toArray,List.set_cons_zero,List.set_cons_succ,i64_w,i32_w]
                rfl
               refine one_ (i:=8) (N:=some 47) #[true,true,true,true,true,true,true,true,true,false] rfl rfl (one_of HT_.out (by kernel_rfl)) (by decide) (fun K hK=>?_)
               refine goes_ Try.func84 (by kernel_rfl) rfl #[.agg #[.int .i64 ((rd_T48 l0 t282).f0),.int .i64 ((rd_T48 l0 t282).f1),.int .i64 ((rd_T48 l0 t282).f2),.int .i64 ((rd_T48 l0 t282).f3),.string ((rd_T48 l0 t282).f4.f0),.string ((rd_T48 l0 t282).f4.f1),.string ((rd_T48 l0 t282).f4.f2)],.int .i64 (rd x9_1 x13_2)] (by rfl) rfl rfl (by (try simp only [List.map_toArray,List.map_cons,List.map_nil]);first|done|rfl|(simp only [List.length_drop,List.length_take];rfl)) ?_
               with_reducible refine (garboardref32_other.calls ((rd_T48 l0 t282).f0) ((rd_T48 l0 t282).f1) ((rd_T48 l0 t282).f2) ((rd_T48 l0 t282).f3) ((rd_T48 l0 t282).f4.f0) ((rd_T48 l0 t282).f4.f1) ((rd_T48 l0 t282).f4.f2) (rd x9_1 x13_2) t288 _ A19.out).mono ?_
               rintro e w24 ⟨rfl,hb⟩
               have HS7_:=(hb.cell (World.block_lt_of_cell? _ _ (hHeld.2.2.2.2.2.2.2))).trans (hHeld.2.2.2.2.2.2.2)
               refine ⟨_,rfl,?_⟩
               have n0_:=Aside0.mk (Kd.R_below (by (with_reducible repeat (first|apply Kd.R_alloc|apply Kd.R_drewN|apply Kd.R_drew));exact HO_9.out) hb)
               have n1_:=Aside0.mk (Kd.R_below (by (with_reducible repeat (first|apply Kd.R_alloc|apply Kd.R_drewN|apply Kd.R_drew));exact HO_12.out) hb)
               have n2_:=Aside0.mk (below_step (by repeat (first|(with_reducible first|exact HB.out|apply below_alloc|apply pw_below_drewN|apply below_drew1)|exact HB.out)) hb)
               clear HO_9
               clear HO_12
               clear HB
               have HO_9:=n0_
               have HO_12:=n1_
               have HB:=n2_
               clear n0_ n1_ n2_
               (try clear hb)
               (try clear hb2)
               (try clear hk)
               (try clear hi)
               refine hK.out _ _ ⟨((HB.out.cell (World.block_lt_of_cell? w _ hw286_0)).trans hw286_0),((HB.out.cell (World.block_lt_of_cell? w _ hw286_1)).trans hw286_1),((HB.out.cell (World.block_lt_of_cell? w _ hw286_2)).trans hw286_2),((HB.out.cell (World.block_lt_of_cell? w _ hw286_3)).trans hw286_3),((HB.out.cell (World.block_lt_of_cell? w _ hw286_4)).trans hw286_4),((HB.out.cell (World.block_lt_of_cell? w _ hw286_5)).trans hw286_5),((HB.out.cell (World.block_lt_of_cell? w _ hw286_6)).trans hw286_6),HS7_⟩ (fun hHeld=>?_)
               clear hK K
               refine norm_ (a':=?_) ?_ ?_
               rotate_left
               ·show Act.put _ (some 47) _ = _
                simp only [Act.put,List.setIfInBounds_toArray,List.set_cons_zero,List.set_cons_succ,i64_w,i32_w]
                rfl
               refine pure_ (i:=9) (N:=some 14) (v:=?_) (a':=?_) #[true,true,true,true,true,true,true,true,true,true] rfl rfl (any_of HT_.out (by kernel_rfl)) (fun _ _ _ h=>h) (Or.inl ⟨by rfl,?_⟩) ?_ ?_
               rotate_left
               ·intro w'
                go_simp
                with_reducible rfl
               rotate_left
               ·simp only [Act.put,List.setIfInBounds_toArray,List.set_cons_zero,List.set_cons_succ,i64_w,i32_w]
                rfl
               refine done_ (done_of HT_.out (by kernel_rfl)) ?_
               try go_wp2_with (first|((with_reducible refine gate_builtin (b:=.append) (xs:=#[.tmp 50,.tmp 52]) rfl ?_);at_builtin;refine Kd.R_append (Kd.int .i64) (w0:=w) w.heap.size rfl (.tmp 50) (.tmp 52) 23 3 (.int .i64 0) 8 rfl Try.underlying23 info3 rfl (by decide) (by omega) u12 x12_2 t288 [.int .i64 t288] (fun k_=>some k_≠(.slice (some ad287) x9_1.length co22:Value).ownBlock) (fun _=>False) rfl rfl ?aP (fun _ hk=>hk.elim) ?aF ?aO ?aB ?aS ?aL ?_;(case aP=>exact rfl);(case aB=>exact (by repeat (first|(with_reducible first|exact HB.out|apply below_alloc|apply pw_below_drewN|apply below_drew1)|exact HB.out)));(case aF=>exact (fun k_ hk=>Kd.fresh' (Kd.R_lt (by (with_reducible repeat (first|apply Kd.R_alloc|apply Kd.R_drewN|apply Kd.R_drew));exact HO_9.out)) k_ hk));(case aO=>exact (by (with_reducible repeat (first|apply Kd.R_alloc|apply Kd.R_drewN|apply Kd.R_drew));exact HO_12.out));(case aS=>exact (below_size (by repeat (first|(with_reducible first|exact HB.out|apply below_alloc|apply pw_below_drewN|apply below_drew1)|exact HB.out))));(case aL=>have:=LMc21.out;omega);intro v290 w25 ho hb hg hat;rw [← Ny289.out] at ho;have n0_:=Aside0.mk (Kd.R_after (ok:=(fun _=>True)) (by (with_reducible repeat (first|apply Kd.R_alloc|apply Kd.R_drewN|apply Kd.R_drew));exact Kd.R_mono HO_9.out (fun _ hk=>⟨trivial,hk⟩)) hg hat);have n1_:=Aside0.mk (hb);have n2_:=Aside0.mk (ho);clear HO_9;clear HB;clear HO_12;have HO_9:=n0_;have HB:=n1_;have HO291:=n2_;clear n0_ n1_ n2_;clear ho hb hg hat))
               go_roundg k2
               case measure=>have:=HK1.out;have:=HK2.out;omega
               case rel=>exact ⟨(y289),(wrap64 (x13_2 + 1)),(by first|rfl|(simp;done)|(simp [*];done)),H',⟨by have:=HK1.out;have:=HK2.out;omega⟩,⟨by (with_reducible repeat (first|apply Kd.R_alloc|apply Kd.R_drewN|apply Kd.R_drew));exact Kd.R_mono HO_9.out (fun _ hk=>hk.2)⟩,⟨by (with_reducible repeat (first|apply Kd.R_alloc|apply Kd.R_drewN|apply Kd.R_drew));exact HO291.out⟩,⟨by repeat (first|(with_reducible first|exact HB.out|apply below_alloc|apply pw_below_drewN|apply below_drew1)|exact HB.out)⟩⟩
              ·rw [if_neg c21] at H
               exact absurd H (by simp)
             ·rw [if_neg c20] at H
              have c20b0:decide (0≤t288) = false:=decide_eq_false c20
              clear c20
              have H':=Aside0.mk H
              clear H
              obtain ⟨Ao26,co26,eo26⟩:=Kd.R_slice HO_9.out
              subst eo26
              try go_wp2
              have n0_:=Aside0.mk (Kd.R_drew HO_9.out)
              have n1_:=Aside0.mk (Kd.R_drew HO_12.out)
              have n2_:=Aside0.mk (below_drew1 HB.out)
              clear HO_9
              clear HO_12
              clear HB
              have HO_9:=n0_
              have HO_12:=n1_
              have HB:=n2_
              clear n0_ n1_ n2_
              have p286:0≤(t282:Int):=of_decide_eq_true (by first|(with_reducible assumption)|assumption)
              have q286:t282 < (l0.length:Int):=of_decide_eq_true (by first|(with_reducible assumption)|assumption)
              obtain ⟨ad286,e286,hx286_0,hx286_1,hx286_2,hx286_3,hx286_4,hx286_5,hx286_6⟩:=at_T48 HR0.out t282 p286 q286
              have hw286_6:=hx286_6
              have hw286_5:=hx286_5
              have hw286_4:=hx286_4
              have hw286_3:=hx286_3
              have hw286_2:=hx286_2
              have hw286_1:=hx286_1
              have hw286_0:=hx286_0
              cases e286
              replace hx286_0:=(HB.out.cell (World.block_lt_of_cell? w _ hx286_0)).trans hx286_0
              replace hx286_1:=(HB.out.cell (World.block_lt_of_cell? w _ hx286_1)).trans hx286_1
              replace hx286_2:=(HB.out.cell (World.block_lt_of_cell? w _ hx286_2)).trans hx286_2
              replace hx286_3:=(HB.out.cell (World.block_lt_of_cell? w _ hx286_3)).trans hx286_3
              replace hx286_4:=(HB.out.cell (World.block_lt_of_cell? w _ hx286_4)).trans hx286_4
              replace hx286_5:=(HB.out.cell (World.block_lt_of_cell? w _ hx286_5)).trans hx286_5
              replace hx286_6:=(HB.out.cell (World.block_lt_of_cell? w _ hx286_6)).trans hx286_6
              replace p286:=eq_true p286
              replace q286:=eq_true q286
              have p287:0≤(x13_2:Int):=of_decide_eq_true (by first|(with_reducible assumption)|assumption)
              have q287:x13_2 < (x9_1.length:Int):=of_decide_eq_true (by first|(with_reducible assumption)|assumption)
              obtain ⟨ad287,e287,hx287_0⟩:=Kd.at_int (Kd.R_reads' HO_9.out).2.2 x13_2 p287 q287
              cases e287
              replace p287:=eq_true p287
              replace q287:=eq_true q287
              refine start_ (n:=10) (S:=fun w'=>w'.cell? (ad286.add ((t282).toNat * 7)) = some (.int .i64 ((rd_T48 l0 t282).f0))∧w'.cell? ⟨(ad286.add ((t282).toNat * 7)).block,(ad286.add ((t282).toNat * 7)).off + 1,none⟩ = some (.int .i64 ((rd_T48 l0 t282).f1))∧w'.cell? ⟨(ad286.add ((t282).toNat * 7)).block,(ad286.add ((t282).toNat * 7)).off + 2,none⟩ = some (.int .i64 ((rd_T48 l0 t282).f2))∧w'.cell? ⟨(ad286.add ((t282).toNat * 7)).block,(ad286.add ((t282).toNat * 7)).off + 3,none⟩ = some (.int .i64 ((rd_T48 l0 t282).f3))∧w'.cell? ⟨(ad286.add ((t282).toNat * 7)).block,(ad286.add ((t282).toNat * 7)).off + 4,none⟩ = some (.string ((rd_T48 l0 t282).f4.f0))∧w'.cell? ⟨(ad286.add ((t282).toNat * 7)).block,(ad286.add ((t282).toNat * 7)).off + 5,none⟩ = some (.string ((rd_T48 l0 t282).f4.f1))∧w'.cell? ⟨(ad286.add ((t282).toNat * 7)).block,(ad286.add ((t282).toNat * 7)).off + 6,none⟩ = some (.string ((rd_T48 l0 t282).f4.f2))∧w'.cell? (ad287.add (x13_2).toNat) = some (.int .i64 (rd x9_1 x13_2))) (ds:=[]) #[false,false,false,false,false,false,false,false,false,false] (by kernel_rfl) rfl rfl ⟨((HB.out.cell (World.block_lt_of_cell? w _ hw286_0)).trans hw286_0),((HB.out.cell (World.block_lt_of_cell? w _ hw286_1)).trans hw286_1),((HB.out.cell (World.block_lt_of_cell? w _ hw286_2)).trans hw286_2),((HB.out.cell (World.block_lt_of_cell? w _ hw286_3)).trans hw286_3),((HB.out.cell (World.block_lt_of_cell? w _ hw286_4)).trans hw286_4),((HB.out.cell (World.block_lt_of_cell? w _ hw286_5)).trans hw286_5),((HB.out.cell (World.block_lt_of_cell? w _ hw286_6)).trans hw286_6),hx287_0⟩ (fun hHeld=>?_);refine with_tabW garboardref32_leads.tab12 garboardref32_leads.bits12 (fun HT_ HW_=>?_)
              generalize wr.drew = w27 at HO_9 HO_12 HB hx286_0 hx286_1 hx286_2 hx286_3 hx286_4 hx286_5 hx286_6 hx287_0 hHeld ⊢
              refine pure_ (i:=0) (N:=some 39) (v:=?_) (a':=?_) #[true,false,false,false,false,false,false,false,false,false] rfl rfl (any_of HT_.out (by kernel_rfl)) (fun _ _ _ h=>h) (Or.inl ⟨by rfl,?_⟩) ?_ ?_
              rotate_left
              ·intro w'
               go_simp
               with_reducible rfl
              rotate_left
              ·simp only [Act.put,List.setIfInBounds_toArray,List.set_cons_zero,List.set_cons_succ,i64_w,i32_w]
               rfl
              refine pure_ (i:=1) (N:=some 40) (v:=?_) (a':=?_) #[true,true,false,false,false,false,false,false,false,false] rfl rfl (any_of HT_.out (by kernel_rfl)) (fun _ _ _ h=>h) (Or.inl ⟨by rfl,?_⟩) ?_ ?_
              rotate_left
              ·intro w'
               go_simp
               with_reducible rfl
              rotate_left
              ·simp only [Act.put,List.setIfInBounds_toArray,List.set_cons_zero,List.set_cons_succ,i64_w,i32_w]
               rfl
              refine pure_ (i:=2) (N:=some 41) (v:=?_) (a':=?_) #[true,true,true,false,false,false,false,false,false,false] rfl rfl (any_of HT_.out (by kernel_rfl)) (fun _ _ _ h=>h) (Or.inl ⟨by rfl,?_⟩) ?_ ?_
              rotate_left
              ·intro w'
               go_simp
               with_reducible rfl
              rotate_left
              ·simp only [Act.put,List.setIfInBounds_toArray,List.set_cons_zero,List.set_cons_succ,i64_w,i32_w]
               rfl
              refine pure_ (i:=4) (N:=some 43) (v:=?_) (a':=?_) #[true,true,true,false,true,false,false,false,false,false] rfl rfl (any_of HT_.out (by kernel_rfl)) (fun _ _ _ h=>h) (Or.inl ⟨by rfl,?_⟩) ?_ ?_
              rotate_left
              ·intro w'
               go_simp
               with_reducible rfl
              rotate_left
              ·simp only [Act.put,List.setIfInBounds_toArray,List.set_cons_zero,List.set_cons_succ,i64_w,i32_w]
               rfl
              refine pure_ (i:=5) (N:=some 44) (v:=?_) (a':=?_) #[true,true,true,false,true,true,false,false,false,false] rfl rfl (any_of HT_.out (by kernel_rfl)) (fun _ _ _ h=>h) (Or.inl ⟨by rfl,?_⟩) ?_ ?_
              rotate_left
              ·intro w'
               go_simp
               with_reducible rfl
              rotate_left
              ·simp only [Act.put,List.setIfInBounds_toArray,List.set_cons_zero,List.set_cons_succ,i64_w,i32_w]
               rfl
              refine pure_ (i:=6) (N:=some 45) (v:=?_) (a':=?_) #[true,true,true,false,true,true,true,false,false,false] rfl rfl (any_of HT_.out (by kernel_rfl)) (fun _ _ _ h=>h) (Or.inl ⟨by rfl,?_⟩) ?_ ?_
              rotate_left
              ·intro w'
               go_simp
               with_reducible rfl
              rotate_left
              ·simp only [Act.put,List.setIfInBounds_toArray,List.set_cons_zero,List.set_cons_succ,i64_w,i32_w]
               rfl
              refine take_ (i:=3) (N:=some 42) (v:=?_) (a':=?_) #[true,true,true,true,true,true,true,false,false,false] rfl rfl (take_ofW HT_.out HW_.out (by kernel_rfl)) (fun _ _ _ h=>h) (Or.inl ⟨by rfl,?_⟩) hHeld ?_ ?_
              rotate_left
              ·rintro w' ⟨s0,s1,s2,s3,s4,s5,s6,s7⟩
               go_simp
               with_reducible rfl
              rotate_left
              ·simp only [Act.put,List.setIfInBounds_toArray,List.set_cons_zero,List.set_cons_succ,i64_w,i32_w]
               rfl
              refine take_ (i:=7) (N:=some 46) (v:=?_) (a':=?_) #[true,true,true,true,true,true,true,true,false,false] rfl rfl (take_ofW HT_.out HW_.out (by kernel_rfl)) (fun _ _ _ h=>h) (Or.inl ⟨by rfl,?_⟩) hHeld ?_ ?_
              rotate_left
              ·rintro w' ⟨s0,s1,s2,s3,s4,s5,s6,s7⟩
               go_simp
               with_reducible rfl
              rotate_left
              ·simp only [Act.put,List.setIfInBounds_toArray,List.set_cons_zero,List.set_cons_succ,i64_w,i32_w]
               rfl
              refine one_ (i:=8) (N:=some 47) #[true,true,true,true,true,true,true,true,true,false] rfl rfl (one_of HT_.out (by kernel_rfl)) (by decide) (fun K hK=>?_)
              refine goes_ Try.func84 (by kernel_rfl) rfl #[.agg #[.int .i64 ((rd_T48 l0 t282).f0),.int .i64 ((rd_T48 l0 t282).f1),.int .i64 ((rd_T48 l0 t282).f2),.int .i64 ((rd_T48 l0 t282).f3),.string ((rd_T48 l0 t282).f4.f0),.string ((rd_T48 l0 t282).f4.f1),.string ((rd_T48 l0 t282).f4.f2)],.int .i64 (rd x9_1 x13_2)] (by rfl) rfl rfl (by (try simp only [List.map_toArray,List.map_cons,List.map_nil]);first|done|rfl|(simp only [List.length_drop,List.length_take];rfl)) ?_
              with_reducible refine (garboardref32_other.calls ((rd_T48 l0 t282).f0) ((rd_T48 l0 t282).f1) ((rd_T48 l0 t282).f2) ((rd_T48 l0 t282).f3) ((rd_T48 l0 t282).f4.f0) ((rd_T48 l0 t282).f4.f1) ((rd_T48 l0 t282).f4.f2) (rd x9_1 x13_2) t288 _ A19.out).mono ?_
              rintro e w28 ⟨rfl,hb⟩
              have HS7_:=(hb.cell (World.block_lt_of_cell? _ _ (hHeld.2.2.2.2.2.2.2))).trans (hHeld.2.2.2.2.2.2.2)
              refine ⟨_,rfl,?_⟩
              have n0_:=Aside0.mk (Kd.R_below (by (with_reducible repeat (first|apply Kd.R_alloc|apply Kd.R_drewN|apply Kd.R_drew));exact HO_9.out) hb)
              have n1_:=Aside0.mk (Kd.R_below (by (with_reducible repeat (first|apply Kd.R_alloc|apply Kd.R_drewN|apply Kd.R_drew));exact HO_12.out) hb)
              have n2_:=Aside0.mk (below_step (by repeat (first|(with_reducible first|exact HB.out|apply below_alloc|apply pw_below_drewN|apply below_drew1)|exact HB.out)) hb)
              clear HO_9
              clear HO_12
              clear HB
              have HO_9:=n0_
              have HO_12:=n1_
              have HB:=n2_
              clear n0_ n1_ n2_
              (try clear hb)
              (try clear hb2)
              (try clear hk)
              (try clear hi)
              refine hK.out _ _ ⟨((HB.out.cell (World.block_lt_of_cell? w _ hw286_0)).trans hw286_0),((HB.out.cell (World.block_lt_of_cell? w _ hw286_1)).trans hw286_1),((HB.out.cell (World.block_lt_of_cell? w _ hw286_2)).trans hw286_2),((HB.out.cell (World.block_lt_of_cell? w _ hw286_3)).trans hw286_3),((HB.out.cell (World.block_lt_of_cell? w _ hw286_4)).trans hw286_4),((HB.out.cell (World.block_lt_of_cell? w _ hw286_5)).trans hw286_5),((HB.out.cell (World.block_lt_of_cell? w _ hw286_6)).trans hw286_6),HS7_⟩ (fun hHeld=>?_)
              clear hK K
              refine norm_ (a':=?_) ?_ ?_
              rotate_left
              ·show Act.put _ (some 47) _ = _
               simp only [Act.put,List.setIfInBounds_toArray,List.set_cons_zero,List.set_cons_succ,i64_w,i32_w]
               rfl
              refine pure_ (i:=9) (N:=some 14) (v:=?_) (a':=?_) #[true,true,true,true,true,true,true,true,true,true] rfl rfl (any_of HT_.out (by kernel_rfl)) (fun _ _ _ h=>h) (Or.inl ⟨by rfl,?_⟩) ?_ ?_
              rotate_left
              ·intro w'
               go_simp
               with_reducible rfl
              rotate_left
              ·simp only [Act.put,List.setIfInBounds_toArray,List.set_cons_zero,List.set_cons_succ,i64_w,i32_w]
               rfl
              refine done_ (done_of HT_.out (by kernel_rfl)) ?_
              try go_wp2
              go_roundg k2
              case measure=>have:=HK1.out;have:=HK2.out;omega
              case rel=>exact ⟨(x12_2),(wrap64 (x13_2 + 1)),(by first|rfl|(simp;done)|(simp [*];done)),H',⟨by have:=HK1.out;have:=HK2.out;omega⟩,⟨by (with_reducible repeat (first|apply Kd.R_alloc|apply Kd.R_drewN|apply Kd.R_drew));exact HO_9.out⟩,⟨by (with_reducible repeat (first|apply Kd.R_alloc|apply Kd.R_drewN|apply Kd.R_drew));exact HO_12.out⟩,⟨by repeat (first|(with_reducible first|exact HB.out|apply below_alloc|apply pw_below_drewN|apply below_drew1)|exact HB.out)⟩⟩
            ·rw [if_neg c18] at H
             exact absurd H (by simp)
           ·rw [if_neg c17] at H
            exact absurd H (by simp)
          ·rw [if_neg c16] at H
           exact absurd H (by simp)
         ·rw [if_neg c15] at H
          have c15b0:decide (x13_2 < (x9_1.length:Int)) = false:=decide_eq_false c15
          clear c15
          have H':=Aside0.mk H
          clear H
          obtain ⟨Ao29,co29,eo29⟩:=Kd.R_slice HO_9.out
          subst eo29
          go_wp2
          go_roundg k2
          case measure=>have:=HK1.out;have:=HK2.out;omega
          case rel=>exact ⟨(x12_2),(wrap64 (x10_1 + 1)),(by first|rfl|(simp;done)|(simp [*];done)),H',⟨by have:=HK1.out;have:=HK2.out;omega⟩,⟨by (with_reducible repeat (first|apply Kd.R_alloc|apply Kd.R_drewN|apply Kd.R_drew));exact Kd.R_mono HO_12.out (fun _ hk=>trivial)⟩,⟨by repeat (first|(with_reducible first|exact HB.out|apply below_alloc|apply pw_below_drewN|apply below_drew1)|exact HB.out)⟩⟩
     ·rw [if_neg c10] at H
      exact absurd H (by simp)
    ·rw [if_neg c9] at H
     have c9b0:decide (x10_1 < (l2.length:Int)) = false:=decide_eq_false c9
     clear c9
     by_cases c30:(l2.length:Int) > 0
     ·rw [if_pos c30] at H
      have c30b0:decide (0 < (l2.length:Int)) = true:=decide_eq_true c30
      have c30b1:decide (0 < l2.length) = true:=decide_eq_true (by omega)
      clear c30
      replace H:=Option.bind_eq_some_iff.mp H
      obtain ⟨t280,A310,H⟩:=H
      replace H:(some t280) = some r:=H
      have A31:=Aside0.mk A310
      clear A310
      obtain rfl:=Option.some.inj H
      obtain ⟨Ao32,co32,eo32⟩:=Kd.R_slice HO_9.out
      subst eo32
      go_wp2_with (first|(go_at_call 50;(with_reducible refine (garboardref32_Has.calls k1 _ _ x9_1 a3 t280 _ ?side1 ?side2 A31.out).mono ?_);(case side1=>repeat (first|exact (Kd.R_reads' HO_9.out).2.2|(with_reducible refine Kd.C_alloc ?_ _)|(with_reducible refine Kd.C_drewN ?_ _)|(with_reducible refine Kd.C_drew ?_)));(case side2=>exact (Kd.R_reads' HO_9.out).2.1);rintro e w' ⟨rfl,⟨nd,rfl⟩⟩))
      go_ret
      exact ⟨by first|rfl|(simp [errW_none,errW_some]<;>rfl)|(simp [*,errW_none,errW_some]<;>rfl),by repeat (first|(with_reducible first|exact HB.out|apply below_alloc|apply pw_below_drewN|apply below_drew1)|exact HB.out)⟩
     ·rw [if_neg c30] at H
      have c30b0:decide (0 < (l2.length:Int)) = false:=decide_eq_false c30
      have c30b1:decide (0 < l2.length) = false:=decide_eq_false (by omega)
      clear c30
      obtain rfl:=Option.some.inj H
      go_wp2
      go_ret
      exact ⟨by first|rfl|(simp [errW_none,errW_some]<;>rfl)|(simp [*,errW_none,errW_some]<;>rfl),by repeat (first|(with_reducible first|exact HB.out|apply below_alloc|apply pw_below_drewN|apply below_drew1)|exact HB.out)⟩
 ·rw [if_neg c5] at H
  exact absurd H (by simp)
mutual
def garboardref32_Check.l0:Nat→List Int→List (S29)→List (S48)→List Int→Int→Option (Int)
 | 0,_,_,_,_,_=>none
 | k + 1,x2,x3,x10,x11,x12=>if x12 < (x3.length:Int) then (if 0≤x12 then (if x12 > 0 then (if 0≤(wrap64 (x12 - 1)) then (if (wrap64 (x12 - 1)) < (x3.length:Int) then (if ((rd_T29 x3 x12).f0)≤((rd_T29 x3 (wrap64 (x12 - 1))).f0) then (some 14) else ((garboardref32_Has.f k x2 ((rd_T29 x3 x12).f0)).bind fun t305=>(if t305 = true then (some 14) else ((garboardref32_leads.f k x10 x2 ((rd_T29 x3 x12).f1) ((rd_T29 x3 x12).f0)).bind fun t306=>(if t306 = true then (if x11.length < 17592186044416 then (garboardref32_Check.l0 k x2 x3 x10 (x11 ++ [(rd_T29 x3 x12).f0]) (wrap64 (x12 + 1))) else (none)) else (some 14)))))) else (none)) else (none)) else ((garboardref32_Has.f k x2 ((rd_T29 x3 x12).f0)).bind fun t310=>(if t310 = true then (some 14) else ((garboardref32_leads.f k x10 x2 ((rd_T29 x3 x12).f1) ((rd_T29 x3 x12).f0)).bind fun t311=>(if t311 = true then (if x11.length < 17592186044416 then (garboardref32_Check.l0 k x2 x3 x10 (x11 ++ [(rd_T29 x3 x12).f0]) (wrap64 (x12 + 1))) else (none)) else (some 14)))))) else (none)) else (garboardref32_Check.l1 k x10 x11 0)
def garboardref32_Check.l1:Nat→List (S48)→List Int→Int→Option (Int)
 | 0,_,_,_=>none
 | k + 1,x10,x11,x14=>if x14 < (x10.length:Int) then (if 0≤x14 then ((garboardref32_Has.f k x11 ((rd_T48 x10 x14).f1)).bind fun t316=>((garboardref32_Has.f k x11 ((rd_T48 x10 x14).f2)).bind fun t318=>(if (t316 != t318) = true then (some 14) else (garboardref32_Check.l1 k x10 x11 (wrap64 (x14 + 1)))))) else (none)) else (some 0)
end
def garboardref32_Check.f (k:Nat) (l0:List (S48)) (l1:List Int) (l2:List Int) (l3:List (S29)):Option (Int):=(garboardref32_asks.f k l0 l1 l2).bind fun t292=>(if t292 = 0 then ((garboardref32_opens.f k l0 l1).bind fun t293=>((some (([]:List Int):List Int)).bind fun y296=>(if y296.length + l2.length < 17592186044416 then (garboardref32_Check.l0 k l2 l3 t293 (y296 ++ l2) 0) else (none)))) else (some t292))
def garboardref32_Check.T10:Bool × List (List Nat × List Nat):=(true,[([],[]),([0],[0]),([1],[1]),([2],[2]),([3,2],[2,3]),([2],[2]),([2],[2]),([6,2],[2,6]),([5,7,2],[2,5,7]),([8,2],[2,8]),([9,2],[2,9]),([4,10,2],[2,4,10]),([2,11],[2,11]),([12,2],[12]),([13],[13]),([13],[13]),([15,13],[13,15]),([14,16,13,13],[13,14,16]),([13,17],[13,17]),([18,17],[18]),([19],[19]),([19],[19]),([19],[19]),([22,19],[19,22]),([19],[19]),([24,19],[19,24]),([20,21,23,25,19,19],[19,20,21,23,25]),([26,19],[19,26]),([19,27],[19,27])])
def garboardref32_Check.B10:List Nat:=[0,1,3,7,15,7,7,71,231,487,999,2047,4095,8191,16383,16383,49151,131071,262143,524287,1048575,1048575,1048575,5242879,1048575,17825791,67108863,134217727,268435455]
theorem garboardref32_Check.tab10:rtab .any (opsOf Try.f15 10) = garboardref32_Check.T10:=by kernel_rfl
theorem garboardref32_Check.bits10:waitsOk garboardref32_Check.T10.2 garboardref32_Check.B10 = true:=by kernel_rfl
def garboardref32_Check.T16:Bool × List (List Nat × List Nat):=(true,[([],[]),([],[]),([],[]),([1,2],[1,2]),([3],[3]),([4],[4]),([0,5],[0,5]),([],[]),([],[]),([],[]),([8,9],[8,9]),([10],[10]),([11],[11]),([7,12,6],[7,12]),([6,13],[6,13])])
def garboardref32_Check.B16:List Nat:=[0,0,0,6,14,30,63,0,0,0,768,1792,3840,8191,16383]
theorem garboardref32_Check.tab16:rtab .any (opsOf Try.f15 16) = garboardref32_Check.T16:=by kernel_rfl
theorem garboardref32_Check.bits16:waitsOk garboardref32_Check.T16.2 garboardref32_Check.B16 = true:=by kernel_rfl
set_option maxHeartbeats 8000000 in
set_option maxRecDepth 100000 in
theorem garboardref32_Check.calls (k:Nat) (A0:Option Addr) (c0:Nat) (l0:List (S48)) (A1:Option Addr) (c1:Nat) (l1:List Int) (A2:Option Addr) (c2:Nat) (l2:List Int) (A3:Option Addr) (c3:Nat) (l3:List (S29)) (r:Int) (w:World) (hr0:Kd.C k48 w A0 l0.length l0) (hc0:l0.length≤c0) (hr1:Kd.C (Kd.int .i64) w A1 l1.length l1) (hc1:l1.length≤c1) (hr2:Kd.C (Kd.int .i64) w A2 l2.length l2) (hc2:l2.length≤c2) (hr3:Kd.C k29 w A3 l3.length l3) (hc3:l3.length≤c3) (h:garboardref32_Check.f k l0 l1 l2 l3 = some r) :
  Calls Try.prog 15 #[.slice A0 l0.length c0,.slice A1 l1.length c1,.slice A2 l2.length c2,.slice A3 l3.length c3] w fun e w'=>e = .returned (.int .i64 r)∧Below w.heap.size w w':=by
 have hu29:=Try.underlying29
 have HR0:=Aside0.mk hr0
 have HC0:=Aside0.mk hc0
 clear hr0 hc0
 have HR1:=Aside0.mk hr1
 have HC1:=Aside0.mk hc1
 clear hr1 hc1
 have HR2:=Aside0.mk hr2
 have HC2:=Aside0.mk hc2
 clear hr2 hc2
 have HR3:=Aside0.mk hr3
 have HC3:=Aside0.mk hc3
 clear hr3 hc3
 have HB:=Aside0.mk (Below.refl w.heap.size w)
 have H:((garboardref32_asks.f k l0 l1 l2).bind fun t292=>(if t292 = 0 then ((garboardref32_opens.f k l0 l1).bind fun t293=>((some (([]:List Int):List Int)).bind fun y296=>(if y296.length + l2.length < 17592186044416 then (garboardref32_Check.l0 k l2 l3 t293 (y296 ++ l2) 0) else (none)))) else (some t292))) = some r:=h
 clear h
 replace H:=Option.bind_eq_some_iff.mp H
 obtain ⟨t292,A50,H⟩:=H
 replace H:(if t292 = 0 then ((garboardref32_opens.f k l0 l1).bind fun t293=>((some (([]:List Int):List Int)).bind fun y296=>(if y296.length + l2.length < 17592186044416 then (garboardref32_Check.l0 k l2 l3 t293 (y296 ++ l2) 0) else (none)))) else (some t292)) = some r:=H
 have A5:=Aside0.mk A50
 clear A50
 by_cases c6:t292 = 0
 ·rw [if_pos c6] at H
  have c6b0:(t292 == 0) = true:=beq_iff_eq.mpr c6
  have c6b1:(t292 != 0) = false:=bne_eq_false_iff_eq.mpr c6
  clear c6
  replace H:=Option.bind_eq_some_iff.mp H
  obtain ⟨t293,A70,H⟩:=H
  replace H:((some (([]:List Int):List Int)).bind fun y296=>(if y296.length + l2.length < 17592186044416 then (garboardref32_Check.l0 k l2 l3 t293 (y296 ++ l2) 0) else (none))) = some r:=H
  have A7:=Aside0.mk A70
  clear A70
  obtain ⟨y296,hy296⟩:∃ y_:List Int,y_ = (([]:List Int)):=⟨_,rfl⟩
  replace H:(if y296.length + l2.length < 17592186044416 then (garboardref32_Check.l0 k l2 l3 t293 (y296 ++ l2) 0) else (none)) = some r:=by first|(rw [hy296];with_reducible exact H)|(have H2_:=(Option.bind_some _ _).symm.trans H;rw [hy296];with_reducible exact H2_)|(have H2_:=(Option.bind_some _ _).symm.trans H;with_reducible exact H2_)|with_reducible exact H|(rw [hy296];exact H)|exact H
  have Ny296:=Aside0.mk hy296
  clear hy296
  by_cases c8:y296.length + l2.length < 17592186044416
  ·rw [if_pos c8] at H
   have LMc8:=Aside0.mk c8
   clear c8
   obtain ⟨y299,hy299⟩:∃ y_:List Int,y_ = (y296 ++ l2):=⟨_,rfl⟩
   replace H:(garboardref32_Check.l0 k l2 l3 t293 y299 0) = some r:=by first|(rw [hy299];with_reducible exact H)|(have H2_:=(Option.bind_some _ _).symm.trans H;rw [hy299];with_reducible exact H2_)|(have H2_:=(Option.bind_some _ _).symm.trans H;with_reducible exact H2_)|with_reducible exact H|(rw [hy299];exact H)|exact H
   have Ny299:=Aside0.mk hy299
   clear hy299
   have H':=Aside0.mk H
   clear H
   go_enter Try.func15,Try.ntmps15
   go_wp2_with (first|((with_reducible refine gate_callee (f:=48) rfl ?_);refine goesL_ (some 18) rfl rfl Try.func48 (by kernel_rfl) rfl #[.slice A0 l0.length c0,.slice A1 l1.length c1,.slice A2 l2.length c2] rfl (by (try simp only [List.map_toArray,List.map_cons,List.map_nil]);first|done|rfl|(simp only [List.length_drop,List.length_take];rfl)) ?_;(with_reducible refine (garboardref32_asks.calls k _ _ l0 _ _ l1 _ _ l2 t292 _ ?side1 ?side2 ?side3 ?side4 ?side5 ?side6 A5.out).mono ?_);(case side1=>repeat (first|exact HR0.out|(with_reducible refine Kd.C_alloc ?_ _)|(with_reducible refine Kd.C_drewN ?_ _)|(with_reducible refine Kd.C_drew ?_)));(case side2=>exact HC0.out);(case side3=>repeat (first|exact HR1.out|(with_reducible refine Kd.C_alloc ?_ _)|(with_reducible refine Kd.C_drewN ?_ _)|(with_reducible refine Kd.C_drew ?_)));(case side4=>exact HC1.out);(case side5=>repeat (first|exact HR2.out|(with_reducible refine Kd.C_alloc ?_ _)|(with_reducible refine Kd.C_drewN ?_ _)|(with_reducible refine Kd.C_drew ?_)));(case side6=>exact HC2.out);rintro e w9 ⟨rfl,hb⟩;refine ⟨_,rfl,?_⟩;have n0_:=Aside0.mk (below_step (by repeat (first|(with_reducible first|exact HB.out|apply below_alloc|apply pw_below_drewN|apply below_drew1)|exact HB.out)) hb);clear HB;have HB:=n0_;clear n0_;(try clear hb);(try clear hb2);(try clear hk);(try clear hi))|((with_reducible refine gate_callee (f:=49) rfl ?_);refine goesL_ (some 24) rfl rfl Try.func49 (by kernel_rfl) rfl #[.slice A0 l0.length c0,.slice A1 l1.length c1] rfl (by (try simp only [List.map_toArray,List.map_cons,List.map_nil]);first|done|rfl|(simp only [List.length_drop,List.length_take];rfl)) ?_;(with_reducible refine (garboardref32_opens.calls k _ _ l0 _ _ l1 t293 _ ?side1 ?side2 ?side3 ?side4 A7.out).mono ?_);(case side1=>repeat (first|exact (Kd.C_below HR0.out HB.out)|(with_reducible refine Kd.C_alloc ?_ _)|(with_reducible refine Kd.C_drewN ?_ _)|(with_reducible refine Kd.C_drew ?_)));(case side2=>exact HC0.out);(case side3=>repeat (first|exact (Kd.C_below HR1.out HB.out)|(with_reducible refine Kd.C_alloc ?_ _)|(with_reducible refine Kd.C_drewN ?_ _)|(with_reducible refine Kd.C_drew ?_)));(case side4=>exact HC1.out);rintro e w10 ⟨v294,rfl,ho0,hb⟩;refine ⟨_,rfl,?_⟩;have n0_:=Aside0.mk (Kd.R_lower ho0 (below_size (by repeat (first|(with_reducible first|exact HB.out|apply below_alloc|apply pw_below_drewN|apply below_drew1)|exact HB.out))));have n1_:=Aside0.mk (below_step (by repeat (first|(with_reducible first|exact HB.out|apply below_alloc|apply pw_below_drewN|apply below_drew1)|exact HB.out)) hb);clear HB;have HO295:=n0_;have HB:=n1_;clear n0_ n1_;(try clear hb);(try clear hb2);(try clear hk);(try clear hi);(try clear ho0))|((with_reducible refine gate_dst (N:=25) rfl ?_);refine Kd.R_lit (Kd.int .i64) _ 3 ?hg (N:=25) ?hd (xs:=([]:List Int)) (inner:=[]) (ok:=fun _=>True) (okp:=fun _=>True) ?hr ?hp (fun _ hk=>hk) trivial (Below.refl _ _) (Nat.le_refl _) (by simp) ?_;(case hd=>rfl);(case hg=>rfl);(case hr=>first|(go_simp;done)|(go_simp;rfl));(case hp=>exact (Reps.none _ _));intro v297 w11 ho12 hb hg_ hnew_;clear hg_ hnew_;(first|rw [← Ny296.out] at ho12|(simp only [Int.reduceToNat] at ho12;rw [← Ny296.out] at ho12));have n0_:=Aside0.mk (Kd.R_below (by (with_reducible repeat (first|apply Kd.R_alloc|apply Kd.R_drewN|apply Kd.R_drew));exact HO295.out) hb);have n1_:=Aside0.mk (Kd.R_lower ho12 (below_size (by repeat (first|(with_reducible first|exact HB.out|apply below_alloc|apply pw_below_drewN|apply below_drew1)|exact HB.out))));have n2_:=Aside0.mk (below_step (by repeat (first|(with_reducible first|exact HB.out|apply below_alloc|apply pw_below_drewN|apply below_drew1)|exact HB.out)) hb);clear HO295;clear HB;have HO295:=n0_;have HO298:=n1_;have HB:=n2_;clear n0_ n1_ n2_;clear hb ho12)|((with_reducible refine gate_builtin (b:=.append) (xs:=#[.tmp 25,.tmp 26]) rfl ?_);at_builtin;refine Kd.R_append_rows (Kd.int .i64) (w0:=w) w.heap.size rfl (.tmp 25) (.tmp 26) 23 3 (.int .i64 0) 8 rfl Try.underlying23 info3 rfl (by decide) (by omega) v297 y296 l2 _ _ _ (fun _=>True) (fun _=>False) rfl rfl ?aO ?aR (fun _ _ h=>h) (fun _ h=>h.elim) ?aF ?aB ?aS ?aL ?_;(case aR=>repeat (first|exact (Kd.C_below HR2.out HB.out)|(with_reducible refine Kd.C_alloc ?_ _)|(with_reducible refine Kd.C_drewN ?_ _)|(with_reducible refine Kd.C_drew ?_)));(case aB=>exact (by repeat (first|(with_reducible first|exact HB.out|apply below_alloc|apply pw_below_drewN|apply below_drew1)|exact HB.out)));(case aF=>exact (fun _ _=>trivial));(case aO=>exact (by (with_reducible repeat (first|apply Kd.R_alloc|apply Kd.R_drewN|apply Kd.R_drew));exact HO298.out));(case aS=>exact (below_size (by repeat (first|(with_reducible first|exact HB.out|apply below_alloc|apply pw_below_drewN|apply below_drew1)|exact HB.out))));(case aL=>have:=LMc8.out;omega);intro v300 w13 ho hb hg hat;rw [← Ny299.out] at ho;have n0_:=Aside0.mk (Kd.R_over' (by (with_reducible repeat (first|apply Kd.R_alloc|apply Kd.R_drewN|apply Kd.R_drew));exact HO295.out) (Kd.R_typed (by (with_reducible repeat (first|apply Kd.R_alloc|apply Kd.R_drewN|apply Kd.R_drew));exact HO298.out)) (by decide) hg);have n1_:=Aside0.mk (hb);have n2_:=Aside0.mk (ho);clear HO295;clear HB;clear HO298;have HO295:=n0_;have HB:=n1_;have HO301:=n2_;clear n0_ n1_ n2_;clear ho hb hg hat))
   go_loopg [11,12] k (fun kq v11 v12 w'=>∃ (x11_1:List Int) (x12_1:Int),v12 = .int .i64 x12_1∧Aside0 (garboardref32_Check.l0 kq l2 l3 t293 x11_1 x12_1 = some r)∧Aside0 (kq≤k)∧Aside0 (Kd.R k48 48 w' w.heap.size (fun _=>True) v294 t293)∧Aside0 (Kd.R (Kd.int .i64) 3 w' w.heap.size (fun _=>True) v11 x11_1)∧Aside0 (Below w.heap.size w w'))
   case atStart=>exact ⟨(y299),(0),(by first|rfl|(simp;done)|(simp [*];done)),H',⟨Nat.le_refl _⟩,⟨by (with_reducible repeat (first|apply Kd.R_alloc|apply Kd.R_drewN|apply Kd.R_drew));exact HO295.out⟩,⟨by (with_reducible repeat (first|apply Kd.R_alloc|apply Kd.R_drewN|apply Kd.R_drew));exact HO301.out⟩,⟨by repeat (first|(with_reducible first|exact HB.out|apply below_alloc|apply pw_below_drewN|apply below_drew1)|exact HB.out)⟩⟩
   case round =>
    clear H'
    try clear c1
    try clear c2
    try clear p2
    try clear c3
    try clear c4
    try clear c6
    try clear c6b0
    try clear c6b1
    try clear c8
    obtain ⟨x11_1,x12_1,rfl,HA,HK1,HO_10,HO_11,HB⟩:=hrel
    cases gk with
    | zero=>exact absurd HA.out (by simp [garboardref32_Check.l0])
    | succ k1 =>
     have H:=HA.out
     clear HA
     simp only [garboardref32_Check.l0] at H
     by_cases c14:x12_1 < (l3.length:Int)
     ·rw [if_pos c14] at H
      have c14b0:decide (x12_1 < (l3.length:Int)) = true:=decide_eq_true c14
      clear c14
      by_cases c15:0≤x12_1
      ·rw [if_pos c15] at H
       have c15b0:decide (0≤x12_1) = true:=decide_eq_true c15
       clear c15
       by_cases c16:x12_1 > 0
       ·rw [if_pos c16] at H
        have c16b0:decide (0 < x12_1) = true:=decide_eq_true c16
        clear c16
        obtain ⟨ji17,hji17⟩:∃ j_:Int,(wrap64 (x12_1 - 1)) = j_:=⟨_,rfl⟩
        replace H:(if 0≤(ji17) then (if (ji17) < (l3.length:Int) then (if ((rd_T29 l3 x12_1).f0)≤((rd_T29 l3 (ji17)).f0) then (some 14) else ((garboardref32_Has.f k1 l2 ((rd_T29 l3 x12_1).f0)).bind fun t305=>(if t305 = true then (some 14) else ((garboardref32_leads.f k1 t293 l2 ((rd_T29 l3 x12_1).f1) ((rd_T29 l3 x12_1).f0)).bind fun t306=>(if t306 = true then (if x11_1.length < 17592186044416 then (garboardref32_Check.l0 k1 l2 l3 t293 (x11_1 ++ [(rd_T29 l3 x12_1).f0]) (wrap64 (x12_1 + 1))) else (none)) else (some 14)))))) else (none)) else (none)) = some r:=by first|(rw [hji17] at H;exact H)|(simp only [hji17] at H ⊢;exact H)
        have hji17w:(IntKind.i64.wrap (x12_1 - 1)) = ji17:=(i64_w _).trans hji17
        by_cases c18:0≤(ji17)
        ·rw [if_pos c18] at H
         have c18b0:decide (0≤(ji17)) = true:=decide_eq_true c18
         clear c18
         by_cases c19:(ji17) < (l3.length:Int)
         ·rw [if_pos c19] at H
          have c19b0:decide ((ji17) < (l3.length:Int)) = true:=decide_eq_true c19
          clear c19
          by_cases c20:((rd_T29 l3 x12_1).f0)≤((rd_T29 l3 (ji17)).f0)
          ·rw [if_pos c20] at H
           have c20b0:decide (((rd_T29 l3 x12_1).f0)≤((rd_T29 l3 (ji17)).f0)) = true:=decide_eq_true c20
           clear c20
           obtain rfl:=Option.some.inj H
           have p302:0≤(x12_1:Int):=of_decide_eq_true (by first|(with_reducible assumption)|assumption)
           have q302:x12_1 < (l3.length:Int):=of_decide_eq_true (by first|(with_reducible assumption)|assumption)
           obtain ⟨ad302,A302_1,c302_1,e302,hx302_0,hx302_1,hl302_1,hi302_1⟩:=at_T29 HR3.out x12_1 p302 q302
           cases e302
           replace hx302_0:=(HB.out.cell (World.block_lt_of_cell? w _ hx302_0)).trans hx302_0
           replace hx302_1:=(HB.out.cell (World.block_lt_of_cell? w _ hx302_1)).trans hx302_1
           have HR302_1:=Aside0.mk hi302_1
           have HC302_1:=Aside0.mk hl302_1
           clear hi302_1 hl302_1
           replace p302:=eq_true p302
           replace q302:=eq_true q302
           try go_wp2_with (first|((with_reducible refine gate_dst (N:=13) rfl ?_);refine box_event ?hg (N:=13) ?hd (cs:=#[.int .i64 0,.slice none 0 0]) (t:=29) ?hr ?_;(case hd=>rfl);(case hg=>rfl);(case hr=>first|(go_simp;done)|(go_simp;rfl));intro gb303 hg w21 hbox hb;have n0_:=Aside0.mk (Kd.R_below (by (with_reducible repeat (first|apply Kd.R_alloc|apply Kd.R_drewN|apply Kd.R_drew));exact HO_10.out) hb);have n1_:=Aside0.mk (Kd.R_below (by (with_reducible repeat (first|apply Kd.R_alloc|apply Kd.R_drewN|apply Kd.R_drew));exact HO_11.out) hb);have n2_:=Aside0.mk (below_step (by repeat (first|(with_reducible first|exact HB.out|apply below_alloc|apply pw_below_drewN|apply below_drew1)|exact HB.out)) hb);have n3_:=Aside0.mk (hbox);have n4_:=Aside0.mk ((by rw [hg];exact (below_size (by repeat (first|(with_reducible first|exact HB.out|apply below_alloc|apply pw_below_drewN|apply below_drew1)|exact HB.out))):w.heap.size≤gb303));have n5_:=Aside0.mk ((by rw [hg];exact (below_size (by repeat (first|(with_reducible first|exact HB.out|apply below_alloc|apply pw_below_drewN|apply below_drew1)|exact HB.out))):w.heap.size≤gb303));clear HO_10;clear HO_11;clear HB;have HO_10:=n0_;have HO_11:=n1_;have HB:=n2_;have BK303:=n3_;have GW303:=n4_;have GE303:=n5_;clear n0_ n1_ n2_ n3_ n4_ n5_;clear hb hbox hg;have hcz22_0:w21.cell? ⟨gb303,0,none⟩ = some (.int .i64 0):=(blk_cell BK303.out 0).trans rfl;have hcz22_1:w21.cell? ⟨gb303,1,none⟩ = some (.slice none 0 0):=(blk_cell BK303.out 1).trans rfl;have hfz22_0:=blk_frozen BK303.out 0;have hfz22_1:=blk_frozen BK303.out 1))
           have n0_:Aside0 (Kd.R k48 48 ((w21.setCell ⟨gb303,0,none⟩ (.int .i64 ((rd_T29 l3 x12_1).f0))).setCell ⟨gb303,1,none⟩ (.slice A302_1 ((rd_T29 l3 x12_1).f1).length c302_1)) w.heap.size (fun _=>True) v294 t293):=⟨by (with_reducible repeat (first|apply Kd.R_alloc|apply Kd.R_drewN|apply Kd.R_drew));exact Kd.R_mono (Kd.R_far (p:=⟨gb303,1,none⟩) (Kd.R_far (p:=⟨gb303,0,none⟩) (Kd.R_types HO_10.out BK303.out (by decide)) (fun _ hk=>hk.2) (.int .i64 ((rd_T29 l3 x12_1).f0))) (fun _ hk=>hk.2) (.slice A302_1 ((rd_T29 l3 x12_1).f1).length c302_1)) (fun _ hk=>trivial)⟩
           have n1_:Aside0 (Kd.R (Kd.int .i64) 3 ((w21.setCell ⟨gb303,0,none⟩ (.int .i64 ((rd_T29 l3 x12_1).f0))).setCell ⟨gb303,1,none⟩ (.slice A302_1 ((rd_T29 l3 x12_1).f1).length c302_1)) w.heap.size (fun _=>True) u11 x11_1):=⟨by (with_reducible repeat (first|apply Kd.R_alloc|apply Kd.R_drewN|apply Kd.R_drew));exact Kd.R_mono (Kd.R_far (p:=⟨gb303,1,none⟩) (Kd.R_far (p:=⟨gb303,0,none⟩) (Kd.R_types HO_11.out BK303.out (by decide)) (fun _ hk=>hk.2) (.int .i64 ((rd_T29 l3 x12_1).f0))) (fun _ hk=>hk.2) (.slice A302_1 ((rd_T29 l3 x12_1).f1).length c302_1)) (fun _ hk=>trivial)⟩
           have n2_:Aside0 (((w21.setCell ⟨gb303,0,none⟩ (.int .i64 ((rd_T29 l3 x12_1).f0))).setCell ⟨gb303,1,none⟩ (.slice A302_1 ((rd_T29 l3 x12_1).f1).length c302_1)).heap[gb303]? = some (.cells #[.int .i64 ((rd_T29 l3 x12_1).f0),.slice A302_1 ((rd_T29 l3 x12_1).f1).length c302_1] 29 (0,0))):=⟨by (with_reducible repeat (first|refine blk_drewN ?_ _|refine blk_drew ?_|refine blk_alloc ?_ _));refine blk_put (cs:=#[.int .i64 ((rd_T29 l3 x12_1).f0),.slice none 0 0]) ?_ 1 _ rfl;(with_reducible repeat (first|refine blk_drewN ?_ _|refine blk_drew ?_|refine blk_alloc ?_ _));refine blk_put (cs:=#[.int .i64 0,.slice none 0 0]) ?_ 0 _ rfl;(with_reducible repeat (first|refine blk_drewN ?_ _|refine blk_drew ?_|refine blk_alloc ?_ _));exact BK303.out⟩
           have n3_:Aside0 (Below w.heap.size w ((w21.setCell ⟨gb303,0,none⟩ (.int .i64 ((rd_T29 l3 x12_1).f0))).setCell ⟨gb303,1,none⟩ (.slice A302_1 ((rd_T29 l3 x12_1).f1).length c302_1))):=⟨by repeat (first|(with_reducible first|exact HB.out|apply below_alloc|apply pw_below_drewN|apply below_drew1|refine below_set ?_ GE303.out)|exact HB.out)⟩
           (try clear HO_10)
           (try clear HO_11)
           (try clear BK303)
           (try clear HB)
           generalize ((w21.setCell ⟨gb303,0,none⟩ (.int .i64 ((rd_T29 l3 x12_1).f0))).setCell ⟨gb303,1,none⟩ (.slice A302_1 ((rd_T29 l3 x12_1).f1).length c302_1)) = w23 at n0_ n1_ n2_ n3_ ⊢
           have HO_10:=n0_
           have HO_11:=n1_
           have BK303:=n2_
           have HB:=n3_
           clear n0_ n1_ n2_ n3_
           have n0_:=Aside0.mk (Kd.R_drew HO_10.out)
           have n1_:=Aside0.mk (Kd.R_drew HO_11.out)
           have n2_:=Aside0.mk (blk_drew BK303.out)
           have n3_:=Aside0.mk (below_drew1 HB.out)
           clear HO_10
           clear HO_11
           clear BK303
           clear HB
           have HO_10:=n0_
           have HO_11:=n1_
           have BK303:=n2_
           have HB:=n3_
           clear n0_ n1_ n2_ n3_
           have p304:0≤((ji17):Int):=of_decide_eq_true (by first|(with_reducible assumption)|assumption)
           have q304:(ji17) < (l3.length:Int):=of_decide_eq_true (by first|(with_reducible assumption)|assumption)
           obtain ⟨ad304,A304_1,c304_1,e304,hx304_0,hx304_1,hl304_1,hi304_1⟩:=at_T29 HR3.out (ji17) p304 q304
           have hw304_1:=hx304_1
           have hw304_0:=hx304_0
           obtain rfl:ad302 = ad304:=(by injection e304)
           replace hx304_0:=(HB.out.cell (World.block_lt_of_cell? w _ hx304_0)).trans hx304_0
           replace hx304_1:=(HB.out.cell (World.block_lt_of_cell? w _ hx304_1)).trans hx304_1
           have HR304_1:=Aside0.mk hi304_1
           have HC304_1:=Aside0.mk hl304_1
           clear hi304_1 hl304_1
           replace p304:=eq_true p304
           replace q304:=eq_true q304
           refine start_ (n:=29) (S:=fun w'=>w'.cell? ⟨gb303,0,none⟩ = some (.int .i64 ((rd_T29 l3 x12_1).f0))∧w'.cell? ⟨gb303,1,none⟩ = some (.slice A302_1 ((rd_T29 l3 x12_1).f1).length c302_1)∧w'.cell? (ad302.add (((ji17)).toNat * 2)) = some (.int .i64 ((rd_T29 l3 (ji17)).f0))∧w'.cell? ⟨(ad302.add (((ji17)).toNat * 2)).block,(ad302.add (((ji17)).toNat * 2)).off + 1,none⟩ = some (.slice A304_1 ((rd_T29 l3 (ji17)).f1).length c304_1)) (ds:=[]) #[false,false,false,false,false,false,false,false,false,false,false,false,false,false,false,false,false,false,false,false,false,false,false,false,false,false,false,false,false] (by kernel_rfl) rfl rfl ⟨(blk_cell BK303.out 0).trans rfl,(blk_cell BK303.out 1).trans rfl,((HB.out.cell (World.block_lt_of_cell? w _ hw304_0)).trans hw304_0),((HB.out.cell (World.block_lt_of_cell? w _ hw304_1)).trans hw304_1)⟩ (fun hHeld=>?_);refine with_tabW garboardref32_Check.tab10 garboardref32_Check.bits10 (fun HT_ HW_=>?_)
           generalize w23.drew = w24 at HO_10 HO_11 BK303 HB HR304_1 hx304_0 hx304_1 hHeld ⊢
           refine pure_ (i:=0) (N:=some 38) (v:=?_) (a':=?_) #[true,false,false,false,false,false,false,false,false,false,false,false,false,false,false,false,false,false,false,false,false,false,false,false,false,false,false,false,false] rfl rfl (any_of HT_.out (by kernel_rfl)) (fun _ _ _ h=>h) (Or.inl ⟨by rfl,?_⟩) ?_ ?_
           rotate_left
           ·intro w'
            go_simp
            with_reducible rfl
           rotate_left
           ·simp only [Act.put,List.setIfInBounds_toArray,List.set_cons_zero,List.set_cons_succ,i64_w,i32_w]
            rfl
           refine pure_ (i:=1) (N:=some 39) (v:=?_) (a':=?_) #[true,true,false,false,false,false,false,false,false,false,false,false,false,false,false,false,false,false,false,false,false,false,false,false,false,false,false,false,false] rfl rfl (any_of HT_.out (by kernel_rfl)) (fun _ _ _ h=>h) (Or.inl ⟨by rfl,?_⟩) ?_ ?_
           rotate_left
           ·intro w'
            go_simp
            with_reducible rfl
           rotate_left
           ·simp only [Act.put,List.setIfInBounds_toArray,List.set_cons_zero,List.set_cons_succ,i64_w,i32_w]
            rfl
           refine pure_ (i:=2) (N:=some 40) (v:=?_) (a':=?_) #[true,true,true,false,false,false,false,false,false,false,false,false,false,false,false,false,false,false,false,false,false,false,false,false,false,false,false,false,false] rfl rfl (any_of HT_.out (by kernel_rfl)) (fun _ _ _ h=>h) (Or.inl ⟨by rfl,?_⟩) ?_ ?_
           rotate_left
           ·intro w'
            go_simp
            with_reducible rfl
           rotate_left
           ·simp only [Act.put,List.setIfInBounds_toArray,List.set_cons_zero,List.set_cons_succ,i64_w,i32_w]
            rfl
           refine pure_ (i:=3) (N:=some 41) (v:=?_) (a':=?_) #[true,true,true,true,false,false,false,false,false,false,false,false,false,false,false,false,false,false,false,false,false,false,false,false,false,false,false,false,false] rfl rfl (any_of HT_.out (by kernel_rfl)) (fun _ _ _ h=>h) (Or.inl ⟨by rfl,?_⟩) ?_ ?_
           rotate_left
           ·intro w'
            go_simp
            with_reducible rfl
           rotate_left
           ·simp only [Act.put,List.setIfInBounds_toArray,List.set_cons_zero,List.set_cons_succ,i64_w,i32_w]
            rfl
           refine pure_ (i:=5) (N:=some 43) (v:=?_) (a':=?_) #[true,true,true,true,false,true,false,false,false,false,false,false,false,false,false,false,false,false,false,false,false,false,false,false,false,false,false,false,false] rfl rfl (any_of HT_.out (by kernel_rfl)) (fun _ _ _ h=>h) (Or.inl ⟨by rfl,?_⟩) ?_ ?_
           rotate_left
           ·intro w'
            go_simp
            with_reducible rfl
           rotate_left
           ·simp only [Act.put,List.setIfInBounds_toArray,List.set_cons_zero,List.set_cons_succ,i64_w,i32_w]
            rfl
           refine pure_ (i:=6) (N:=some 44) (v:=?_) (a':=?_) #[true,true,true,true,false,true,true,false,false,false,false,false,false,false,false,false,false,false,false,false,false,false,false,false,false,false,false,false,false] rfl rfl (any_of HT_.out (by kernel_rfl)) (fun _ _ _ h=>h) (Or.inl ⟨by rfl,?_⟩) ?_ ?_
           rotate_left
           ·intro w'
            go_simp
            with_reducible rfl
           rotate_left
           ·simp only [Act.put,List.setIfInBounds_toArray,List.set_cons_zero,List.set_cons_succ,i64_w,i32_w]
            rfl
           refine pure_ (i:=7) (N:=some 45) (v:=?_) (a':=?_) #[true,true,true,true,false,true,true,true,false,false,false,false,false,false,false,false,false,false,false,false,false,false,false,false,false,false,false,false,false] rfl rfl (any_of HT_.out (by kernel_rfl)) (fun _ _ _ h=>h) (Or.inl ⟨by rfl,?_⟩) ?_ ?_
           rotate_left
           ·intro w'
            go_simp
            with_reducible rfl
           rotate_left
           ·simp only [Act.put,List.setIfInBounds_toArray,List.set_cons_zero,List.set_cons_succ,i64_w,i32_w]
            rfl
           refine pure_ (i:=8) (N:=some 46) (v:=?_) (a':=?_) #[true,true,true,true,false,true,true,true,true,false,false,false,false,false,false,false,false,false,false,false,false,false,false,false,false,false,false,false,false] rfl rfl (any_of HT_.out (by kernel_rfl)) (fun _ _ _ h=>h) (Or.inl ⟨by rfl,?_⟩) ?_ ?_
           rotate_left
           ·intro w'
            go_simp
            with_reducible rfl
           rotate_left
           ·simp only [Act.put,List.setIfInBounds_toArray,List.set_cons_zero,List.set_cons_succ,i64_w,i32_w]
            rfl
           refine pure_ (i:=9) (N:=some 47) (v:=?_) (a':=?_) #[true,true,true,true,false,true,true,true,true,true,false,false,false,false,false,false,false,false,false,false,false,false,false,false,false,false,false,false,false] rfl rfl (any_of HT_.out (by kernel_rfl)) (fun _ _ _ h=>h) (Or.inl ⟨by rfl,?_⟩) ?_ ?_
           rotate_left
           ·intro w'
            go_simp
            with_reducible rfl
           rotate_left
           ·simp only [Act.put,List.setIfInBounds_toArray,List.set_cons_zero,List.set_cons_succ,i64_w,i32_w]
            rfl
           refine take_ (i:=4) (N:=some 42) (v:=?_) (a':=?_) #[true,true,true,true,true,true,true,true,true,true,false,false,false,false,false,false,false,false,false,false,false,false,false,false,false,false,false,false,false] rfl rfl (take_ofW HT_.out HW_.out (by kernel_rfl)) (fun _ _ _ h=>h) (Or.inl ⟨by rfl,?_⟩) hHeld ?_ ?_
           rotate_left
           ·rintro w' ⟨s0,s1,s2,s3⟩
            go_simp
            with_reducible rfl
           rotate_left
           ·simp only [Act.put,List.setIfInBounds_toArray,List.set_cons_zero,List.set_cons_succ,i64_w,i32_w]
            rfl
           refine take_ (i:=10) (N:=some 48) (v:=?_) (a':=?_) #[true,true,true,true,true,true,true,true,true,true,true,false,false,false,false,false,false,false,false,false,false,false,false,false,false,false,false,false,false] rfl rfl (take_ofW HT_.out HW_.out (by kernel_rfl)) (fun _ _ _ h=>h) (Or.inl ⟨by rfl,?_⟩) hHeld ?_ ?_
           rotate_left
           ·rintro w' ⟨s0,s1,s2,s3⟩
            go_simp
            with_reducible rfl
           rotate_left
           ·simp only [Act.put,List.setIfInBounds_toArray,List.set_cons_zero,List.set_cons_succ,i64_w,i32_w]
            rfl
           refine pure_ (i:=11) (N:=some 49) (v:=?_) (a':=?_) #[true,true,true,true,true,true,true,true,true,true,true,true,false,false,false,false,false,false,false,false,false,false,false,false,false,false,false,false,false] rfl rfl (any_of HT_.out (by kernel_rfl)) (fun _ _ _ h=>h) (Or.inl ⟨by rfl,?_⟩) ?_ ?_
           rotate_left
           ·intro w'
            go_simp
            with_reducible rfl
           rotate_left
           ·simp only [Act.put,List.setIfInBounds_toArray,List.set_cons_zero,List.set_cons_succ,i64_w,i32_w]
            rfl
           refine pure_ (i:=12) (N:=some 50) (v:=?_) (a':=?_) #[true,true,true,true,true,true,true,true,true,true,true,true,true,false,false,false,false,false,false,false,false,false,false,false,false,false,false,false,false] rfl rfl (any_of HT_.out (by kernel_rfl)) (fun _ _ _ h=>h) (Or.inl ⟨by rfl,?_⟩) ?_ ?_
           rotate_left
           ·intro w'
            go_simp
            with_reducible rfl
           rotate_left
           ·simp only [Act.put,List.setIfInBounds_toArray,List.set_cons_zero,List.set_cons_succ,i64_w,i32_w]
            rfl
           refine pure_ (i:=13) (N:=some 51) (v:=?_) (a':=?_) #[true,true,true,true,true,true,true,true,true,true,true,true,true,true,false,false,false,false,false,false,false,false,false,false,false,false,false,false,false] rfl rfl (any_of HT_.out (by kernel_rfl)) (fun _ _ _ h=>h) (Or.inl ⟨by rfl,?_⟩) ?_ ?_
           rotate_left
           ·intro w'
            go_simp
            with_reducible rfl
           rotate_left
           ·simp only [Act.put,List.setIfInBounds_toArray,List.set_cons_zero,List.set_cons_succ,i64_w,i32_w]
            rfl
           refine pure_ (i:=14) (N:=some 52) (v:=undef) (a':=?_) #[true,true,true,true,true,true,true,true,true,true,true,true,true,true,true,false,false,false,false,false,false,false,false,false,false,false,false,false,false] rfl rfl (any_of HT_.out (by kernel_rfl)) (fun _ _ _ h=>h) (Or.inr ⟨by rfl,rfl⟩) ?_ ?_
           rotate_left
           ·simp only [Act.put,List.setIfInBounds_toArray,List.set_cons_zero,List.set_cons_succ,i64_w,i32_w]
            rfl
           refine pure_ (i:=15) (N:=some 53) (v:=undef) (a':=?_) #[true,true,true,true,true,true,true,true,true,true,true,true,true,true,true,true,false,false,false,false,false,false,false,false,false,false,false,false,false] rfl rfl (any_of HT_.out (by kernel_rfl)) (fun _ _ _ h=>h) (Or.inr ⟨by rfl,rfl⟩) ?_ ?_
           rotate_left
           ·simp only [Act.put,List.setIfInBounds_toArray,List.set_cons_zero,List.set_cons_succ,i64_w,i32_w]
            rfl
           refine pure_ (i:=16) (N:=some 54) (v:=undef) (a':=?_) #[true,true,true,true,true,true,true,true,true,true,true,true,true,true,true,true,true,false,false,false,false,false,false,false,false,false,false,false,false] rfl rfl (any_of HT_.out (by kernel_rfl)) (fun _ _ _ h=>h) (Or.inr ⟨by rfl,rfl⟩) ?_ ?_
           rotate_left
           ·simp only [Act.put,List.setIfInBounds_toArray,List.set_cons_zero,List.set_cons_succ,i64_w,i32_w]
            rfl
           refine pure_ (i:=17) (N:=some 55) (v:=undef) (a':=?_) #[true,true,true,true,true,true,true,true,true,true,true,true,true,true,true,true,true,true,false,false,false,false,false,false,false,false,false,false,false] rfl rfl (any_of HT_.out (by kernel_rfl)) (fun _ _ _ h=>h) (Or.inr ⟨by rfl,rfl⟩) ?_ ?_
           rotate_left
           ·simp only [Act.put,List.setIfInBounds_toArray,List.set_cons_zero,List.set_cons_succ,i64_w,i32_w]
            rfl
           refine pure_ (i:=18) (N:=some 56) (v:=?_) (a':=?_) #[true,true,true,true,true,true,true,true,true,true,true,true,true,true,true,true,true,true,true,false,false,false,false,false,false,false,false,false,false] rfl rfl (any_of HT_.out (by kernel_rfl)) (fun _ _ _ h=>h) (Or.inl ⟨by rfl,?_⟩) ?_ ?_
           rotate_left
           ·intro w'
            go_simp
            with_reducible rfl
           rotate_left
           ·simp only [Act.put,List.setIfInBounds_toArray,List.set_cons_zero,List.set_cons_succ,i64_w,i32_w]
            rfl
           refine pure_ (i:=19) (N:=some 57) (v:=?_) (a':=?_) #[true,true,true,true,true,true,true,true,true,true,true,true,true,true,true,true,true,true,true,true,false,false,false,false,false,false,false,false,false] rfl rfl (any_of HT_.out (by kernel_rfl)) (fun _ _ _ h=>h) (Or.inl ⟨by rfl,?_⟩) ?_ ?_
           rotate_left
           ·intro w'
            go_simp
            with_reducible rfl
           rotate_left
           ·simp only [Act.put,List.setIfInBounds_toArray,List.set_cons_zero,List.set_cons_succ,i64_w,i32_w]
            rfl
           refine pure_ (i:=20) (N:=some 58) (v:=undef) (a':=?_) #[true,true,true,true,true,true,true,true,true,true,true,true,true,true,true,true,true,true,true,true,true,false,false,false,false,false,false,false,false] rfl rfl (any_of HT_.out (by kernel_rfl)) (fun _ _ _ h=>h) (Or.inr ⟨by rfl,rfl⟩) ?_ ?_
           rotate_left
           ·simp only [Act.put,List.setIfInBounds_toArray,List.set_cons_zero,List.set_cons_succ,i64_w,i32_w]
            rfl
           refine pure_ (i:=21) (N:=some 59) (v:=undef) (a':=?_) #[true,true,true,true,true,true,true,true,true,true,true,true,true,true,true,true,true,true,true,true,true,true,false,false,false,false,false,false,false] rfl rfl (any_of HT_.out (by kernel_rfl)) (fun _ _ _ h=>h) (Or.inr ⟨by rfl,rfl⟩) ?_ ?_
           rotate_left
           ·simp only [Act.put,List.setIfInBounds_toArray,List.set_cons_zero,List.set_cons_succ,i64_w,i32_w]
            rfl
           refine pure_ (i:=22) (N:=some 60) (v:=undef) (a':=?_) #[true,true,true,true,true,true,true,true,true,true,true,true,true,true,true,true,true,true,true,true,true,true,true,false,false,false,false,false,false] rfl rfl (any_of HT_.out (by kernel_rfl)) (fun _ _ _ h=>h) (Or.inr ⟨by rfl,rfl⟩) ?_ ?_
           rotate_left
           ·simp only [Act.put,List.setIfInBounds_toArray,List.set_cons_zero,List.set_cons_succ,i64_w,i32_w]
            rfl
           refine pure_ (i:=23) (N:=some 61) (v:=undef) (a':=?_) #[true,true,true,true,true,true,true,true,true,true,true,true,true,true,true,true,true,true,true,true,true,true,true,true,false,false,false,false,false] rfl rfl (any_of HT_.out (by kernel_rfl)) (fun _ _ _ h=>h) (Or.inr ⟨by rfl,rfl⟩) ?_ ?_
           rotate_left
           ·simp only [Act.put,List.setIfInBounds_toArray,List.set_cons_zero,List.set_cons_succ,i64_w,i32_w]
            rfl
           refine pure_ (i:=24) (N:=some 62) (v:=undef) (a':=?_) #[true,true,true,true,true,true,true,true,true,true,true,true,true,true,true,true,true,true,true,true,true,true,true,true,true,false,false,false,false] rfl rfl (any_of HT_.out (by kernel_rfl)) (fun _ _ _ h=>h) (Or.inr ⟨by rfl,rfl⟩) ?_ ?_
           rotate_left
           ·simp only [Act.put,List.setIfInBounds_toArray,List.set_cons_zero,List.set_cons_succ,i64_w,i32_w]
            rfl
           refine pure_ (i:=25) (N:=some 63) (v:=undef) (a':=?_) #[true,true,true,true,true,true,true,true,true,true,true,true,true,true,true,true,true,true,true,true,true,true,true,true,true,true,false,false,false] rfl rfl (any_of HT_.out (by kernel_rfl)) (fun _ _ _ h=>h) (Or.inr ⟨by rfl,rfl⟩) ?_ ?_
           rotate_left
           ·simp only [Act.put,List.setIfInBounds_toArray,List.set_cons_zero,List.set_cons_succ,i64_w,i32_w]
            rfl
           refine pure_ (i:=26) (N:=some 64) (v:=undef) (a':=?_) #[true,true,true,true,true,true,true,true,true,true,true,true,true,true,true,true,true,true,true,true,true,true,true,true,true,true,true,false,false] rfl rfl (any_of HT_.out (by kernel_rfl)) (fun _ _ _ h=>h) (Or.inr ⟨by rfl,rfl⟩) ?_ ?_
           rotate_left
           ·simp only [Act.put,List.setIfInBounds_toArray,List.set_cons_zero,List.set_cons_succ,i64_w,i32_w]
            rfl
           refine pure_ (i:=27) (N:=some 65) (v:=undef) (a':=?_) #[true,true,true,true,true,true,true,true,true,true,true,true,true,true,true,true,true,true,true,true,true,true,true,true,true,true,true,true,false] rfl rfl (any_of HT_.out (by kernel_rfl)) (fun _ _ _ h=>h) (Or.inr ⟨by rfl,rfl⟩) ?_ ?_
           rotate_left
           ·simp only [Act.put,List.setIfInBounds_toArray,List.set_cons_zero,List.set_cons_succ,i64_w,i32_w]
            rfl
           refine pure_ (i:=28) (N:=some 66) (v:=?_) (a':=?_) #[true,true,true,true,true,true,true,true,true,true,true,true,true,true,true,true,true,true,true,true,true,true,true,true,true,true,true,true,true] rfl rfl (any_of HT_.out (by kernel_rfl)) (fun _ _ _ h=>h) (Or.inl ⟨by rfl,?_⟩) ?_ ?_
           rotate_left
           ·intro w'
            go_simp
            with_reducible rfl
           rotate_left
           ·simp only [Act.put,List.setIfInBounds_toArray,List.set_cons_zero,List.set_cons_succ,i64_w,i32_w]
            rfl
           refine done_ (done_of HT_.out (by kernel_rfl)) ?_
           try go_wp2
           go_ret
           exact ⟨by first|rfl|(simp [errW_none,errW_some]<;>rfl)|(simp only [← hji17];first|rfl|(simp [errW_none,errW_some]<;>rfl))|(simp [*,errW_none,errW_some]<;>rfl),by repeat (first|(with_reducible first|exact HB.out|apply below_alloc|apply pw_below_drewN|apply below_drew1|refine below_set ?_ GE303.out)|exact HB.out)⟩
          ·rw [if_neg c20] at H
           have c20b0:decide (((rd_T29 l3 x12_1).f0)≤((rd_T29 l3 (ji17)).f0)) = false:=decide_eq_false c20
           clear c20
           replace H:=Option.bind_eq_some_iff.mp H
           obtain ⟨t305,A250,H⟩:=H
           replace H:(if t305 = true then (some 14) else ((garboardref32_leads.f k1 t293 l2 ((rd_T29 l3 x12_1).f1) ((rd_T29 l3 x12_1).f0)).bind fun t306=>(if t306 = true then (if x11_1.length < 17592186044416 then (garboardref32_Check.l0 k1 l2 l3 t293 (x11_1 ++ [(rd_T29 l3 x12_1).f0]) (wrap64 (x12_1 + 1))) else (none)) else (some 14)))) = some r:=H
           have A25:=Aside0.mk A250
           clear A250
           by_cases c26:t305 = true
           ·subst c26
            have H1:(some 14) = some r:=by rw [if_pos rfl] at H;exact H
            clear H
            have H:=H1
            clear H1
            obtain rfl:=Option.some.inj H
            have p302:0≤(x12_1:Int):=of_decide_eq_true (by first|(with_reducible assumption)|assumption)
            have q302:x12_1 < (l3.length:Int):=of_decide_eq_true (by first|(with_reducible assumption)|assumption)
            obtain ⟨ad302,A302_1,c302_1,e302,hx302_0,hx302_1,hl302_1,hi302_1⟩:=at_T29 HR3.out x12_1 p302 q302
            cases e302
            replace hx302_0:=(HB.out.cell (World.block_lt_of_cell? w _ hx302_0)).trans hx302_0
            replace hx302_1:=(HB.out.cell (World.block_lt_of_cell? w _ hx302_1)).trans hx302_1
            have HR302_1:=Aside0.mk hi302_1
            have HC302_1:=Aside0.mk hl302_1
            clear hi302_1 hl302_1
            replace p302:=eq_true p302
            replace q302:=eq_true q302
            try go_wp2_with (first|((with_reducible refine gate_dst (N:=13) rfl ?_);refine box_event ?hg (N:=13) ?hd (cs:=#[.int .i64 0,.slice none 0 0]) (t:=29) ?hr ?_;(case hd=>rfl);(case hg=>rfl);(case hr=>first|(go_simp;done)|(go_simp;rfl));intro gb303 hg w27 hbox hb;have n0_:=Aside0.mk (Kd.R_below (by (with_reducible repeat (first|apply Kd.R_alloc|apply Kd.R_drewN|apply Kd.R_drew));exact HO_10.out) hb);have n1_:=Aside0.mk (Kd.R_below (by (with_reducible repeat (first|apply Kd.R_alloc|apply Kd.R_drewN|apply Kd.R_drew));exact HO_11.out) hb);have n2_:=Aside0.mk (below_step (by repeat (first|(with_reducible first|exact HB.out|apply below_alloc|apply pw_below_drewN|apply below_drew1)|exact HB.out)) hb);have n3_:=Aside0.mk (hbox);have n4_:=Aside0.mk ((by rw [hg];exact (below_size (by repeat (first|(with_reducible first|exact HB.out|apply below_alloc|apply pw_below_drewN|apply below_drew1)|exact HB.out))):w.heap.size≤gb303));have n5_:=Aside0.mk ((by rw [hg];exact (below_size (by repeat (first|(with_reducible first|exact HB.out|apply below_alloc|apply pw_below_drewN|apply below_drew1)|exact HB.out))):w.heap.size≤gb303));clear HO_10;clear HO_11;clear HB;have HO_10:=n0_;have HO_11:=n1_;have HB:=n2_;have BK303:=n3_;have GW303:=n4_;have GE303:=n5_;clear n0_ n1_ n2_ n3_ n4_ n5_;clear hb hbox hg;have hcz28_0:w27.cell? ⟨gb303,0,none⟩ = some (.int .i64 0):=(blk_cell BK303.out 0).trans rfl;have hcz28_1:w27.cell? ⟨gb303,1,none⟩ = some (.slice none 0 0):=(blk_cell BK303.out 1).trans rfl;have hfz28_0:=blk_frozen BK303.out 0;have hfz28_1:=blk_frozen BK303.out 1))
            have n0_:Aside0 (Kd.R k48 48 ((w27.setCell ⟨gb303,0,none⟩ (.int .i64 ((rd_T29 l3 x12_1).f0))).setCell ⟨gb303,1,none⟩ (.slice A302_1 ((rd_T29 l3 x12_1).f1).length c302_1)) w.heap.size (fun _=>True) v294 t293):=⟨by (with_reducible repeat (first|apply Kd.R_alloc|apply Kd.R_drewN|apply Kd.R_drew));exact Kd.R_mono (Kd.R_far (p:=⟨gb303,1,none⟩) (Kd.R_far (p:=⟨gb303,0,none⟩) (Kd.R_types HO_10.out BK303.out (by decide)) (fun _ hk=>hk.2) (.int .i64 ((rd_T29 l3 x12_1).f0))) (fun _ hk=>hk.2) (.slice A302_1 ((rd_T29 l3 x12_1).f1).length c302_1)) (fun _ hk=>trivial)⟩
            have n1_:Aside0 (Kd.R (Kd.int .i64) 3 ((w27.setCell ⟨gb303,0,none⟩ (.int .i64 ((rd_T29 l3 x12_1).f0))).setCell ⟨gb303,1,none⟩ (.slice A302_1 ((rd_T29 l3 x12_1).f1).length c302_1)) w.heap.size (fun _=>True) u11 x11_1):=⟨by (with_reducible repeat (first|apply Kd.R_alloc|apply Kd.R_drewN|apply Kd.R_drew));exact Kd.R_mono (Kd.R_far (p:=⟨gb303,1,none⟩) (Kd.R_far (p:=⟨gb303,0,none⟩) (Kd.R_types HO_11.out BK303.out (by decide)) (fun _ hk=>hk.2) (.int .i64 ((rd_T29 l3 x12_1).f0))) (fun _ hk=>hk.2) (.slice A302_1 ((rd_T29 l3 x12_1).f1).length c302_1)) (fun _ hk=>trivial)⟩
            have n2_:Aside0 (((w27.setCell ⟨gb303,0,none⟩ (.int .i64 ((rd_T29 l3 x12_1).f0))).setCell ⟨gb303,1,none⟩ (.slice A302_1 ((rd_T29 l3 x12_1).f1).length c302_1)).heap[gb303]? = some (.cells #[.int .i64 ((rd_T29 l3 x12_1).f0),.slice A302_1 ((rd_T29 l3 x12_1).f1).length c302_1] 29 (0,0))):=⟨by (with_reducible repeat (first|refine blk_drewN ?_ _|refine blk_drew ?_|refine blk_alloc ?_ _));refine blk_put (cs:=#[.int .i64 ((rd_T29 l3 x12_1).f0),.slice none 0 0]) ?_ 1 _ rfl;(with_reducible repeat (first|refine blk_drewN ?_ _|refine blk_drew ?_|refine blk_alloc ?_ _));refine blk_put (cs:=#[.int .i64 0,.slice none 0 0]) ?_ 0 _ rfl;(with_reducible repeat (first|refine blk_drewN ?_ _|refine blk_drew ?_|refine blk_alloc ?_ _));exact BK303.out⟩
            have n3_:Aside0 (Below w.heap.size w ((w27.setCell ⟨gb303,0,none⟩ (.int .i64 ((rd_T29 l3 x12_1).f0))).setCell ⟨gb303,1,none⟩ (.slice A302_1 ((rd_T29 l3 x12_1).f1).length c302_1))):=⟨by repeat (first|(with_reducible first|exact HB.out|apply below_alloc|apply pw_below_drewN|apply below_drew1|refine below_set ?_ GE303.out)|exact HB.out)⟩
            (try clear HO_10)
            (try clear HO_11)
            (try clear BK303)
            (try clear HB)
            generalize ((w27.setCell ⟨gb303,0,none⟩ (.int .i64 ((rd_T29 l3 x12_1).f0))).setCell ⟨gb303,1,none⟩ (.slice A302_1 ((rd_T29 l3 x12_1).f1).length c302_1)) = w29 at n0_ n1_ n2_ n3_ ⊢
            have HO_10:=n0_
            have HO_11:=n1_
            have BK303:=n2_
            have HB:=n3_
            clear n0_ n1_ n2_ n3_
            have n0_:=Aside0.mk (Kd.R_drew HO_10.out)
            have n1_:=Aside0.mk (Kd.R_drew HO_11.out)
            have n2_:=Aside0.mk (blk_drew BK303.out)
            have n3_:=Aside0.mk (below_drew1 HB.out)
            clear HO_10
            clear HO_11
            clear BK303
            clear HB
            have HO_10:=n0_
            have HO_11:=n1_
            have BK303:=n2_
            have HB:=n3_
            clear n0_ n1_ n2_ n3_
            have p304:0≤((ji17):Int):=of_decide_eq_true (by first|(with_reducible assumption)|assumption)
            have q304:(ji17) < (l3.length:Int):=of_decide_eq_true (by first|(with_reducible assumption)|assumption)
            obtain ⟨ad304,A304_1,c304_1,e304,hx304_0,hx304_1,hl304_1,hi304_1⟩:=at_T29 HR3.out (ji17) p304 q304
            have hw304_1:=hx304_1
            have hw304_0:=hx304_0
            obtain rfl:ad302 = ad304:=(by injection e304)
            replace hx304_0:=(HB.out.cell (World.block_lt_of_cell? w _ hx304_0)).trans hx304_0
            replace hx304_1:=(HB.out.cell (World.block_lt_of_cell? w _ hx304_1)).trans hx304_1
            have HR304_1:=Aside0.mk hi304_1
            have HC304_1:=Aside0.mk hl304_1
            clear hi304_1 hl304_1
            replace p304:=eq_true p304
            replace q304:=eq_true q304
            refine start_ (n:=29) (S:=fun w'=>w'.cell? ⟨gb303,0,none⟩ = some (.int .i64 ((rd_T29 l3 x12_1).f0))∧w'.cell? ⟨gb303,1,none⟩ = some (.slice A302_1 ((rd_T29 l3 x12_1).f1).length c302_1)∧w'.cell? (ad302.add (((ji17)).toNat * 2)) = some (.int .i64 ((rd_T29 l3 (ji17)).f0))∧w'.cell? ⟨(ad302.add (((ji17)).toNat * 2)).block,(ad302.add (((ji17)).toNat * 2)).off + 1,none⟩ = some (.slice A304_1 ((rd_T29 l3 (ji17)).f1).length c304_1)) (ds:=[]) #[false,false,false,false,false,false,false,false,false,false,false,false,false,false,false,false,false,false,false,false,false,false,false,false,false,false,false,false,false] (by kernel_rfl) rfl rfl ⟨(blk_cell BK303.out 0).trans rfl,(blk_cell BK303.out 1).trans rfl,((HB.out.cell (World.block_lt_of_cell? w _ hw304_0)).trans hw304_0),((HB.out.cell (World.block_lt_of_cell? w _ hw304_1)).trans hw304_1)⟩ (fun hHeld=>?_);refine with_tabW garboardref32_Check.tab10 garboardref32_Check.bits10 (fun HT_ HW_=>?_)
            generalize w29.drew = w30 at HO_10 HO_11 BK303 HB HR304_1 hx304_0 hx304_1 hHeld ⊢
            refine pure_ (i:=0) (N:=some 38) (v:=?_) (a':=?_) #[true,false,false,false,false,false,false,false,false,false,false,false,false,false,false,false,false,false,false,false,false,false,false,false,false,false,false,false,false] rfl rfl (any_of HT_.out (by kernel_rfl)) (fun _ _ _ h=>h) (Or.inl ⟨by rfl,?_⟩) ?_ ?_
            rotate_left
            ·intro w'
             go_simp
             with_reducible rfl
            rotate_left
            ·simp only [Act.put,List.setIfInBounds_toArray,List.set_cons_zero,List.set_cons_succ,i64_w,i32_w]
             rfl
            refine pure_ (i:=1) (N:=some 39) (v:=?_) (a':=?_) #[true,true,false,false,false,false,false,false,false,false,false,false,false,false,false,false,false,false,false,false,false,false,false,false,false,false,false,false,false] rfl rfl (any_of HT_.out (by kernel_rfl)) (fun _ _ _ h=>h) (Or.inl ⟨by rfl,?_⟩) ?_ ?_
            rotate_left
            ·intro w'
             go_simp
             with_reducible rfl
            rotate_left
            ·simp only [Act.put,List.setIfInBounds_toArray,List.set_cons_zero,List.set_cons_succ,i64_w,i32_w]
             rfl
            refine pure_ (i:=2) (N:=some 40) (v:=?_) (a':=?_) #[true,true,true,false,false,false,false,false,false,false,false,false,false,false,false,false,false,false,false,false,false,false,false,false,false,false,false,false,false] rfl rfl (any_of HT_.out (by kernel_rfl)) (fun _ _ _ h=>h) (Or.inl ⟨by rfl,?_⟩) ?_ ?_
            rotate_left
            ·intro w'
             go_simp
             with_reducible rfl
            rotate_left
            ·simp only [Act.put,List.setIfInBounds_toArray,List.set_cons_zero,List.set_cons_succ,i64_w,i32_w]
             rfl
            refine pure_ (i:=3) (N:=some 41) (v:=?_) (a':=?_) #[true,true,true,true,false,false,false,false,false,false,false,false,false,false,false,false,false,false,false,false,false,false,false,false,false,false,false,false,false] rfl rfl (any_of HT_.out (by kernel_rfl)) (fun _ _ _ h=>h) (Or.inl ⟨by rfl,?_⟩) ?_ ?_
            rotate_left
            ·intro w'
             go_simp
             with_reducible rfl
            rotate_left
            ·simp only [Act.put,List.setIfInBounds_toArray,List.set_cons_zero,List.set_cons_succ,i64_w,i32_w]
             rfl
            refine pure_ (i:=5) (N:=some 43) (v:=?_) (a':=?_) #[true,true,true,true,false,true,false,false,false,false,false,false,false,false,false,false,false,false,false,false,false,false,false,false,false,false,false,false,false] rfl rfl (any_of HT_.out (by kernel_rfl)) (fun _ _ _ h=>h) (Or.inl ⟨by rfl,?_⟩) ?_ ?_
            rotate_left
            ·intro w'
             go_simp
             with_reducible rfl
            rotate_left
            ·simp only [Act.put,List.setIfInBounds_toArray,List.set_cons_zero,List.set_cons_succ,i64_w,i32_w]
             rfl
            refine pure_ (i:=6) (N:=some 44) (v:=?_) (a':=?_) #[true,true,true,true,false,true,true,false,false,false,false,false,false,false,false,false,false,false,false,false,false,false,false,false,false,false,false,false,false] rfl rfl (any_of HT_.out (by kernel_rfl)) (fun _ _ _ h=>h) (Or.inl ⟨by rfl,?_⟩) ?_ ?_
            rotate_left
            ·intro w'
             go_simp
             with_reducible rfl
            rotate_left
            ·simp only [Act.put,List.setIfInBounds_toArray,List.set_cons_zero,List.set_cons_succ,i64_w,i32_w]
             rfl
            refine pure_ (i:=7) (N:=some 45) (v:=?_) (a':=?_) #[true,true,true,true,false,true,true,true,false,false,false,false,false,false,false,false,false,false,false,false,false,false,false,false,false,false,false,false,false] rfl rfl (any_of HT_.out (by kernel_rfl)) (fun _ _ _ h=>h) (Or.inl ⟨by rfl,?_⟩) ?_ ?_
            rotate_left
            ·intro w'
             go_simp
             with_reducible rfl
            rotate_left
            ·simp only [Act.put,List.setIfInBounds_toArray,List.set_cons_zero,List.set_cons_succ,i64_w,i32_w]
             rfl
            refine pure_ (i:=8) (N:=some 46) (v:=?_) (a':=?_) #[true,true,true,true,false,true,true,true,true,false,false,false,false,false,false,false,false,false,false,false,false,false,false,false,false,false,false,false,false] rfl rfl (any_of HT_.out (by kernel_rfl)) (fun _ _ _ h=>h) (Or.inl ⟨by rfl,?_⟩) ?_ ?_
            rotate_left
            ·intro w'
             go_simp
             with_reducible rfl
            rotate_left
            ·simp only [Act.put,List.setIfInBounds_toArray,List.set_cons_zero,List.set_cons_succ,i64_w,i32_w]
             rfl
            refine pure_ (i:=9) (N:=some 47) (v:=?_) (a':=?_) #[true,true,true,true,false,true,true,true,true,true,false,false,false,false,false,false,false,false,false,false,false,false,false,false,false,false,false,false,false] rfl rfl (any_of HT_.out (by kernel_rfl)) (fun _ _ _ h=>h) (Or.inl ⟨by rfl,?_⟩) ?_ ?_
            rotate_left
            ·intro w'
             go_simp
             with_reducible rfl
            rotate_left
            ·simp only [Act.put,List.setIfInBounds_toArray,List.set_cons_zero,List.set_cons_succ,i64_w,i32_w]
             rfl
            refine take_ (i:=4) (N:=some 42) (v:=?_) (a':=?_) #[true,true,true,true,true,true,true,true,true,true,false,false,false,false,false,false,false,false,false,false,false,false,false,false,false,false,false,false,false] rfl rfl (take_ofW HT_.out HW_.out (by kernel_rfl)) (fun _ _ _ h=>h) (Or.inl ⟨by rfl,?_⟩) hHeld ?_ ?_
            rotate_left
            ·rintro w' ⟨s0,s1,s2,s3⟩
             go_simp
             with_reducible rfl
            rotate_left
            ·simp only [Act.put,List.setIfInBounds_toArray,List.set_cons_zero,List.set_cons_succ,i64_w,i32_w]
             rfl
            refine take_ (i:=10) (N:=some 48) (v:=?_) (a':=?_) #[true,true,true,true,true,true,true,true,true,true,true,false,false,false,false,false,false,false,false,false,false,false,false,false,false,false,false,false,false] rfl rfl (take_ofW HT_.out HW_.out (by kernel_rfl)) (fun _ _ _ h=>h) (Or.inl ⟨by rfl,?_⟩) hHeld ?_ ?_
            rotate_left
            ·rintro w' ⟨s0,s1,s2,s3⟩
             go_simp
             with_reducible rfl
            rotate_left
            ·simp only [Act.put,List.setIfInBounds_toArray,List.set_cons_zero,List.set_cons_succ,i64_w,i32_w]
             rfl
            refine pure_ (i:=11) (N:=some 49) (v:=?_) (a':=?_) #[true,true,true,true,true,true,true,true,true,true,true,true,false,false,false,false,false,false,false,false,false,false,false,false,false,false,false,false,false] rfl rfl (any_of HT_.out (by kernel_rfl)) (fun _ _ _ h=>h) (Or.inl ⟨by rfl,?_⟩) ?_ ?_
            rotate_left
            ·intro w'
             go_simp
             with_reducible rfl
            rotate_left
            ·simp only [Act.put,List.setIfInBounds_toArray,List.set_cons_zero,List.set_cons_succ,i64_w,i32_w]
             rfl
            refine pure_ (i:=12) (N:=some 50) (v:=?_) (a':=?_) #[true,true,true,true,true,true,true,true,true,true,true,true,true,false,false,false,false,false,false,false,false,false,false,false,false,false,false,false,false] rfl rfl (any_of HT_.out (by kernel_rfl)) (fun _ _ _ h=>h) (Or.inl ⟨by rfl,?_⟩) ?_ ?_
            rotate_left
            ·intro w'
             go_simp
             with_reducible rfl
            rotate_left
            ·simp only [Act.put,List.setIfInBounds_toArray,List.set_cons_zero,List.set_cons_succ,i64_w,i32_w]
             rfl
            refine pure_ (i:=13) (N:=some 51) (v:=?_) (a':=?_) #[true,true,true,true,true,true,true,true,true,true,true,true,true,true,false,false,false,false,false,false,false,false,false,false,false,false,false,false,false] rfl rfl (any_of HT_.out (by kernel_rfl)) (fun _ _ _ h=>h) (Or.inl ⟨by rfl,?_⟩) ?_ ?_
            rotate_left
            ·intro w'
             go_simp
             with_reducible rfl
            rotate_left
            ·simp only [Act.put,List.setIfInBounds_toArray,List.set_cons_zero,List.set_cons_succ,i64_w,i32_w]
             rfl
            refine pure_ (i:=14) (N:=some 52) (v:=?_) (a':=?_) #[true,true,true,true,true,true,true,true,true,true,true,true,true,true,true,false,false,false,false,false,false,false,false,false,false,false,false,false,false] rfl rfl (any_of HT_.out (by kernel_rfl)) (fun _ _ _ h=>h) (Or.inl ⟨by rfl,?_⟩) ?_ ?_
            rotate_left
            ·intro w'
             go_simp
             with_reducible rfl
            rotate_left
            ·simp only [Act.put,List.setIfInBounds_toArray,List.set_cons_zero,List.set_cons_succ,i64_w,i32_w]
             rfl
            refine pure_ (i:=15) (N:=some 53) (v:=?_) (a':=?_) #[true,true,true,true,true,true,true,true,true,true,true,true,true,true,true,true,false,false,false,false,false,false,false,false,false,false,false,false,false] rfl rfl (any_of HT_.out (by kernel_rfl)) (fun _ _ _ h=>h) (Or.inl ⟨by rfl,?_⟩) ?_ ?_
            rotate_left
            ·intro w'
             go_simp
             with_reducible rfl
            rotate_left
            ·simp only [Act.put,List.setIfInBounds_toArray,List.set_cons_zero,List.set_cons_succ,i64_w,i32_w]
             rfl
            refine take_ (i:=16) (N:=some 54) (v:=?_) (a':=?_) #[true,true,true,true,true,true,true,true,true,true,true,true,true,true,true,true,true,false,false,false,false,false,false,false,false,false,false,false,false] rfl rfl (take_ofW HT_.out HW_.out (by kernel_rfl)) (fun _ _ _ h=>h) (Or.inl ⟨by rfl,?_⟩) hHeld ?_ ?_
            rotate_left
            ·rintro w' ⟨s0,s1,s2,s3⟩
             go_simp
             with_reducible rfl
            rotate_left
            ·simp only [Act.put,List.setIfInBounds_toArray,List.set_cons_zero,List.set_cons_succ,i64_w,i32_w]
             rfl
            refine one_ (i:=17) (N:=some 55) #[true,true,true,true,true,true,true,true,true,true,true,true,true,true,true,true,true,true,false,false,false,false,false,false,false,false,false,false,false] rfl rfl (one_of HT_.out (by kernel_rfl)) (by decide) (fun K hK=>?_)
            refine goes_ Try.func50 (by kernel_rfl) rfl #[.slice A2 l2.length c2,.int .i64 ((rd_T29 l3 x12_1).f0)] (by rfl) rfl rfl (by (try simp only [List.map_toArray,List.map_cons,List.map_nil]);first|done|rfl|(simp only [List.length_drop,List.length_take];rfl)) ?_
            with_reducible refine (garboardref32_Has.calls k1 _ _ l2 ((rd_T29 l3 x12_1).f0) true _ ?side1 ?side2 A25.out).mono ?_
            (case side1=>repeat (first|exact (Kd.C_below HR2.out HB.out)|(with_reducible refine Kd.C_alloc ?_ _)|(with_reducible refine Kd.C_drewN ?_ _)|(with_reducible refine Kd.C_drew ?_)))
            (case side2=>exact HC2.out)
            rintro e w' ⟨rfl,⟨nd,rfl⟩⟩
            refine ⟨_,rfl,?_⟩
            refine hK.out _ _ ⟨(blk_cell BK303.out 0).trans rfl,(blk_cell BK303.out 1).trans rfl,((HB.out.cell (World.block_lt_of_cell? w _ hw304_0)).trans hw304_0),((HB.out.cell (World.block_lt_of_cell? w _ hw304_1)).trans hw304_1)⟩ (fun hHeld=>?_)
            clear hK K
            refine norm_ (a':=?_) ?_ ?_
            rotate_left
            ·show Act.put _ (some 55) _ = _
             simp only [Act.put,List.setIfInBounds_toArray,List.set_cons_zero,List.set_cons_succ,i64_w,i32_w]
             rfl
            refine pure_ (i:=18) (N:=some 56) (v:=?_) (a':=?_) #[true,true,true,true,true,true,true,true,true,true,true,true,true,true,true,true,true,true,true,false,false,false,false,false,false,false,false,false,false] rfl rfl (any_of HT_.out (by kernel_rfl)) (fun _ _ _ h=>h) (Or.inl ⟨by rfl,?_⟩) ?_ ?_
            rotate_left
            ·intro w'
             go_simp
             with_reducible rfl
            rotate_left
            ·simp only [Act.put,List.setIfInBounds_toArray,List.set_cons_zero,List.set_cons_succ,i64_w,i32_w]
             rfl
            refine pure_ (i:=19) (N:=some 57) (v:=?_) (a':=?_) #[true,true,true,true,true,true,true,true,true,true,true,true,true,true,true,true,true,true,true,true,false,false,false,false,false,false,false,false,false] rfl rfl (any_of HT_.out (by kernel_rfl)) (fun _ _ _ h=>h) (Or.inl ⟨by rfl,?_⟩) ?_ ?_
            rotate_left
            ·intro w'
             go_simp
             with_reducible rfl
            rotate_left
            ·simp only [Act.put,List.setIfInBounds_toArray,List.set_cons_zero,List.set_cons_succ,i64_w,i32_w]
             rfl
            refine pure_ (i:=20) (N:=some 58) (v:=undef) (a':=?_) #[true,true,true,true,true,true,true,true,true,true,true,true,true,true,true,true,true,true,true,true,true,false,false,false,false,false,false,false,false] rfl rfl (any_of HT_.out (by kernel_rfl)) (fun _ _ _ h=>h) (Or.inr ⟨by rfl,rfl⟩) ?_ ?_
            rotate_left
            ·simp only [Act.put,List.setIfInBounds_toArray,List.set_cons_zero,List.set_cons_succ,i64_w,i32_w]
             rfl
            refine pure_ (i:=21) (N:=some 59) (v:=undef) (a':=?_) #[true,true,true,true,true,true,true,true,true,true,true,true,true,true,true,true,true,true,true,true,true,true,false,false,false,false,false,false,false] rfl rfl (any_of HT_.out (by kernel_rfl)) (fun _ _ _ h=>h) (Or.inr ⟨by rfl,rfl⟩) ?_ ?_
            rotate_left
            ·simp only [Act.put,List.setIfInBounds_toArray,List.set_cons_zero,List.set_cons_succ,i64_w,i32_w]
             rfl
            refine pure_ (i:=22) (N:=some 60) (v:=undef) (a':=?_) #[true,true,true,true,true,true,true,true,true,true,true,true,true,true,true,true,true,true,true,true,true,true,true,false,false,false,false,false,false] rfl rfl (any_of HT_.out (by kernel_rfl)) (fun _ _ _ h=>h) (Or.inr ⟨by rfl,rfl⟩) ?_ ?_
            rotate_left
            ·simp only [Act.put,List.setIfInBounds_toArray,List.set_cons_zero,List.set_cons_succ,i64_w,i32_w]
             rfl
            refine pure_ (i:=23) (N:=some 61) (v:=undef) (a':=?_) #[true,true,true,true,true,true,true,true,true,true,true,true,true,true,true,true,true,true,true,true,true,true,true,true,false,false,false,false,false] rfl rfl (any_of HT_.out (by kernel_rfl)) (fun _ _ _ h=>h) (Or.inr ⟨by rfl,rfl⟩) ?_ ?_
            rotate_left
            ·simp only [Act.put,List.setIfInBounds_toArray,List.set_cons_zero,List.set_cons_succ,i64_w,i32_w]
             rfl
            refine pure_ (i:=24) (N:=some 62) (v:=undef) (a':=?_) #[true,true,true,true,true,true,true,true,true,true,true,true,true,true,true,true,true,true,true,true,true,true,true,true,true,false,false,false,false] rfl rfl (any_of HT_.out (by kernel_rfl)) (fun _ _ _ h=>h) (Or.inr ⟨by rfl,rfl⟩) ?_ ?_
            rotate_left
            ·simp only [Act.put,List.setIfInBounds_toArray,List.set_cons_zero,List.set_cons_succ,i64_w,i32_w]
             rfl
            refine pure_ (i:=25) (N:=some 63) (v:=undef) (a':=?_) #[true,true,true,true,true,true,true,true,true,true,true,true,true,true,true,true,true,true,true,true,true,true,true,true,true,true,false,false,false] rfl rfl (any_of HT_.out (by kernel_rfl)) (fun _ _ _ h=>h) (Or.inr ⟨by rfl,rfl⟩) ?_ ?_
            rotate_left
            ·simp only [Act.put,List.setIfInBounds_toArray,List.set_cons_zero,List.set_cons_succ,i64_w,i32_w]
             rfl
            refine pure_ (i:=26) (N:=some 64) (v:=undef) (a':=?_) #[true,true,true,true,true,true,true,true,true,true,true,true,true,true,true,true,true,true,true,true,true,true,true,true,true,true,true,false,false] rfl rfl (any_of HT_.out (by kernel_rfl)) (fun _ _ _ h=>h) (Or.inr ⟨by rfl,rfl⟩) ?_ ?_
            rotate_left
            ·simp only [Act.put,List.setIfInBounds_toArray,List.set_cons_zero,List.set_cons_succ,i64_w,i32_w]
             rfl
            refine pure_ (i:=27) (N:=some 65) (v:=undef) (a':=?_) #[true,true,true,true,true,true,true,true,true,true,true,true,true,true,true,true,true,true,true,true,true,true,true,true,true,true,true,true,false] rfl rfl (any_of HT_.out (by kernel_rfl)) (fun _ _ _ h=>h) (Or.inr ⟨by rfl,rfl⟩) ?_ ?_
            rotate_left
            ·simp only [Act.put,List.setIfInBounds_toArray,List.set_cons_zero,List.set_cons_succ,i64_w,i32_w]
             rfl
            refine pure_ (i:=28) (N:=some 66) (v:=?_) (a':=?_) #[true,true,true,true,true,true,true,true,true,true,true,true,true,true,true,true,true,true,true,true,true,true,true,true,true,true,true,true,true] rfl rfl (any_of HT_.out (by kernel_rfl)) (fun _ _ _ h=>h) (Or.inl ⟨by rfl,?_⟩) ?_ ?_
            rotate_left
            ·intro w'
             go_simp
             with_reducible rfl
            rotate_left
            ·simp only [Act.put,List.setIfInBounds_toArray,List.set_cons_zero,List.set_cons_succ,i64_w,i32_w]
             rfl
            refine done_ (done_of HT_.out (by kernel_rfl)) ?_
            try go_wp2
            go_ret
            exact ⟨by first|rfl|(simp [errW_none,errW_some]<;>rfl)|(simp only [← hji17];first|rfl|(simp [errW_none,errW_some]<;>rfl))|(simp [*,errW_none,errW_some]<;>rfl),by repeat (first|(with_reducible first|exact HB.out|apply below_alloc|apply pw_below_drewN|apply below_drew1|refine below_set ?_ GE303.out)|exact HB.out)⟩
           ·replace c26:=Bool.eq_false_iff.mpr c26
            subst c26
            have H1:((garboardref32_leads.f k1 t293 l2 ((rd_T29 l3 x12_1).f1) ((rd_T29 l3 x12_1).f0)).bind fun t306=>(if t306 = true then (if x11_1.length < 17592186044416 then (garboardref32_Check.l0 k1 l2 l3 t293 (x11_1 ++ [(rd_T29 l3 x12_1).f0]) (wrap64 (x12_1 + 1))) else (none)) else (some 14))) = some r:=by rw [if_neg (show ¬ (false = true) by decide)] at H;exact H
            clear H
            have H:=H1
            clear H1
            replace H:=Option.bind_eq_some_iff.mp H
            obtain ⟨t306,A310,H⟩:=H
            replace H:(if t306 = true then (if x11_1.length < 17592186044416 then (garboardref32_Check.l0 k1 l2 l3 t293 (x11_1 ++ [(rd_T29 l3 x12_1).f0]) (wrap64 (x12_1 + 1))) else (none)) else (some 14)) = some r:=H
            have A31:=Aside0.mk A310
            clear A310
            by_cases c32:t306 = true
            ·subst c32
             have H1:(if x11_1.length < 17592186044416 then (garboardref32_Check.l0 k1 l2 l3 t293 (x11_1 ++ [(rd_T29 l3 x12_1).f0]) (wrap64 (x12_1 + 1))) else (none)) = some r:=by rw [if_pos rfl] at H;exact H
             clear H
             have H:=H1
             clear H1
             by_cases c33:x11_1.length < 17592186044416
             ·rw [if_pos c33] at H
              have LMc33:=Aside0.mk c33
              clear c33
              obtain ⟨y307,hy307⟩:∃ y_:List Int,y_ = (x11_1 ++ [(rd_T29 l3 x12_1).f0]):=⟨_,rfl⟩
              replace H:(garboardref32_Check.l0 k1 l2 l3 t293 y307 (wrap64 (x12_1 + 1))) = some r:=by first|(rw [hy307];with_reducible exact H)|(have H2_:=(Option.bind_some _ _).symm.trans H;rw [hy307];with_reducible exact H2_)|(have H2_:=(Option.bind_some _ _).symm.trans H;with_reducible exact H2_)|with_reducible exact H|(rw [hy307];exact H)|exact H
              have Ny307:=Aside0.mk hy307
              clear hy307
              have H':=Aside0.mk H
              clear H
              have p302:0≤(x12_1:Int):=of_decide_eq_true (by first|(with_reducible assumption)|assumption)
              have q302:x12_1 < (l3.length:Int):=of_decide_eq_true (by first|(with_reducible assumption)|assumption)
              obtain ⟨ad302,A302_1,c302_1,e302,hx302_0,hx302_1,hl302_1,hi302_1⟩:=at_T29 HR3.out x12_1 p302 q302
              cases e302
              replace hx302_0:=(HB.out.cell (World.block_lt_of_cell? w _ hx302_0)).trans hx302_0
              replace hx302_1:=(HB.out.cell (World.block_lt_of_cell? w _ hx302_1)).trans hx302_1
              have HR302_1:=Aside0.mk hi302_1
              have HC302_1:=Aside0.mk hl302_1
              clear hi302_1 hl302_1
              replace p302:=eq_true p302
              replace q302:=eq_true q302
              try go_wp2_with (first|((with_reducible refine gate_dst (N:=13) rfl ?_);refine box_event ?hg (N:=13) ?hd (cs:=#[.int .i64 0,.slice none 0 0]) (t:=29) ?hr ?_;(case hd=>rfl);(case hg=>rfl);(case hr=>first|(go_simp;done)|(go_simp;rfl));intro gb303 hg w34 hbox hb;have n0_:=Aside0.mk (Kd.R_below (by (with_reducible repeat (first|apply Kd.R_alloc|apply Kd.R_drewN|apply Kd.R_drew));exact HO_10.out) hb);have n1_:=Aside0.mk (Kd.R_below (by (with_reducible repeat (first|apply Kd.R_alloc|apply Kd.R_drewN|apply Kd.R_drew));exact HO_11.out) hb);have n2_:=Aside0.mk (below_step (by repeat (first|(with_reducible first|exact HB.out|apply below_alloc|apply pw_below_drewN|apply below_drew1)|exact HB.out)) hb);have n3_:=Aside0.mk (hbox);have n4_:=Aside0.mk ((by rw [hg];exact (below_size (by repeat (first|(with_reducible first|exact HB.out|apply below_alloc|apply pw_below_drewN|apply below_drew1)|exact HB.out))):w.heap.size≤gb303));have n5_:=Aside0.mk ((by rw [hg];exact (below_size (by repeat (first|(with_reducible first|exact HB.out|apply below_alloc|apply pw_below_drewN|apply below_drew1)|exact HB.out))):w.heap.size≤gb303));clear HO_10;clear HO_11;clear HB;have HO_10:=n0_;have HO_11:=n1_;have HB:=n2_;have BK303:=n3_;have GW303:=n4_;have GE303:=n5_;clear n0_ n1_ n2_ n3_ n4_ n5_;clear hb hbox hg;have hcz35_0:w34.cell? ⟨gb303,0,none⟩ = some (.int .i64 0):=(blk_cell BK303.out 0).trans rfl;have hcz35_1:w34.cell? ⟨gb303,1,none⟩ = some (.slice none 0 0):=(blk_cell BK303.out 1).trans rfl;have hfz35_0:=blk_frozen BK303.out 0;have hfz35_1:=blk_frozen BK303.out 1))
              have n0_:Aside0 (Kd.R k48 48 ((w34.setCell ⟨gb303,0,none⟩ (.int .i64 ((rd_T29 l3 x12_1).f0))).setCell ⟨gb303,1,none⟩ (.slice A302_1 ((rd_T29 l3 x12_1).f1).length c302_1)) w.heap.size (fun _=>True) v294 t293):=⟨by (with_reducible repeat (first|apply Kd.R_alloc|apply Kd.R_drewN|apply Kd.R_drew));exact Kd.R_mono (Kd.R_far (p:=⟨gb303,1,none⟩) (Kd.R_far (p:=⟨gb303,0,none⟩) (Kd.R_types HO_10.out BK303.out (by decide)) (fun _ hk=>hk.2) (.int .i64 ((rd_T29 l3 x12_1).f0))) (fun _ hk=>hk.2) (.slice A302_1 ((rd_T29 l3 x12_1).f1).length c302_1)) (fun _ hk=>trivial)⟩
              have n1_:Aside0 (Kd.R (Kd.int .i64) 3 ((w34.setCell ⟨gb303,0,none⟩ (.int .i64 ((rd_T29 l3 x12_1).f0))).setCell ⟨gb303,1,none⟩ (.slice A302_1 ((rd_T29 l3 x12_1).f1).length c302_1)) w.heap.size (fun _=>True) u11 x11_1):=⟨by (with_reducible repeat (first|apply Kd.R_alloc|apply Kd.R_drewN|apply Kd.R_drew));exact Kd.R_mono (Kd.R_far (p:=⟨gb303,1,none⟩) (Kd.R_far (p:=⟨gb303,0,none⟩) (Kd.R_types HO_11.out BK303.out (by decide)) (fun _ hk=>hk.2) (.int .i64 ((rd_T29 l3 x12_1).f0))) (fun _ hk=>hk.2) (.slice A302_1 ((rd_T29 l3 x12_1).f1).length c302_1)) (fun _ hk=>trivial)⟩
              have n2_:Aside0 (((w34.setCell ⟨gb303,0,none⟩ (.int .i64 ((rd_T29 l3 x12_1).f0))).setCell ⟨gb303,1,none⟩ (.slice A302_1 ((rd_T29 l3 x12_1).f1).length c302_1)).heap[gb303]? = some (.cells #[.int .i64 ((rd_T29 l3 x12_1).f0),.slice A302_1 ((rd_T29 l3 x12_1).f1).length c302_1] 29 (0,0))):=⟨by (with_reducible repeat (first|refine blk_drewN ?_ _|refine blk_drew ?_|refine blk_alloc ?_ _));refine blk_put (cs:=#[.int .i64 ((rd_T29 l3 x12_1).f0),.slice none 0 0]) ?_ 1 _ rfl;(with_reducible repeat (first|refine blk_drewN ?_ _|refine blk_drew ?_|refine blk_alloc ?_ _));refine blk_put (cs:=#[.int .i64 0,.slice none 0 0]) ?_ 0 _ rfl;(with_reducible repeat (first|refine blk_drewN ?_ _|refine blk_drew ?_|refine blk_alloc ?_ _));exact BK303.out⟩
              have n3_:Aside0 (Below w.heap.size w ((w34.setCell ⟨gb303,0,none⟩ (.int .i64 ((rd_T29 l3 x12_1).f0))).setCell ⟨gb303,1,none⟩ (.slice A302_1 ((rd_T29 l3 x12_1).f1).length c302_1))):=⟨by repeat (first|(with_reducible first|exact HB.out|apply below_alloc|apply pw_below_drewN|apply below_drew1|refine below_set ?_ GE303.out)|exact HB.out)⟩
              (try clear HO_10)
              (try clear HO_11)
              (try clear BK303)
              (try clear HB)
              generalize ((w34.setCell ⟨gb303,0,none⟩ (.int .i64 ((rd_T29 l3 x12_1).f0))).setCell ⟨gb303,1,none⟩ (.slice A302_1 ((rd_T29 l3 x12_1).f1).length c302_1)) = w36 at n0_ n1_ n2_ n3_ ⊢
              have HO_10:=n0_
              have HO_11:=n1_
              have BK303:=n2_
              have HB:=n3_
              clear n0_ n1_ n2_ n3_
              have n0_:=Aside0.mk (Kd.R_drew HO_10.out)
              have n1_:=Aside0.mk (Kd.R_drew HO_11.out)
              have n2_:=Aside0.mk (blk_drew BK303.out)
              have n3_:=Aside0.mk (below_drew1 HB.out)
              clear HO_10
              clear HO_11
              clear BK303
              clear HB
              have HO_10:=n0_
              have HO_11:=n1_
              have BK303:=n2_
              have HB:=n3_
              clear n0_ n1_ n2_ n3_
              have p304:0≤((ji17):Int):=of_decide_eq_true (by first|(with_reducible assumption)|assumption)
              have q304:(ji17) < (l3.length:Int):=of_decide_eq_true (by first|(with_reducible assumption)|assumption)
              obtain ⟨ad304,A304_1,c304_1,e304,hx304_0,hx304_1,hl304_1,hi304_1⟩:=at_T29 HR3.out (ji17) p304 q304
              have hw304_1:=hx304_1
              have hw304_0:=hx304_0
              obtain rfl:ad302 = ad304:=(by injection e304)
              replace hx304_0:=(HB.out.cell (World.block_lt_of_cell? w _ hx304_0)).trans hx304_0
              replace hx304_1:=(HB.out.cell (World.block_lt_of_cell? w _ hx304_1)).trans hx304_1
              have HR304_1:=Aside0.mk hi304_1
              have HC304_1:=Aside0.mk hl304_1
              clear hi304_1 hl304_1
              replace p304:=eq_true p304
              replace q304:=eq_true q304
              refine start_ (n:=29) (S:=fun w'=>w'.cell? ⟨gb303,0,none⟩ = some (.int .i64 ((rd_T29 l3 x12_1).f0))∧w'.cell? ⟨gb303,1,none⟩ = some (.slice A302_1 ((rd_T29 l3 x12_1).f1).length c302_1)∧w'.cell? (ad302.add (((ji17)).toNat * 2)) = some (.int .i64 ((rd_T29 l3 (ji17)).f0))∧w'.cell? ⟨(ad302.add (((ji17)).toNat * 2)).block,(ad302.add (((ji17)).toNat * 2)).off + 1,none⟩ = some (.slice A304_1 ((rd_T29 l3 (ji17)).f1).length c304_1)) (ds:=[]) #[false,false,false,false,false,false,false,false,false,false,false,false,false,false,false,false,false,false,false,false,false,false,false,false,false,false,false,false,false] (by kernel_rfl) rfl rfl ⟨(blk_cell BK303.out 0).trans rfl,(blk_cell BK303.out 1).trans rfl,((HB.out.cell (World.block_lt_of_cell? w _ hw304_0)).trans hw304_0),((HB.out.cell (World.block_lt_of_cell? w _ hw304_1)).trans hw304_1)⟩ (fun hHeld=>?_);refine with_tabW garboardref32_Check.tab10 garboardref32_Check.bits10 (fun HT_ HW_=>?_)
              generalize w36.drew = w37 at HO_10 HO_11 BK303 HB HR304_1 hx304_0 hx304_1 hHeld ⊢
              refine pure_ (i:=0) (N:=some 38) (v:=?_) (a':=?_) #[true,false,false,false,false,false,false,false,false,false,false,false,false,false,false,false,false,false,false,false,false,false,false,false,false,false,false,false,false] rfl rfl (any_of HT_.out (by kernel_rfl)) (fun _ _ _ h=>h) (Or.inl ⟨by rfl,?_⟩) ?_ ?_
              rotate_left
              ·intro w'
               go_simp
               with_reducible rfl
              rotate_left
              ·simp only [Act.put,List.setIfInBounds_toArray,List.set_cons_zero,List.set_cons_succ,i64_w,i32_w]
               rfl
              refine pure_ (i:=1) (N:=some 39) (v:=?_) (a':=?_) #[true,true,false,false,false,false,false,false,false,false,false,false,false,false,false,false,false,false,false,false,false,false,false,false,false,false,false,false,false] rfl rfl (any_of HT_.out (by kernel_rfl)) (fun _ _ _ h=>h) (Or.inl ⟨by rfl,?_⟩) ?_ ?_
              rotate_left
              ·intro w'
               go_simp
               with_reducible rfl
              rotate_left
              ·simp only [Act.put,List.setIfInBounds_toArray,List.set_cons_zero,List.set_cons_succ,i64_w,i32_w]
               rfl
              refine pure_ (i:=2) (N:=some 40) (v:=?_) (a':=?_) #[true,true,true,false,false,false,false,false,false,false,false,false,false,false,false,false,false,false,false,false,false,false,false,false,false,false,false,false,false] rfl rfl (any_of HT_.out (by kernel_rfl)) (fun _ _ _ h=>h) (Or.inl ⟨by rfl,?_⟩) ?_ ?_
              rotate_left
              ·intro w'
               go_simp
               with_reducible rfl
              rotate_left
              ·simp only [Act.put,List.setIfInBounds_toArray,List.set_cons_zero,List.set_cons_succ,i64_w,i32_w]
               rfl
              refine pure_ (i:=3) (N:=some 41) (v:=?_) (a':=?_) #[true,true,true,true,false,false,false,false,false,false,false,false,false,false,false,false,false,false,false,false,false,false,false,false,false,false,false,false,false] rfl rfl (any_of HT_.out (by kernel_rfl)) (fun _ _ _ h=>h) (Or.inl ⟨by rfl,?_⟩) ?_ ?_
              rotate_left
              ·intro w'
               go_simp
               with_reducible rfl
              rotate_left
              ·simp only [Act.put,List.setIfInBounds_toArray,List.set_cons_zero,List.set_cons_succ,i64_w,i32_w]
               rfl
              refine pure_ (i:=5) (N:=some 43) (v:=?_) (a':=?_) #[true,true,true,true,false,true,false,false,false,false,false,false,false,false,false,false,false,false,false,false,false,false,false,false,false,false,false,false,false] rfl rfl (any_of HT_.out (by kernel_rfl)) (fun _ _ _ h=>h) (Or.inl ⟨by rfl,?_⟩) ?_ ?_
              rotate_left
              ·intro w'
               go_simp
               with_reducible rfl
              rotate_left
              ·simp only [Act.put,List.setIfInBounds_toArray,List.set_cons_zero,List.set_cons_succ,i64_w,i32_w]
               rfl
              refine pure_ (i:=6) (N:=some 44) (v:=?_) (a':=?_) #[true,true,true,true,false,true,true,false,false,false,false,false,false,false,false,false,false,false,false,false,false,false,false,false,false,false,false,false,false] rfl rfl (any_of HT_.out (by kernel_rfl)) (fun _ _ _ h=>h) (Or.inl ⟨by rfl,?_⟩) ?_ ?_
              rotate_left
              ·intro w'
               go_simp
               with_reducible rfl
              rotate_left
              ·simp only [Act.put,List.setIfInBounds_toArray,List.set_cons_zero,List.set_cons_succ,i64_w,i32_w]
               rfl
              refine pure_ (i:=7) (N:=some 45) (v:=?_) (a':=?_) #[true,true,true,true,false,true,true,true,false,false,false,false,false,false,false,false,false,false,false,false,false,false,false,false,false,false,false,false,false] rfl rfl (any_of HT_.out (by kernel_rfl)) (fun _ _ _ h=>h) (Or.inl ⟨by rfl,?_⟩) ?_ ?_
              rotate_left
              ·intro w'
               go_simp
               with_reducible rfl
              rotate_left
              ·simp only [Act.put,List.setIfInBounds_toArray,List.set_cons_zero,List.set_cons_succ,i64_w,i32_w]
               rfl
              refine pure_ (i:=8) (N:=some 46) (v:=?_) (a':=?_) #[true,true,true,true,false,true,true,true,true,false,false,false,false,false,false,false,false,false,false,false,false,false,false,false,false,false,false,false,false] rfl rfl (any_of HT_.out (by kernel_rfl)) (fun _ _ _ h=>h) (Or.inl ⟨by rfl,?_⟩) ?_ ?_
              rotate_left
              ·intro w'
               go_simp
               with_reducible rfl
              rotate_left
              ·simp only [Act.put,List.setIfInBounds_toArray,List.set_cons_zero,List.set_cons_succ,i64_w,i32_w]
               rfl
              refine pure_ (i:=9) (N:=some 47) (v:=?_) (a':=?_) #[true,true,true,true,false,true,true,true,true,true,false,false,false,false,false,false,false,false,false,false,false,false,false,false,false,false,false,false,false] rfl rfl (any_of HT_.out (by kernel_rfl)) (fun _ _ _ h=>h) (Or.inl ⟨by rfl,?_⟩) ?_ ?_
              rotate_left
              ·intro w'
               go_simp
               with_reducible rfl
              rotate_left
              ·simp only [Act.put,List.setIfInBounds_toArray,List.set_cons_zero,List.set_cons_succ,i64_w,i32_w]
               rfl
              refine take_ (i:=4) (N:=some 42) (v:=?_) (a':=?_) #[true,true,true,true,true,true,true,true,true,true,false,false,false,false,false,false,false,false,false,false,false,false,false,false,false,false,false,false,false] rfl rfl (take_ofW HT_.out HW_.out (by kernel_rfl)) (fun _ _ _ h=>h) (Or.inl ⟨by rfl,?_⟩) hHeld ?_ ?_
              rotate_left
              ·rintro w' ⟨s0,s1,s2,s3⟩
               go_simp
               with_reducible rfl
              rotate_left
              ·simp only [Act.put,List.setIfInBounds_toArray,List.set_cons_zero,List.set_cons_succ,i64_w,i32_w]
               rfl
              refine take_ (i:=10) (N:=some 48) (v:=?_) (a':=?_) #[true,true,true,true,true,true,true,true,true,true,true,false,false,false,false,false,false,false,false,false,false,false,false,false,false,false,false,false,false] rfl rfl (take_ofW HT_.out HW_.out (by kernel_rfl)) (fun _ _ _ h=>h) (Or.inl ⟨by rfl,?_⟩) hHeld ?_ ?_
              rotate_left
              ·rintro w' ⟨s0,s1,s2,s3⟩
               go_simp
               with_reducible rfl
              rotate_left
              ·simp only [Act.put,List.setIfInBounds_toArray,List.set_cons_zero,List.set_cons_succ,i64_w,i32_w]
               rfl
              refine pure_ (i:=11) (N:=some 49) (v:=?_) (a':=?_) #[true,true,true,true,true,true,true,true,true,true,true,true,false,false,false,false,false,false,false,false,false,false,false,false,false,false,false,false,false] rfl rfl (any_of HT_.out (by kernel_rfl)) (fun _ _ _ h=>h) (Or.inl ⟨by rfl,?_⟩) ?_ ?_
              rotate_left
              ·intro w'
               go_simp
               with_reducible rfl
              rotate_left
              ·simp only [Act.put,List.setIfInBounds_toArray,List.set_cons_zero,List.set_cons_succ,i64_w,i32_w]
               rfl
              refine pure_ (i:=12) (N:=some 50) (v:=?_) (a':=?_) #[true,true,true,true,true,true,true,true,true,true,true,true,true,false,false,false,false,false,false,false,false,false,false,false,false,false,false,false,false] rfl rfl (any_of HT_.out (by kernel_rfl)) (fun _ _ _ h=>h) (Or.inl ⟨by rfl,?_⟩) ?_ ?_
              rotate_left
              ·intro w'
               go_simp
               with_reducible rfl
              rotate_left
              ·simp only [Act.put,List.setIfInBounds_toArray,List.set_cons_zero,List.set_cons_succ,i64_w,i32_w]
               rfl
              refine pure_ (i:=13) (N:=some 51) (v:=?_) (a':=?_) #[true,true,true,true,true,true,true,true,true,true,true,true,true,true,false,false,false,false,false,false,false,false,false,false,false,false,false,false,false] rfl rfl (any_of HT_.out (by kernel_rfl)) (fun _ _ _ h=>h) (Or.inl ⟨by rfl,?_⟩) ?_ ?_
              rotate_left
              ·intro w'
               go_simp
               with_reducible rfl
              rotate_left
              ·simp only [Act.put,List.setIfInBounds_toArray,List.set_cons_zero,List.set_cons_succ,i64_w,i32_w]
               rfl
              refine pure_ (i:=14) (N:=some 52) (v:=?_) (a':=?_) #[true,true,true,true,true,true,true,true,true,true,true,true,true,true,true,false,false,false,false,false,false,false,false,false,false,false,false,false,false] rfl rfl (any_of HT_.out (by kernel_rfl)) (fun _ _ _ h=>h) (Or.inl ⟨by rfl,?_⟩) ?_ ?_
              rotate_left
              ·intro w'
               go_simp
               with_reducible rfl
              rotate_left
              ·simp only [Act.put,List.setIfInBounds_toArray,List.set_cons_zero,List.set_cons_succ,i64_w,i32_w]
               rfl
              refine pure_ (i:=15) (N:=some 53) (v:=?_) (a':=?_) #[true,true,true,true,true,true,true,true,true,true,true,true,true,true,true,true,false,false,false,false,false,false,false,false,false,false,false,false,false] rfl rfl (any_of HT_.out (by kernel_rfl)) (fun _ _ _ h=>h) (Or.inl ⟨by rfl,?_⟩) ?_ ?_
              rotate_left
              ·intro w'
               go_simp
               with_reducible rfl
              rotate_left
              ·simp only [Act.put,List.setIfInBounds_toArray,List.set_cons_zero,List.set_cons_succ,i64_w,i32_w]
               rfl
              refine take_ (i:=16) (N:=some 54) (v:=?_) (a':=?_) #[true,true,true,true,true,true,true,true,true,true,true,true,true,true,true,true,true,false,false,false,false,false,false,false,false,false,false,false,false] rfl rfl (take_ofW HT_.out HW_.out (by kernel_rfl)) (fun _ _ _ h=>h) (Or.inl ⟨by rfl,?_⟩) hHeld ?_ ?_
              rotate_left
              ·rintro w' ⟨s0,s1,s2,s3⟩
               go_simp
               with_reducible rfl
              rotate_left
              ·simp only [Act.put,List.setIfInBounds_toArray,List.set_cons_zero,List.set_cons_succ,i64_w,i32_w]
               rfl
              refine one_ (i:=17) (N:=some 55) #[true,true,true,true,true,true,true,true,true,true,true,true,true,true,true,true,true,true,false,false,false,false,false,false,false,false,false,false,false] rfl rfl (one_of HT_.out (by kernel_rfl)) (by decide) (fun K hK=>?_)
              refine goes_ Try.func50 (by kernel_rfl) rfl #[.slice A2 l2.length c2,.int .i64 ((rd_T29 l3 x12_1).f0)] (by rfl) rfl rfl (by (try simp only [List.map_toArray,List.map_cons,List.map_nil]);first|done|rfl|(simp only [List.length_drop,List.length_take];rfl)) ?_
              with_reducible refine (garboardref32_Has.calls k1 _ _ l2 ((rd_T29 l3 x12_1).f0) false _ ?side1 ?side2 A25.out).mono ?_
              (case side1=>repeat (first|exact (Kd.C_below HR2.out HB.out)|(with_reducible refine Kd.C_alloc ?_ _)|(with_reducible refine Kd.C_drewN ?_ _)|(with_reducible refine Kd.C_drew ?_)))
              (case side2=>exact HC2.out)
              rintro e w' ⟨rfl,⟨nd,rfl⟩⟩
              refine ⟨_,rfl,?_⟩
              obtain ⟨Ao38,co38,eo38⟩:=Kd.R_slice HO_10.out
              (first|subst eo38|(injection eo38 with f1_ f2_ f3_;have f4_:=f1_.symm;have f5_:=f3_.symm;clear f1_ f2_ f3_;subst f4_;subst f5_))
              refine hK.out _ _ ⟨(blk_cell BK303.out 0).trans rfl,(blk_cell BK303.out 1).trans rfl,((HB.out.cell (World.block_lt_of_cell? w _ hw304_0)).trans hw304_0),((HB.out.cell (World.block_lt_of_cell? w _ hw304_1)).trans hw304_1)⟩ (fun hHeld=>?_)
              clear hK K
              refine norm_ (a':=?_) ?_ ?_
              rotate_left
              ·show Act.put _ (some 55) _ = _
               simp only [Act.put,List.setIfInBounds_toArray,List.set_cons_zero,List.set_cons_succ,i64_w,i32_w]
               rfl
              refine pure_ (i:=18) (N:=some 56) (v:=?_) (a':=?_) #[true,true,true,true,true,true,true,true,true,true,true,true,true,true,true,true,true,true,true,false,false,false,false,false,false,false,false,false,false] rfl rfl (any_of HT_.out (by kernel_rfl)) (fun _ _ _ h=>h) (Or.inl ⟨by rfl,?_⟩) ?_ ?_
              rotate_left
              ·intro w'
               go_simp
               with_reducible rfl
              rotate_left
              ·simp only [Act.put,List.setIfInBounds_toArray,List.set_cons_zero,List.set_cons_succ,i64_w,i32_w]
               rfl
              refine pure_ (i:=19) (N:=some 57) (v:=?_) (a':=?_) #[true,true,true,true,true,true,true,true,true,true,true,true,true,true,true,true,true,true,true,true,false,false,false,false,false,false,false,false,false] rfl rfl (any_of HT_.out (by kernel_rfl)) (fun _ _ _ h=>h) (Or.inl ⟨by rfl,?_⟩) ?_ ?_
              rotate_left
              ·intro w'
               go_simp
               with_reducible rfl
              rotate_left
              ·simp only [Act.put,List.setIfInBounds_toArray,List.set_cons_zero,List.set_cons_succ,i64_w,i32_w]
               rfl
              refine pure_ (i:=20) (N:=some 58) (v:=?_) (a':=?_) #[true,true,true,true,true,true,true,true,true,true,true,true,true,true,true,true,true,true,true,true,true,false,false,false,false,false,false,false,false] rfl rfl (any_of HT_.out (by kernel_rfl)) (fun _ _ _ h=>h) (Or.inl ⟨by rfl,?_⟩) ?_ ?_
              rotate_left
              ·intro w'
               go_simp
               with_reducible rfl
              rotate_left
              ·simp only [Act.put,List.setIfInBounds_toArray,List.set_cons_zero,List.set_cons_succ,i64_w,i32_w]
               rfl
              refine pure_ (i:=21) (N:=some 59) (v:=?_) (a':=?_) #[true,true,true,true,true,true,true,true,true,true,true,true,true,true,true,true,true,true,true,true,true,true,false,false,false,false,false,false,false] rfl rfl (any_of HT_.out (by kernel_rfl)) (fun _ _ _ h=>h) (Or.inl ⟨by rfl,?_⟩) ?_ ?_
              rotate_left
              ·intro w'
               go_simp
               with_reducible rfl
              rotate_left
              ·simp only [Act.put,List.setIfInBounds_toArray,List.set_cons_zero,List.set_cons_succ,i64_w,i32_w]
               rfl
              refine pure_ (i:=22) (N:=some 60) (v:=?_) (a':=?_) #[true,true,true,true,true,true,true,true,true,true,true,true,true,true,true,true,true,true,true,true,true,true,true,false,false,false,false,false,false] rfl rfl (any_of HT_.out (by kernel_rfl)) (fun _ _ _ h=>h) (Or.inl ⟨by rfl,?_⟩) ?_ ?_
              rotate_left
              ·intro w'
               go_simp
               with_reducible rfl
              rotate_left
              ·simp only [Act.put,List.setIfInBounds_toArray,List.set_cons_zero,List.set_cons_succ,i64_w,i32_w]
               rfl
              refine pure_ (i:=24) (N:=some 62) (v:=?_) (a':=?_) #[true,true,true,true,true,true,true,true,true,true,true,true,true,true,true,true,true,true,true,true,true,true,true,false,true,false,false,false,false] rfl rfl (any_of HT_.out (by kernel_rfl)) (fun _ _ _ h=>h) (Or.inl ⟨by rfl,?_⟩) ?_ ?_
              rotate_left
              ·intro w'
               go_simp
               with_reducible rfl
              rotate_left
              ·simp only [Act.put,List.setIfInBounds_toArray,List.set_cons_zero,List.set_cons_succ,i64_w,i32_w]
               rfl
              refine take_ (i:=23) (N:=some 61) (v:=?_) (a':=?_) #[true,true,true,true,true,true,true,true,true,true,true,true,true,true,true,true,true,true,true,true,true,true,true,true,true,false,false,false,false] rfl rfl (take_ofW HT_.out HW_.out (by kernel_rfl)) (fun _ _ _ h=>h) (Or.inl ⟨by rfl,?_⟩) hHeld ?_ ?_
              rotate_left
              ·rintro w' ⟨s0,s1,s2,s3⟩
               go_simp
               with_reducible rfl
              rotate_left
              ·simp only [Act.put,List.setIfInBounds_toArray,List.set_cons_zero,List.set_cons_succ,i64_w,i32_w]
               rfl
              refine take_ (i:=25) (N:=some 63) (v:=?_) (a':=?_) #[true,true,true,true,true,true,true,true,true,true,true,true,true,true,true,true,true,true,true,true,true,true,true,true,true,true,false,false,false] rfl rfl (take_ofW HT_.out HW_.out (by kernel_rfl)) (fun _ _ _ h=>h) (Or.inl ⟨by rfl,?_⟩) hHeld ?_ ?_
              rotate_left
              ·rintro w' ⟨s0,s1,s2,s3⟩
               go_simp
               with_reducible rfl
              rotate_left
              ·simp only [Act.put,List.setIfInBounds_toArray,List.set_cons_zero,List.set_cons_succ,i64_w,i32_w]
               rfl
              refine one_ (i:=26) (N:=some 64) #[true,true,true,true,true,true,true,true,true,true,true,true,true,true,true,true,true,true,true,true,true,true,true,true,true,true,true,false,false] rfl rfl (one_of HT_.out (by kernel_rfl)) (by decide) (fun K hK=>?_)
              refine goes_ Try.func51 (by kernel_rfl) rfl #[.slice Ao38 t293.length co38,.slice A2 l2.length c2,.slice A302_1 ((rd_T29 l3 x12_1).f1).length c302_1,.int .i64 ((rd_T29 l3 x12_1).f0)] (by rfl) rfl rfl (by (try simp only [List.map_toArray,List.map_cons,List.map_nil]);first|done|rfl|(simp only [List.length_drop,List.length_take];rfl)) ?_
              with_reducible refine (garboardref32_leads.calls k1 _ _ t293 _ _ l2 _ _ ((rd_T29 l3 x12_1).f1) ((rd_T29 l3 x12_1).f0) true _ ?side1 ?side2 ?side3 ?side4 ?side5 ?side6 A31.out).mono ?_
              (case side1=>repeat (first|exact (Kd.R_reads' HO_10.out).2.2|(with_reducible refine Kd.C_alloc ?_ _)|(with_reducible refine Kd.C_drewN ?_ _)|(with_reducible refine Kd.C_drew ?_)))
              (case side2=>exact (Kd.R_reads' HO_10.out).2.1)
              (case side3=>repeat (first|exact (Kd.C_below HR2.out (by repeat (first|(with_reducible first|exact HB.out|apply below_alloc|apply pw_below_drewN|apply below_drew1|refine below_set ?_ GE303.out)|exact HB.out)))|(with_reducible refine Kd.C_alloc ?_ _)|(with_reducible refine Kd.C_drewN ?_ _)|(with_reducible refine Kd.C_drew ?_)))
              (case side4=>exact HC2.out)
              (case side5=>repeat (first|exact (Kd.C_below HR302_1.out (by repeat (first|(with_reducible first|exact HB.out|apply below_alloc|apply pw_below_drewN|apply below_drew1|refine below_set ?_ GE303.out)|exact HB.out)))|(with_reducible refine Kd.C_alloc ?_ _)|(with_reducible refine Kd.C_drewN ?_ _)|(with_reducible refine Kd.C_drew ?_)))
              (case side6=>exact HC302_1.out)
              rintro e w39 ⟨rfl,hb⟩
              refine ⟨_,rfl,?_⟩
              have n0_:=Aside0.mk (Kd.R_below (by (with_reducible repeat (first|apply Kd.R_alloc|apply Kd.R_drewN|apply Kd.R_drew));exact HO_10.out) hb)
              have n1_:=Aside0.mk (Kd.R_below (by (with_reducible repeat (first|apply Kd.R_alloc|apply Kd.R_drewN|apply Kd.R_drew));exact HO_11.out) hb)
              have n2_:=Aside0.mk (blk_below (g:=gb303) (o:=.cells #[.int .i64 ((rd_T29 l3 x12_1).f0),.slice A302_1 ((rd_T29 l3 x12_1).f1).length c302_1] 29 (0,0)) (by (with_reducible repeat (first|refine blk_drewN ?_ _|refine blk_drew ?_|refine blk_alloc ?_ _));exact BK303.out) hb)
              have n3_:=Aside0.mk (below_step (by repeat (first|(with_reducible first|exact HB.out|apply below_alloc|apply pw_below_drewN|apply below_drew1|refine below_set ?_ GE303.out)|exact HB.out)) hb)
              clear HO_10
              clear HO_11
              clear BK303
              clear HB
              have HO_10:=n0_
              have HO_11:=n1_
              have BK303:=n2_
              have HB:=n3_
              clear n0_ n1_ n2_ n3_
              (try clear hb)
              (try clear hb2)
              (try clear hk)
              (try clear hi)
              refine hK.out _ _ ⟨(blk_cell BK303.out 0).trans rfl,(blk_cell BK303.out 1).trans rfl,((HB.out.cell (World.block_lt_of_cell? w _ hw304_0)).trans hw304_0),((HB.out.cell (World.block_lt_of_cell? w _ hw304_1)).trans hw304_1)⟩ (fun hHeld=>?_)
              clear hK K
              refine norm_ (a':=?_) ?_ ?_
              rotate_left
              ·show Act.put _ (some 64) _ = _
               simp only [Act.put,List.setIfInBounds_toArray,List.set_cons_zero,List.set_cons_succ,i64_w,i32_w]
               rfl
              refine pure_ (i:=27) (N:=some 65) (v:=?_) (a':=?_) #[true,true,true,true,true,true,true,true,true,true,true,true,true,true,true,true,true,true,true,true,true,true,true,true,true,true,true,true,false] rfl rfl (any_of HT_.out (by kernel_rfl)) (fun _ _ _ h=>h) (Or.inl ⟨by rfl,?_⟩) ?_ ?_
              rotate_left
              ·intro w'
               go_simp
               with_reducible rfl
              rotate_left
              ·simp only [Act.put,List.setIfInBounds_toArray,List.set_cons_zero,List.set_cons_succ,i64_w,i32_w]
               rfl
              refine pure_ (i:=28) (N:=some 66) (v:=?_) (a':=?_) #[true,true,true,true,true,true,true,true,true,true,true,true,true,true,true,true,true,true,true,true,true,true,true,true,true,true,true,true,true] rfl rfl (any_of HT_.out (by kernel_rfl)) (fun _ _ _ h=>h) (Or.inl ⟨by rfl,?_⟩) ?_ ?_
              rotate_left
              ·intro w'
               go_simp
               with_reducible rfl
              rotate_left
              ·simp only [Act.put,List.setIfInBounds_toArray,List.set_cons_zero,List.set_cons_succ,i64_w,i32_w]
               rfl
              refine done_ (done_of HT_.out (by kernel_rfl)) ?_
              have hcz40_0:w39.cell? ⟨gb303,0,none⟩ = some (.int .i64 ((rd_T29 l3 x12_1).f0)):=(blk_cell BK303.out 0).trans rfl
              have hcz40_1:w39.cell? ⟨gb303,1,none⟩ = some (.slice A302_1 ((rd_T29 l3 x12_1).f1).length c302_1):=(blk_cell BK303.out 1).trans rfl
              have hfz40_0:=blk_frozen BK303.out 0
              have hfz40_1:=blk_frozen BK303.out 1
              try go_wp2_with (first|((with_reducible refine gate_builtin (b:=.append) (xs:=#[.tmp 67,.tmp 70]) rfl ?_);at_builtin;refine Kd.R_append (Kd.int .i64) (w0:=w) w.heap.size rfl (.tmp 67) (.tmp 70) 23 3 (.int .i64 0) 8 rfl Try.underlying23 info3 rfl (by decide) (by omega) u11 x11_1 ((rd_T29 l3 x12_1).f0) [.int .i64 ((rd_T29 l3 x12_1).f0)] (fun _=>True) (fun _=>False) rfl rfl ?aP (fun _ hk=>hk.elim) ?aF ?aO ?aB ?aS ?aL ?_;(case aP=>exact rfl);(case aB=>exact (by repeat (first|(with_reducible first|exact HB.out|apply below_alloc|apply pw_below_drewN|apply below_drew1|refine below_set ?_ GE303.out)|exact HB.out)));(case aF=>exact (fun _ _=>trivial));(case aO=>exact (by (with_reducible repeat (first|apply Kd.R_alloc|apply Kd.R_drewN|apply Kd.R_drew));exact HO_11.out));(case aS=>exact (below_size (by repeat (first|(with_reducible first|exact HB.out|apply below_alloc|apply pw_below_drewN|apply below_drew1|refine below_set ?_ GE303.out)|exact HB.out))));(case aL=>have:=LMc33.out;omega);intro v308 w41 ho hb hg hat;rw [← Ny307.out] at ho;have n0_:=Aside0.mk (Kd.R_over' (by (with_reducible repeat (first|apply Kd.R_alloc|apply Kd.R_drewN|apply Kd.R_drew));exact HO_10.out) (Kd.R_typed (by (with_reducible repeat (first|apply Kd.R_alloc|apply Kd.R_drewN|apply Kd.R_drew));exact HO_11.out)) (by decide) hg);have n1_:=Aside0.mk (blk_grown (g:=gb303) (o:=.cells #[.int .i64 ((rd_T29 l3 x12_1).f0),.slice A302_1 ((rd_T29 l3 x12_1).f1).length c302_1] 29 (0,0)) (by (with_reducible repeat (first|refine blk_drewN ?_ _|refine blk_drew ?_|refine blk_alloc ?_ _));exact BK303.out) hg (Kd.R_ne HO_11.out BK303.out (by decide)));have n2_:=Aside0.mk (hb);have n3_:=Aside0.mk (ho);clear HO_10;clear BK303;clear HB;clear HO_11;have HO_10:=n0_;have BK303:=n1_;have HB:=n2_;have HO309:=n3_;clear n0_ n1_ n2_ n3_;clear ho hb hg hat))
              go_roundg k1
              case measure=>have:=HK1.out;omega
              case rel=>exact ⟨(y307),(wrap64 (x12_1 + 1)),(by first|rfl|(simp;done)|(simp [*];done)),H',⟨by have:=HK1.out;omega⟩,⟨by (with_reducible repeat (first|apply Kd.R_alloc|apply Kd.R_drewN|apply Kd.R_drew));exact HO_10.out⟩,⟨by (with_reducible repeat (first|apply Kd.R_alloc|apply Kd.R_drewN|apply Kd.R_drew));exact HO309.out⟩,⟨by repeat (first|(with_reducible first|exact HB.out|apply below_alloc|apply pw_below_drewN|apply below_drew1|refine below_set ?_ GE303.out)|exact HB.out)⟩⟩
             ·rw [if_neg c33] at H
              exact absurd H (by simp)
            ·replace c32:=Bool.eq_false_iff.mpr c32
             subst c32
             have H1:(some 14) = some r:=by rw [if_neg (show ¬ (false = true) by decide)] at H;exact H
             clear H
             have H:=H1
             clear H1
             obtain rfl:=Option.some.inj H
             have p302:0≤(x12_1:Int):=of_decide_eq_true (by first|(with_reducible assumption)|assumption)
             have q302:x12_1 < (l3.length:Int):=of_decide_eq_true (by first|(with_reducible assumption)|assumption)
             obtain ⟨ad302,A302_1,c302_1,e302,hx302_0,hx302_1,hl302_1,hi302_1⟩:=at_T29 HR3.out x12_1 p302 q302
             cases e302
             replace hx302_0:=(HB.out.cell (World.block_lt_of_cell? w _ hx302_0)).trans hx302_0
             replace hx302_1:=(HB.out.cell (World.block_lt_of_cell? w _ hx302_1)).trans hx302_1
             have HR302_1:=Aside0.mk hi302_1
             have HC302_1:=Aside0.mk hl302_1
             clear hi302_1 hl302_1
             replace p302:=eq_true p302
             replace q302:=eq_true q302
             try go_wp2_with (first|((with_reducible refine gate_dst (N:=13) rfl ?_);refine box_event ?hg (N:=13) ?hd (cs:=#[.int .i64 0,.slice none 0 0]) (t:=29) ?hr ?_;(case hd=>rfl);(case hg=>rfl);(case hr=>first|(go_simp;done)|(go_simp;rfl));intro gb303 hg w42 hbox hb;have n0_:=Aside0.mk (Kd.R_below (by (with_reducible repeat (first|apply Kd.R_alloc|apply Kd.R_drewN|apply Kd.R_drew));exact HO_10.out) hb);have n1_:=Aside0.mk (Kd.R_below (by (with_reducible repeat (first|apply Kd.R_alloc|apply Kd.R_drewN|apply Kd.R_drew));exact HO_11.out) hb);have n2_:=Aside0.mk (below_step (by repeat (first|(with_reducible first|exact HB.out|apply below_alloc|apply pw_below_drewN|apply below_drew1)|exact HB.out)) hb);have n3_:=Aside0.mk (hbox);have n4_:=Aside0.mk ((by rw [hg];exact (below_size (by repeat (first|(with_reducible first|exact HB.out|apply below_alloc|apply pw_below_drewN|apply below_drew1)|exact HB.out))):w.heap.size≤gb303));have n5_:=Aside0.mk ((by rw [hg];exact (below_size (by repeat (first|(with_reducible first|exact HB.out|apply below_alloc|apply pw_below_drewN|apply below_drew1)|exact HB.out))):w.heap.size≤gb303));clear HO_10;clear HO_11;clear HB;have HO_10:=n0_;have HO_11:=n1_;have HB:=n2_;have BK303:=n3_;have GW303:=n4_;have GE303:=n5_;clear n0_ n1_ n2_ n3_ n4_ n5_;clear hb hbox hg;have hcz43_0:w42.cell? ⟨gb303,0,none⟩ = some (.int .i64 0):=(blk_cell BK303.out 0).trans rfl;have hcz43_1:w42.cell? ⟨gb303,1,none⟩ = some (.slice none 0 0):=(blk_cell BK303.out 1).trans rfl;have hfz43_0:=blk_frozen BK303.out 0;have hfz43_1:=blk_frozen BK303.out 1))
             have n0_:Aside0 (Kd.R k48 48 ((w42.setCell ⟨gb303,0,none⟩ (.int .i64 ((rd_T29 l3 x12_1).f0))).setCell ⟨gb303,1,none⟩ (.slice A302_1 ((rd_T29 l3 x12_1).f1).length c302_1)) w.heap.size (fun _=>True) v294 t293):=⟨by (with_reducible repeat (first|apply Kd.R_alloc|apply Kd.R_drewN|apply Kd.R_drew));exact Kd.R_mono (Kd.R_far (p:=⟨gb303,1,none⟩) (Kd.R_far (p:=⟨gb303,0,none⟩) (Kd.R_types HO_10.out BK303.out (by decide)) (fun _ hk=>hk.2) (.int .i64 ((rd_T29 l3 x12_1).f0))) (fun _ hk=>hk.2) (.slice A302_1 ((rd_T29 l3 x12_1).f1).length c302_1)) (fun _ hk=>trivial)⟩
             have n1_:Aside0 (Kd.R (Kd.int .i64) 3 ((w42.setCell ⟨gb303,0,none⟩ (.int .i64 ((rd_T29 l3 x12_1).f0))).setCell ⟨gb303,1,none⟩ (.slice A302_1 ((rd_T29 l3 x12_1).f1).length c302_1)) w.heap.size (fun _=>True) u11 x11_1):=⟨by (with_reducible repeat (first|apply Kd.R_alloc|apply Kd.R_drewN|apply Kd.R_drew));exact Kd.R_mono (Kd.R_far (p:=⟨gb303,1,none⟩) (Kd.R_far (p:=⟨gb303,0,none⟩) (Kd.R_types HO_11.out BK303.out (by decide)) (fun _ hk=>hk.2) (.int .i64 ((rd_T29 l3 x12_1).f0))) (fun _ hk=>hk.2) (.slice A302_1 ((rd_T29 l3 x12_1).f1).length c302_1)) (fun _ hk=>trivial)⟩
             have n2_:Aside0 (((w42.setCell ⟨gb303,0,none⟩ (.int .i64 ((rd_T29 l3 x12_1).f0))).setCell ⟨gb303,1,none⟩ (.slice A302_1 ((rd_T29 l3 x12_1).f1).length c302_1)).heap[gb303]? = some (.cells #[.int .i64 ((rd_T29 l3 x12_1).f0),.slice A302_1 ((rd_T29 l3 x12_1).f1).length c302_1] 29 (0,0))):=⟨by (with_reducible repeat (first|refine blk_drewN ?_ _|refine blk_drew ?_|refine blk_alloc ?_ _));refine blk_put (cs:=#[.int .i64 ((rd_T29 l3 x12_1).f0),.slice none 0 0]) ?_ 1 _ rfl;(with_reducible repeat (first|refine blk_drewN ?_ _|refine blk_drew ?_|refine blk_alloc ?_ _));refine blk_put (cs:=#[.int .i64 0,.slice none 0 0]) ?_ 0 _ rfl;(with_reducible repeat (first|refine blk_drewN ?_ _|refine blk_drew ?_|refine blk_alloc ?_ _));exact BK303.out⟩
             have n3_:Aside0 (Below w.heap.size w ((w42.setCell ⟨gb303,0,none⟩ (.int .i64 ((rd_T29 l3 x12_1).f0))).setCell ⟨gb303,1,none⟩ (.slice A302_1 ((rd_T29 l3 x12_1).f1).length c302_1))):=⟨by repeat (first|(with_reducible first|exact HB.out|apply below_alloc|apply pw_below_drewN|apply below_drew1|refine below_set ?_ GE303.out)|exact HB.out)⟩
             (try clear HO_10)
             (try clear HO_11)
             (try clear BK303)
             (try clear HB)
             generalize ((w42.setCell ⟨gb303,0,none⟩ (.int .i64 ((rd_T29 l3 x12_1).f0))).setCell ⟨gb303,1,none⟩ (.slice A302_1 ((rd_T29 l3 x12_1).f1).length c302_1)) = w44 at n0_ n1_ n2_ n3_ ⊢
             have HO_10:=n0_
             have HO_11:=n1_
             have BK303:=n2_
             have HB:=n3_
             clear n0_ n1_ n2_ n3_
             have n0_:=Aside0.mk (Kd.R_drew HO_10.out)
             have n1_:=Aside0.mk (Kd.R_drew HO_11.out)
             have n2_:=Aside0.mk (blk_drew BK303.out)
             have n3_:=Aside0.mk (below_drew1 HB.out)
             clear HO_10
             clear HO_11
             clear BK303
             clear HB
             have HO_10:=n0_
             have HO_11:=n1_
             have BK303:=n2_
             have HB:=n3_
             clear n0_ n1_ n2_ n3_
             have p304:0≤((ji17):Int):=of_decide_eq_true (by first|(with_reducible assumption)|assumption)
             have q304:(ji17) < (l3.length:Int):=of_decide_eq_true (by first|(with_reducible assumption)|assumption)
             obtain ⟨ad304,A304_1,c304_1,e304,hx304_0,hx304_1,hl304_1,hi304_1⟩:=at_T29 HR3.out (ji17) p304 q304
             have hw304_1:=hx304_1
             have hw304_0:=hx304_0
             obtain rfl:ad302 = ad304:=(by injection e304)
             replace hx304_0:=(HB.out.cell (World.block_lt_of_cell? w _ hx304_0)).trans hx304_0
             replace hx304_1:=(HB.out.cell (World.block_lt_of_cell? w _ hx304_1)).trans hx304_1
             have HR304_1:=Aside0.mk hi304_1
             have HC304_1:=Aside0.mk hl304_1
             clear hi304_1 hl304_1
             replace p304:=eq_true p304
             replace q304:=eq_true q304
             refine start_ (n:=29) (S:=fun w'=>w'.cell? ⟨gb303,0,none⟩ = some (.int .i64 ((rd_T29 l3 x12_1).f0))∧w'.cell? ⟨gb303,1,none⟩ = some (.slice A302_1 ((rd_T29 l3 x12_1).f1).length c302_1)∧w'.cell? (ad302.add (((ji17)).toNat * 2)) = some (.int .i64 ((rd_T29 l3 (ji17)).f0))∧w'.cell? ⟨(ad302.add (((ji17)).toNat * 2)).block,(ad302.add (((ji17)).toNat * 2)).off + 1,none⟩ = some (.slice A304_1 ((rd_T29 l3 (ji17)).f1).length c304_1)) (ds:=[]) #[false,false,false,false,false,false,false,false,false,false,false,false,false,false,false,false,false,false,false,false,false,false,false,false,false,false,false,false,false] (by kernel_rfl) rfl rfl ⟨(blk_cell BK303.out 0).trans rfl,(blk_cell BK303.out 1).trans rfl,((HB.out.cell (World.block_lt_of_cell? w _ hw304_0)).trans hw304_0),((HB.out.cell (World.block_lt_of_cell? w _ hw304_1)).trans hw304_1)⟩ (fun hHeld=>?_);refine with_tabW garboardref32_Check.tab10 garboardref32_Check.bits10 (fun HT_ HW_=>?_)
             generalize w44.drew = w45 at HO_10 HO_11 BK303 HB HR304_1 hx304_0 hx304_1 hHeld ⊢
             refine pure_ (i:=0) (N:=some 38) (v:=?_) (a':=?_) #[true,false,false,false,false,false,false,false,false,false,false,false,false,false,false,false,false,false,false,false,false,false,false,false,false,false,false,false,false] rfl rfl (any_of HT_.out (by kernel_rfl)) (fun _ _ _ h=>h) (Or.inl ⟨by rfl,?_⟩) ?_ ?_
             rotate_left
             ·intro w'
              go_simp
              with_reducible rfl
             rotate_left
             ·simp only [Act.put,List.setIfInBounds_toArray,List.set_cons_zero,List.set_cons_succ,i64_w,i32_w]
              rfl
             refine pure_ (i:=1) (N:=some 39) (v:=?_) (a':=?_) #[true,true,false,false,false,false,false,false,false,false,false,false,false,false,false,false,false,false,false,false,false,false,false,false,false,false,false,false,false] rfl rfl (any_of HT_.out (by kernel_rfl)) (fun _ _ _ h=>h) (Or.inl ⟨by rfl,?_⟩) ?_ ?_
             rotate_left
             ·intro w'
              go_simp
              with_reducible rfl
             rotate_left
             ·simp only [Act.put,List.setIfInBounds_toArray,List.set_cons_zero,List.set_cons_succ,i64_w,i32_w]
              rfl
             refine pure_ (i:=2) (N:=some 40) (v:=?_) (a':=?_) #[true,true,true,false,false,false,false,false,false,false,false,false,false,false,false,false,false,false,false,false,false,false,false,false,false,false,false,false,false] rfl rfl (any_of HT_.out (by kernel_rfl)) (fun _ _ _ h=>h) (Or.inl ⟨by rfl,?_⟩) ?_ ?_
             rotate_left
             ·intro w'
              go_simp
              with_reducible rfl
             rotate_left
             ·simp only [Act.put,List.setIfInBounds_toArray,List.set_cons_zero,List.set_cons_succ,i64_w,i32_w]
              rfl
             refine pure_ (i:=3) (N:=some 41) (v:=?_) (a':=?_) #[true,true,true,true,false,false,false,false,false,false,false,false,false,false,false,false,false,false,false,false,false,false,false,false,false,false,false,false,false] rfl rfl (any_of HT_.out (by kernel_rfl)) (fun _ _ _ h=>h) (Or.inl ⟨by rfl,?_⟩) ?_ ?_
             rotate_left
             ·intro w'
              go_simp
              with_reducible rfl
             rotate_left
             ·simp only [Act.put,List.setIfInBounds_toArray,List.set_cons_zero,List.set_cons_succ,i64_w,i32_w]
              rfl
             refine pure_ (i:=5) (N:=some 43) (v:=?_) (a':=?_) #[true,true,true,true,false,true,false,false,false,false,false,false,false,false,false,false,false,false,false,false,false,false,false,false,false,false,false,false,false] rfl rfl (any_of HT_.out (by kernel_rfl)) (fun _ _ _ h=>h) (Or.inl ⟨by rfl,?_⟩) ?_ ?_
             rotate_left
             ·intro w'
              go_simp
              with_reducible rfl
             rotate_left
             ·simp only [Act.put,List.setIfInBounds_toArray,List.set_cons_zero,List.set_cons_succ,i64_w,i32_w]
              rfl
             refine pure_ (i:=6) (N:=some 44) (v:=?_) (a':=?_) #[true,true,true,true,false,true,true,false,false,false,false,false,false,false,false,false,false,false,false,false,false,false,false,false,false,false,false,false,false] rfl rfl (any_of HT_.out (by kernel_rfl)) (fun _ _ _ h=>h) (Or.inl ⟨by rfl,?_⟩) ?_ ?_
             rotate_left
             ·intro w'
              go_simp
              with_reducible rfl
             rotate_left
             ·simp only [Act.put,List.setIfInBounds_toArray,List.set_cons_zero,List.set_cons_succ,i64_w,i32_w]
              rfl
             refine pure_ (i:=7) (N:=some 45) (v:=?_) (a':=?_) #[true,true,true,true,false,true,true,true,false,false,false,false,false,false,false,false,false,false,false,false,false,false,false,false,false,false,false,false,false] rfl rfl (any_of HT_.out (by kernel_rfl)) (fun _ _ _ h=>h) (Or.inl ⟨by rfl,?_⟩) ?_ ?_
             rotate_left
             ·intro w'
              go_simp
              with_reducible rfl
             rotate_left
             ·simp only [Act.put,List.setIfInBounds_toArray,List.set_cons_zero,List.set_cons_succ,i64_w,i32_w]
              rfl
             refine pure_ (i:=8) (N:=some 46) (v:=?_) (a':=?_) #[true,true,true,true,false,true,true,true,true,false,false,false,false,false,false,false,false,false,false,false,false,false,false,false,false,false,false,false,false] rfl rfl (any_of HT_.out (by kernel_rfl)) (fun _ _ _ h=>h) (Or.inl ⟨by rfl,?_⟩) ?_ ?_
             rotate_left
             ·intro w'
              go_simp
              with_reducible rfl
             rotate_left
             ·simp only [Act.put,List.setIfInBounds_toArray,List.set_cons_zero,List.set_cons_succ,i64_w,i32_w]
              rfl
             refine pure_ (i:=9) (N:=some 47) (v:=?_) (a':=?_) #[true,true,true,true,false,true,true,true,true,true,false,false,false,false,false,false,false,false,false,false,false,false,false,false,false,false,false,false,false] rfl rfl (any_of HT_.out (by kernel_rfl)) (fun _ _ _ h=>h) (Or.inl ⟨by rfl,?_⟩) ?_ ?_
             rotate_left
             ·intro w'
              go_simp
              with_reducible rfl
             rotate_left
             ·simp only [Act.put,List.setIfInBounds_toArray,List.set_cons_zero,List.set_cons_succ,i64_w,i32_w]
              rfl
             refine take_ (i:=4) (N:=some 42) (v:=?_) (a':=?_) #[true,true,true,true,true,true,true,true,true,true,false,false,false,false,false,false,false,false,false,false,false,false,false,false,false,false,false,false,false] rfl rfl (take_ofW HT_.out HW_.out (by kernel_rfl)) (fun _ _ _ h=>h) (Or.inl ⟨by rfl,?_⟩) hHeld ?_ ?_
             rotate_left
             ·rintro w' ⟨s0,s1,s2,s3⟩
              go_simp
              with_reducible rfl
             rotate_left
             ·simp only [Act.put,List.setIfInBounds_toArray,List.set_cons_zero,List.set_cons_succ,i64_w,i32_w]
              rfl
             refine take_ (i:=10) (N:=some 48) (v:=?_) (a':=?_) #[true,true,true,true,true,true,true,true,true,true,true,false,false,false,false,false,false,false,false,false,false,false,false,false,false,false,false,false,false] rfl rfl (take_ofW HT_.out HW_.out (by kernel_rfl)) (fun _ _ _ h=>h) (Or.inl ⟨by rfl,?_⟩) hHeld ?_ ?_
             rotate_left
             ·rintro w' ⟨s0,s1,s2,s3⟩
              go_simp
              with_reducible rfl
             rotate_left
             ·simp only [Act.put,List.setIfInBounds_toArray,List.set_cons_zero,List.set_cons_succ,i64_w,i32_w]
              rfl
             refine pure_ (i:=11) (N:=some 49) (v:=?_) (a':=?_) #[true,true,true,true,true,true,true,true,true,true,true,true,false,false,false,false,false,false,false,false,false,false,false,false,false,false,false,false,false] rfl rfl (any_of HT_.out (by kernel_rfl)) (fun _ _ _ h=>h) (Or.inl ⟨by rfl,?_⟩) ?_ ?_
             rotate_left
             ·intro w'
              go_simp
              with_reducible rfl
             rotate_left
             ·simp only [Act.put,List.setIfInBounds_toArray,List.set_cons_zero,List.set_cons_succ,i64_w,i32_w]
              rfl
             refine pure_ (i:=12) (N:=some 50) (v:=?_) (a':=?_) #[true,true,true,true,true,true,true,true,true,true,true,true,true,false,false,false,false,false,false,false,false,false,false,false,false,false,false,false,false] rfl rfl (any_of HT_.out (by kernel_rfl)) (fun _ _ _ h=>h) (Or.inl ⟨by rfl,?_⟩) ?_ ?_
             rotate_left
             ·intro w'
              go_simp
              with_reducible rfl
             rotate_left
             ·simp only [Act.put,List.setIfInBounds_toArray,List.set_cons_zero,List.set_cons_succ,i64_w,i32_w]
              rfl
             refine pure_ (i:=13) (N:=some 51) (v:=?_) (a':=?_) #[true,true,true,true,true,true,true,true,true,true,true,true,true,true,false,false,false,false,false,false,false,false,false,false,false,false,false,false,false] rfl rfl (any_of HT_.out (by kernel_rfl)) (fun _ _ _ h=>h) (Or.inl ⟨by rfl,?_⟩) ?_ ?_
             rotate_left
             ·intro w'
              go_simp
              with_reducible rfl
             rotate_left
             ·simp only [Act.put,List.setIfInBounds_toArray,List.set_cons_zero,List.set_cons_succ,i64_w,i32_w]
              rfl
             refine pure_ (i:=14) (N:=some 52) (v:=?_) (a':=?_) #[true,true,true,true,true,true,true,true,true,true,true,true,true,true,true,false,false,false,false,false,false,false,false,false,false,false,false,false,false] rfl rfl (any_of HT_.out (by kernel_rfl)) (fun _ _ _ h=>h) (Or.inl ⟨by rfl,?_⟩) ?_ ?_
             rotate_left
             ·intro w'
              go_simp
              with_reducible rfl
             rotate_left
             ·simp only [Act.put,List.setIfInBounds_toArray,List.set_cons_zero,List.set_cons_succ,i64_w,i32_w]
              rfl
             refine pure_ (i:=15) (N:=some 53) (v:=?_) (a':=?_) #[true,true,true,true,true,true,true,true,true,true,true,true,true,true,true,true,false,false,false,false,false,false,false,false,false,false,false,false,false] rfl rfl (any_of HT_.out (by kernel_rfl)) (fun _ _ _ h=>h) (Or.inl ⟨by rfl,?_⟩) ?_ ?_
             rotate_left
             ·intro w'
              go_simp
              with_reducible rfl
             rotate_left
             ·simp only [Act.put,List.setIfInBounds_toArray,List.set_cons_zero,List.set_cons_succ,i64_w,i32_w]
              rfl
             refine take_ (i:=16) (N:=some 54) (v:=?_) (a':=?_) #[true,true,true,true,true,true,true,true,true,true,true,true,true,true,true,true,true,false,false,false,false,false,false,false,false,false,false,false,false] rfl rfl (take_ofW HT_.out HW_.out (by kernel_rfl)) (fun _ _ _ h=>h) (Or.inl ⟨by rfl,?_⟩) hHeld ?_ ?_
             rotate_left
             ·rintro w' ⟨s0,s1,s2,s3⟩
              go_simp
              with_reducible rfl
             rotate_left
             ·simp only [Act.put,List.setIfInBounds_toArray,List.set_cons_zero,List.set_cons_succ,i64_w,i32_w]
              rfl
             refine one_ (i:=17) (N:=some 55) #[true,true,true,true,true,true,true,true,true,true,true,true,true,true,true,true,true,true,false,false,false,false,false,false,false,false,false,false,false] rfl rfl (one_of HT_.out (by kernel_rfl)) (by decide) (fun K hK=>?_)
             refine goes_ Try.func50 (by kernel_rfl) rfl #[.slice A2 l2.length c2,.int .i64 ((rd_T29 l3 x12_1).f0)] (by rfl) rfl rfl (by (try simp only [List.map_toArray,List.map_cons,List.map_nil]);first|done|rfl|(simp only [List.length_drop,List.length_take];rfl)) ?_
             with_reducible refine (garboardref32_Has.calls k1 _ _ l2 ((rd_T29 l3 x12_1).f0) false _ ?side1 ?side2 A25.out).mono ?_
             (case side1=>repeat (first|exact (Kd.C_below HR2.out HB.out)|(with_reducible refine Kd.C_alloc ?_ _)|(with_reducible refine Kd.C_drewN ?_ _)|(with_reducible refine Kd.C_drew ?_)))
             (case side2=>exact HC2.out)
             rintro e w' ⟨rfl,⟨nd,rfl⟩⟩
             refine ⟨_,rfl,?_⟩
             obtain ⟨Ao46,co46,eo46⟩:=Kd.R_slice HO_10.out
             (first|subst eo46|(injection eo46 with f1_ f2_ f3_;have f4_:=f1_.symm;have f5_:=f3_.symm;clear f1_ f2_ f3_;subst f4_;subst f5_))
             refine hK.out _ _ ⟨(blk_cell BK303.out 0).trans rfl,(blk_cell BK303.out 1).trans rfl,((HB.out.cell (World.block_lt_of_cell? w _ hw304_0)).trans hw304_0),((HB.out.cell (World.block_lt_of_cell? w _ hw304_1)).trans hw304_1)⟩ (fun hHeld=>?_)
             clear hK K
             refine norm_ (a':=?_) ?_ ?_
             rotate_left
             ·show Act.put _ (some 55) _ = _
              simp only [Act.put,List.setIfInBounds_toArray,List.set_cons_zero,List.set_cons_succ,i64_w,i32_w]
              rfl
             refine pure_ (i:=18) (N:=some 56) (v:=?_) (a':=?_) #[true,true,true,true,true,true,true,true,true,true,true,true,true,true,true,true,true,true,true,false,false,false,false,false,false,false,false,false,false] rfl rfl (any_of HT_.out (by kernel_rfl)) (fun _ _ _ h=>h) (Or.inl ⟨by rfl,?_⟩) ?_ ?_
             rotate_left
             ·intro w'
              go_simp
              with_reducible rfl
             rotate_left
             ·simp only [Act.put,List.setIfInBounds_toArray,List.set_cons_zero,List.set_cons_succ,i64_w,i32_w]
              rfl
             refine pure_ (i:=19) (N:=some 57) (v:=?_) (a':=?_) #[true,true,true,true,true,true,true,true,true,true,true,true,true,true,true,true,true,true,true,true,false,false,false,false,false,false,false,false,false] rfl rfl (any_of HT_.out (by kernel_rfl)) (fun _ _ _ h=>h) (Or.inl ⟨by rfl,?_⟩) ?_ ?_
             rotate_left
             ·intro w'
              go_simp
              with_reducible rfl
             rotate_left
             ·simp only [Act.put,List.setIfInBounds_toArray,List.set_cons_zero,List.set_cons_succ,i64_w,i32_w]
              rfl
             refine pure_ (i:=20) (N:=some 58) (v:=?_) (a':=?_) #[true,true,true,true,true,true,true,true,true,true,true,true,true,true,true,true,true,true,true,true,true,false,false,false,false,false,false,false,false] rfl rfl (any_of HT_.out (by kernel_rfl)) (fun _ _ _ h=>h) (Or.inl ⟨by rfl,?_⟩) ?_ ?_
             rotate_left
             ·intro w'
              go_simp
              with_reducible rfl
             rotate_left
             ·simp only [Act.put,List.setIfInBounds_toArray,List.set_cons_zero,List.set_cons_succ,i64_w,i32_w]
              rfl
             refine pure_ (i:=21) (N:=some 59) (v:=?_) (a':=?_) #[true,true,true,true,true,true,true,true,true,true,true,true,true,true,true,true,true,true,true,true,true,true,false,false,false,false,false,false,false] rfl rfl (any_of HT_.out (by kernel_rfl)) (fun _ _ _ h=>h) (Or.inl ⟨by rfl,?_⟩) ?_ ?_
             rotate_left
             ·intro w'
              go_simp
              with_reducible rfl
             rotate_left
             ·simp only [Act.put,List.setIfInBounds_toArray,List.set_cons_zero,List.set_cons_succ,i64_w,i32_w]
              rfl
             refine pure_ (i:=22) (N:=some 60) (v:=?_) (a':=?_) #[true,true,true,true,true,true,true,true,true,true,true,true,true,true,true,true,true,true,true,true,true,true,true,false,false,false,false,false,false] rfl rfl (any_of HT_.out (by kernel_rfl)) (fun _ _ _ h=>h) (Or.inl ⟨by rfl,?_⟩) ?_ ?_
             rotate_left
             ·intro w'
              go_simp
              with_reducible rfl
             rotate_left
             ·simp only [Act.put,List.setIfInBounds_toArray,List.set_cons_zero,List.set_cons_succ,i64_w,i32_w]
              rfl
             refine pure_ (i:=24) (N:=some 62) (v:=?_) (a':=?_) #[true,true,true,true,true,true,true,true,true,true,true,true,true,true,true,true,true,true,true,true,true,true,true,false,true,false,false,false,false] rfl rfl (any_of HT_.out (by kernel_rfl)) (fun _ _ _ h=>h) (Or.inl ⟨by rfl,?_⟩) ?_ ?_
             rotate_left
             ·intro w'
              go_simp
              with_reducible rfl
             rotate_left
             ·simp only [Act.put,List.setIfInBounds_toArray,List.set_cons_zero,List.set_cons_succ,i64_w,i32_w]
              rfl
             refine take_ (i:=23) (N:=some 61) (v:=?_) (a':=?_) #[true,true,true,true,true,true,true,true,true,true,true,true,true,true,true,true,true,true,true,true,true,true,true,true,true,false,false,false,false] rfl rfl (take_ofW HT_.out HW_.out (by kernel_rfl)) (fun _ _ _ h=>h) (Or.inl ⟨by rfl,?_⟩) hHeld ?_ ?_
             rotate_left
             ·rintro w' ⟨s0,s1,s2,s3⟩
              go_simp
              with_reducible rfl
             rotate_left
             ·simp only [Act.put,List.setIfInBounds_toArray,List.set_cons_zero,List.set_cons_succ,i64_w,i32_w]
              rfl
             refine take_ (i:=25) (N:=some 63) (v:=?_) (a':=?_) #[true,true,true,true,true,true,true,true,true,true,true,true,true,true,true,true,true,true,true,true,true,true,true,true,true,true,false,false,false] rfl rfl (take_ofW HT_.out HW_.out (by kernel_rfl)) (fun _ _ _ h=>h) (Or.inl ⟨by rfl,?_⟩) hHeld ?_ ?_
             rotate_left
             ·rintro w' ⟨s0,s1,s2,s3⟩
              go_simp
              with_reducible rfl
             rotate_left
             ·simp only [Act.put,List.setIfInBounds_toArray,List.set_cons_zero,List.set_cons_succ,i64_w,i32_w]
              rfl
             refine one_ (i:=26) (N:=some 64) #[true,true,true,true,true,true,true,true,true,true,true,true,true,true,true,true,true,true,true,true,true,true,true,true,true,true,true,false,false] rfl rfl (one_of HT_.out (by kernel_rfl)) (by decide) (fun K hK=>?_)
             refine goes_ Try.func51 (by kernel_rfl) rfl #[.slice Ao46 t293.length co46,.slice A2 l2.length c2,.slice A302_1 ((rd_T29 l3 x12_1).f1).length c302_1,.int .i64 ((rd_T29 l3 x12_1).f0)] (by rfl) rfl rfl (by (try simp only [List.map_toArray,List.map_cons,List.map_nil]);first|done|rfl|(simp only [List.length_drop,List.length_take];rfl)) ?_
             with_reducible refine (garboardref32_leads.calls k1 _ _ t293 _ _ l2 _ _ ((rd_T29 l3 x12_1).f1) ((rd_T29 l3 x12_1).f0) false _ ?side1 ?side2 ?side3 ?side4 ?side5 ?side6 A31.out).mono ?_
             (case side1=>repeat (first|exact (Kd.R_reads' HO_10.out).2.2|(with_reducible refine Kd.C_alloc ?_ _)|(with_reducible refine Kd.C_drewN ?_ _)|(with_reducible refine Kd.C_drew ?_)))
             (case side2=>exact (Kd.R_reads' HO_10.out).2.1)
             (case side3=>repeat (first|exact (Kd.C_below HR2.out (by repeat (first|(with_reducible first|exact HB.out|apply below_alloc|apply pw_below_drewN|apply below_drew1|refine below_set ?_ GE303.out)|exact HB.out)))|(with_reducible refine Kd.C_alloc ?_ _)|(with_reducible refine Kd.C_drewN ?_ _)|(with_reducible refine Kd.C_drew ?_)))
             (case side4=>exact HC2.out)
             (case side5=>repeat (first|exact (Kd.C_below HR302_1.out (by repeat (first|(with_reducible first|exact HB.out|apply below_alloc|apply pw_below_drewN|apply below_drew1|refine below_set ?_ GE303.out)|exact HB.out)))|(with_reducible refine Kd.C_alloc ?_ _)|(with_reducible refine Kd.C_drewN ?_ _)|(with_reducible refine Kd.C_drew ?_)))
             (case side6=>exact HC302_1.out)
             rintro e w47 ⟨rfl,hb⟩
             refine ⟨_,rfl,?_⟩
             have n0_:=Aside0.mk (Kd.R_below (by (with_reducible repeat (first|apply Kd.R_alloc|apply Kd.R_drewN|apply Kd.R_drew));exact HO_10.out) hb)
             have n1_:=Aside0.mk (Kd.R_below (by (with_reducible repeat (first|apply Kd.R_alloc|apply Kd.R_drewN|apply Kd.R_drew));exact HO_11.out) hb)
             have n2_:=Aside0.mk (blk_below (g:=gb303) (o:=.cells #[.int .i64 ((rd_T29 l3 x12_1).f0),.slice A302_1 ((rd_T29 l3 x12_1).f1).length c302_1] 29 (0,0)) (by (with_reducible repeat (first|refine blk_drewN ?_ _|refine blk_drew ?_|refine blk_alloc ?_ _));exact BK303.out) hb)
             have n3_:=Aside0.mk (below_step (by repeat (first|(with_reducible first|exact HB.out|apply below_alloc|apply pw_below_drewN|apply below_drew1|refine below_set ?_ GE303.out)|exact HB.out)) hb)
             clear HO_10
             clear HO_11
             clear BK303
             clear HB
             have HO_10:=n0_
             have HO_11:=n1_
             have BK303:=n2_
             have HB:=n3_
             clear n0_ n1_ n2_ n3_
             (try clear hb)
             (try clear hb2)
             (try clear hk)
             (try clear hi)
             refine hK.out _ _ ⟨(blk_cell BK303.out 0).trans rfl,(blk_cell BK303.out 1).trans rfl,((HB.out.cell (World.block_lt_of_cell? w _ hw304_0)).trans hw304_0),((HB.out.cell (World.block_lt_of_cell? w _ hw304_1)).trans hw304_1)⟩ (fun hHeld=>?_)
             clear hK K
             refine norm_ (a':=?_) ?_ ?_
             rotate_left
             ·show Act.put _ (some 64) _ = _
              simp only [Act.put,List.setIfInBounds_toArray,List.set_cons_zero,List.set_cons_succ,i64_w,i32_w]
              rfl
             refine pure_ (i:=27) (N:=some 65) (v:=?_) (a':=?_) #[true,true,true,true,true,true,true,true,true,true,true,true,true,true,true,true,true,true,true,true,true,true,true,true,true,true,true,true,false] rfl rfl (any_of HT_.out (by kernel_rfl)) (fun _ _ _ h=>h) (Or.inl ⟨by rfl,?_⟩) ?_ ?_
             rotate_left
             ·intro w'
              go_simp
              with_reducible rfl
             rotate_left
             ·simp only [Act.put,List.setIfInBounds_toArray,List.set_cons_zero,List.set_cons_succ,i64_w,i32_w]
              rfl
             refine pure_ (i:=28) (N:=some 66) (v:=?_) (a':=?_) #[true,true,true,true,true,true,true,true,true,true,true,true,true,true,true,true,true,true,true,true,true,true,true,true,true,true,true,true,true] rfl rfl (any_of HT_.out (by kernel_rfl)) (fun _ _ _ h=>h) (Or.inl ⟨by rfl,?_⟩) ?_ ?_
             rotate_left
             ·intro w'
              go_simp
              with_reducible rfl
             rotate_left
             ·simp only [Act.put,List.setIfInBounds_toArray,List.set_cons_zero,List.set_cons_succ,i64_w,i32_w]
              rfl
             refine done_ (done_of HT_.out (by kernel_rfl)) ?_
             try go_wp2
             go_ret
             exact ⟨by first|rfl|(simp [errW_none,errW_some]<;>rfl)|(simp only [← hji17];first|rfl|(simp [errW_none,errW_some]<;>rfl))|(simp [*,errW_none,errW_some]<;>rfl),by repeat (first|(with_reducible first|exact HB.out|apply below_alloc|apply pw_below_drewN|apply below_drew1|refine below_set ?_ GE303.out)|exact HB.out)⟩
         ·rw [if_neg c19] at H
          exact absurd H (by simp)
        ·rw [if_neg c18] at H
         exact absurd H (by simp)
       ·rw [if_neg c16] at H
        have c16b0:decide (0 < x12_1) = false:=decide_eq_false c16
        clear c16
        replace H:=Option.bind_eq_some_iff.mp H
        obtain ⟨t310,A480,H⟩:=H
        replace H:(if t310 = true then (some 14) else ((garboardref32_leads.f k1 t293 l2 ((rd_T29 l3 x12_1).f1) ((rd_T29 l3 x12_1).f0)).bind fun t311=>(if t311 = true then (if x11_1.length < 17592186044416 then (garboardref32_Check.l0 k1 l2 l3 t293 (x11_1 ++ [(rd_T29 l3 x12_1).f0]) (wrap64 (x12_1 + 1))) else (none)) else (some 14)))) = some r:=H
        have A48:=Aside0.mk A480
        clear A480
        by_cases c49:t310 = true
        ·subst c49
         have H1:(some 14) = some r:=by rw [if_pos rfl] at H;exact H
         clear H
         have H:=H1
         clear H1
         obtain rfl:=Option.some.inj H
         have p302:0≤(x12_1:Int):=of_decide_eq_true (by first|(with_reducible assumption)|assumption)
         have q302:x12_1 < (l3.length:Int):=of_decide_eq_true (by first|(with_reducible assumption)|assumption)
         obtain ⟨ad302,A302_1,c302_1,e302,hx302_0,hx302_1,hl302_1,hi302_1⟩:=at_T29 HR3.out x12_1 p302 q302
         cases e302
         replace hx302_0:=(HB.out.cell (World.block_lt_of_cell? w _ hx302_0)).trans hx302_0
         replace hx302_1:=(HB.out.cell (World.block_lt_of_cell? w _ hx302_1)).trans hx302_1
         have HR302_1:=Aside0.mk hi302_1
         have HC302_1:=Aside0.mk hl302_1
         clear hi302_1 hl302_1
         replace p302:=eq_true p302
         replace q302:=eq_true q302
         try go_wp2_with (first|((with_reducible refine gate_dst (N:=13) rfl ?_);refine box_event ?hg (N:=13) ?hd (cs:=#[.int .i64 0,.slice none 0 0]) (t:=29) ?hr ?_;(case hd=>rfl);(case hg=>rfl);(case hr=>first|(go_simp;done)|(go_simp;rfl));intro gb303 hg w50 hbox hb;have n0_:=Aside0.mk (Kd.R_below (by (with_reducible repeat (first|apply Kd.R_alloc|apply Kd.R_drewN|apply Kd.R_drew));exact HO_10.out) hb);have n1_:=Aside0.mk (Kd.R_below (by (with_reducible repeat (first|apply Kd.R_alloc|apply Kd.R_drewN|apply Kd.R_drew));exact HO_11.out) hb);have n2_:=Aside0.mk (below_step (by repeat (first|(with_reducible first|exact HB.out|apply below_alloc|apply pw_below_drewN|apply below_drew1)|exact HB.out)) hb);have n3_:=Aside0.mk (hbox);have n4_:=Aside0.mk ((by rw [hg];exact (below_size (by repeat (first|(with_reducible first|exact HB.out|apply below_alloc|apply pw_below_drewN|apply below_drew1)|exact HB.out))):w.heap.size≤gb303));have n5_:=Aside0.mk ((by rw [hg];exact (below_size (by repeat (first|(with_reducible first|exact HB.out|apply below_alloc|apply pw_below_drewN|apply below_drew1)|exact HB.out))):w.heap.size≤gb303));clear HO_10;clear HO_11;clear HB;have HO_10:=n0_;have HO_11:=n1_;have HB:=n2_;have BK303:=n3_;have GW303:=n4_;have GE303:=n5_;clear n0_ n1_ n2_ n3_ n4_ n5_;clear hb hbox hg;have hcz51_0:w50.cell? ⟨gb303,0,none⟩ = some (.int .i64 0):=(blk_cell BK303.out 0).trans rfl;have hcz51_1:w50.cell? ⟨gb303,1,none⟩ = some (.slice none 0 0):=(blk_cell BK303.out 1).trans rfl;have hfz51_0:=blk_frozen BK303.out 0;have hfz51_1:=blk_frozen BK303.out 1))
         have n0_:Aside0 (Kd.R k48 48 ((w50.setCell ⟨gb303,0,none⟩ (.int .i64 ((rd_T29 l3 x12_1).f0))).setCell ⟨gb303,1,none⟩ (.slice A302_1 ((rd_T29 l3 x12_1).f1).length c302_1)) w.heap.size (fun _=>True) v294 t293):=⟨by (with_reducible repeat (first|apply Kd.R_alloc|apply Kd.R_drewN|apply Kd.R_drew));exact Kd.R_mono (Kd.R_far (p:=⟨gb303,1,none⟩) (Kd.R_far (p:=⟨gb303,0,none⟩) (Kd.R_types HO_10.out BK303.out (by decide)) (fun _ hk=>hk.2) (.int .i64 ((rd_T29 l3 x12_1).f0))) (fun _ hk=>hk.2) (.slice A302_1 ((rd_T29 l3 x12_1).f1).length c302_1)) (fun _ hk=>trivial)⟩
         have n1_:Aside0 (Kd.R (Kd.int .i64) 3 ((w50.setCell ⟨gb303,0,none⟩ (.int .i64 ((rd_T29 l3 x12_1).f0))).setCell ⟨gb303,1,none⟩ (.slice A302_1 ((rd_T29 l3 x12_1).f1).length c302_1)) w.heap.size (fun _=>True) u11 x11_1):=⟨by (with_reducible repeat (first|apply Kd.R_alloc|apply Kd.R_drewN|apply Kd.R_drew));exact Kd.R_mono (Kd.R_far (p:=⟨gb303,1,none⟩) (Kd.R_far (p:=⟨gb303,0,none⟩) (Kd.R_types HO_11.out BK303.out (by decide)) (fun _ hk=>hk.2) (.int .i64 ((rd_T29 l3 x12_1).f0))) (fun _ hk=>hk.2) (.slice A302_1 ((rd_T29 l3 x12_1).f1).length c302_1)) (fun _ hk=>trivial)⟩
         have n2_:Aside0 (((w50.setCell ⟨gb303,0,none⟩ (.int .i64 ((rd_T29 l3 x12_1).f0))).setCell ⟨gb303,1,none⟩ (.slice A302_1 ((rd_T29 l3 x12_1).f1).length c302_1)).heap[gb303]? = some (.cells #[.int .i64 ((rd_T29 l3 x12_1).f0),.slice A302_1 ((rd_T29 l3 x12_1).f1).length c302_1] 29 (0,0))):=⟨by (with_reducible repeat (first|refine blk_drewN ?_ _|refine blk_drew ?_|refine blk_alloc ?_ _));refine blk_put (cs:=#[.int .i64 ((rd_T29 l3 x12_1).f0),.slice none 0 0]) ?_ 1 _ rfl;(with_reducible repeat (first|refine blk_drewN ?_ _|refine blk_drew ?_|refine blk_alloc ?_ _));refine blk_put (cs:=#[.int .i64 0,.slice none 0 0]) ?_ 0 _ rfl;(with_reducible repeat (first|refine blk_drewN ?_ _|refine blk_drew ?_|refine blk_alloc ?_ _));exact BK303.out⟩
         have n3_:Aside0 (Below w.heap.size w ((w50.setCell ⟨gb303,0,none⟩ (.int .i64 ((rd_T29 l3 x12_1).f0))).setCell ⟨gb303,1,none⟩ (.slice A302_1 ((rd_T29 l3 x12_1).f1).length c302_1))):=⟨by repeat (first|(with_reducible first|exact HB.out|apply below_alloc|apply pw_below_drewN|apply below_drew1|refine below_set ?_ GE303.out)|exact HB.out)⟩
         (try clear HO_10)
         (try clear HO_11)
         (try clear BK303)
         (try clear HB)
         generalize ((w50.setCell ⟨gb303,0,none⟩ (.int .i64 ((rd_T29 l3 x12_1).f0))).setCell ⟨gb303,1,none⟩ (.slice A302_1 ((rd_T29 l3 x12_1).f1).length c302_1)) = w52 at n0_ n1_ n2_ n3_ ⊢
         have HO_10:=n0_
         have HO_11:=n1_
         have BK303:=n2_
         have HB:=n3_
         clear n0_ n1_ n2_ n3_
         have n0_:=Aside0.mk (Kd.R_drew HO_10.out)
         have n1_:=Aside0.mk (Kd.R_drew HO_11.out)
         have n2_:=Aside0.mk (blk_drew BK303.out)
         have n3_:=Aside0.mk (below_drew1 HB.out)
         clear HO_10
         clear HO_11
         clear BK303
         clear HB
         have HO_10:=n0_
         have HO_11:=n1_
         have BK303:=n2_
         have HB:=n3_
         clear n0_ n1_ n2_ n3_
         refine start_ (n:=29) (S:=fun w'=>w'.cell? ⟨gb303,0,none⟩ = some (.int .i64 ((rd_T29 l3 x12_1).f0))∧w'.cell? ⟨gb303,1,none⟩ = some (.slice A302_1 ((rd_T29 l3 x12_1).f1).length c302_1)) (ds:=[]) #[false,false,false,false,false,false,false,false,false,false,false,false,false,false,false,false,false,false,false,false,false,false,false,false,false,false,false,false,false] (by kernel_rfl) rfl rfl ⟨(blk_cell BK303.out 0).trans rfl,(blk_cell BK303.out 1).trans rfl⟩ (fun hHeld=>?_);refine with_tabW garboardref32_Check.tab10 garboardref32_Check.bits10 (fun HT_ HW_=>?_)
         generalize w52.drew = w53 at HO_10 HO_11 BK303 HB hHeld ⊢
         refine pure_ (i:=0) (N:=some 38) (v:=?_) (a':=?_) #[true,false,false,false,false,false,false,false,false,false,false,false,false,false,false,false,false,false,false,false,false,false,false,false,false,false,false,false,false] rfl rfl (any_of HT_.out (by kernel_rfl)) (fun _ _ _ h=>h) (Or.inl ⟨by rfl,?_⟩) ?_ ?_
         rotate_left
         ·intro w'
          go_simp
          with_reducible rfl
         rotate_left
         ·simp only [Act.put,List.setIfInBounds_toArray,List.set_cons_zero,List.set_cons_succ,i64_w,i32_w]
          rfl
         refine pure_ (i:=1) (N:=some 39) (v:=?_) (a':=?_) #[true,true,false,false,false,false,false,false,false,false,false,false,false,false,false,false,false,false,false,false,false,false,false,false,false,false,false,false,false] rfl rfl (any_of HT_.out (by kernel_rfl)) (fun _ _ _ h=>h) (Or.inl ⟨by rfl,?_⟩) ?_ ?_
         rotate_left
         ·intro w'
          go_simp
          with_reducible rfl
         rotate_left
         ·simp only [Act.put,List.setIfInBounds_toArray,List.set_cons_zero,List.set_cons_succ,i64_w,i32_w]
          rfl
         refine pure_ (i:=2) (N:=some 40) (v:=?_) (a':=?_) #[true,true,true,false,false,false,false,false,false,false,false,false,false,false,false,false,false,false,false,false,false,false,false,false,false,false,false,false,false] rfl rfl (any_of HT_.out (by kernel_rfl)) (fun _ _ _ h=>h) (Or.inl ⟨by rfl,?_⟩) ?_ ?_
         rotate_left
         ·intro w'
          go_simp
          with_reducible rfl
         rotate_left
         ·simp only [Act.put,List.setIfInBounds_toArray,List.set_cons_zero,List.set_cons_succ,i64_w,i32_w]
          rfl
         refine pure_ (i:=3) (N:=some 41) (v:=undef) (a':=?_) #[true,true,true,true,false,false,false,false,false,false,false,false,false,false,false,false,false,false,false,false,false,false,false,false,false,false,false,false,false] rfl rfl (any_of HT_.out (by kernel_rfl)) (fun _ _ _ h=>h) (Or.inr ⟨by rfl,rfl⟩) ?_ ?_
         rotate_left
         ·simp only [Act.put,List.setIfInBounds_toArray,List.set_cons_zero,List.set_cons_succ,i64_w,i32_w]
          rfl
         refine pure_ (i:=4) (N:=some 42) (v:=undef) (a':=?_) #[true,true,true,true,true,false,false,false,false,false,false,false,false,false,false,false,false,false,false,false,false,false,false,false,false,false,false,false,false] rfl rfl (any_of HT_.out (by kernel_rfl)) (fun _ _ _ h=>h) (Or.inr ⟨by rfl,rfl⟩) ?_ ?_
         rotate_left
         ·simp only [Act.put,List.setIfInBounds_toArray,List.set_cons_zero,List.set_cons_succ,i64_w,i32_w]
          rfl
         refine pure_ (i:=5) (N:=some 43) (v:=undef) (a':=?_) #[true,true,true,true,true,true,false,false,false,false,false,false,false,false,false,false,false,false,false,false,false,false,false,false,false,false,false,false,false] rfl rfl (any_of HT_.out (by kernel_rfl)) (fun _ _ _ h=>h) (Or.inr ⟨by rfl,rfl⟩) ?_ ?_
         rotate_left
         ·simp only [Act.put,List.setIfInBounds_toArray,List.set_cons_zero,List.set_cons_succ,i64_w,i32_w]
          rfl
         refine pure_ (i:=6) (N:=some 44) (v:=undef) (a':=?_) #[true,true,true,true,true,true,true,false,false,false,false,false,false,false,false,false,false,false,false,false,false,false,false,false,false,false,false,false,false] rfl rfl (any_of HT_.out (by kernel_rfl)) (fun _ _ _ h=>h) (Or.inr ⟨by rfl,rfl⟩) ?_ ?_
         rotate_left
         ·simp only [Act.put,List.setIfInBounds_toArray,List.set_cons_zero,List.set_cons_succ,i64_w,i32_w]
          rfl
         refine pure_ (i:=7) (N:=some 45) (v:=undef) (a':=?_) #[true,true,true,true,true,true,true,true,false,false,false,false,false,false,false,false,false,false,false,false,false,false,false,false,false,false,false,false,false] rfl rfl (any_of HT_.out (by kernel_rfl)) (fun _ _ _ h=>h) (Or.inr ⟨by rfl,rfl⟩) ?_ ?_
         rotate_left
         ·simp only [Act.put,List.setIfInBounds_toArray,List.set_cons_zero,List.set_cons_succ,i64_w,i32_w]
          rfl
         refine pure_ (i:=8) (N:=some 46) (v:=undef) (a':=?_) #[true,true,true,true,true,true,true,true,true,false,false,false,false,false,false,false,false,false,false,false,false,false,false,false,false,false,false,false,false] rfl rfl (any_of HT_.out (by kernel_rfl)) (fun _ _ _ h=>h) (Or.inr ⟨by rfl,rfl⟩) ?_ ?_
         rotate_left
         ·simp only [Act.put,List.setIfInBounds_toArray,List.set_cons_zero,List.set_cons_succ,i64_w,i32_w]
          rfl
         refine pure_ (i:=9) (N:=some 47) (v:=undef) (a':=?_) #[true,true,true,true,true,true,true,true,true,true,false,false,false,false,false,false,false,false,false,false,false,false,false,false,false,false,false,false,false] rfl rfl (any_of HT_.out (by kernel_rfl)) (fun _ _ _ h=>h) (Or.inr ⟨by rfl,rfl⟩) ?_ ?_
         rotate_left
         ·simp only [Act.put,List.setIfInBounds_toArray,List.set_cons_zero,List.set_cons_succ,i64_w,i32_w]
          rfl
         refine pure_ (i:=10) (N:=some 48) (v:=undef) (a':=?_) #[true,true,true,true,true,true,true,true,true,true,true,false,false,false,false,false,false,false,false,false,false,false,false,false,false,false,false,false,false] rfl rfl (any_of HT_.out (by kernel_rfl)) (fun _ _ _ h=>h) (Or.inr ⟨by rfl,rfl⟩) ?_ ?_
         rotate_left
         ·simp only [Act.put,List.setIfInBounds_toArray,List.set_cons_zero,List.set_cons_succ,i64_w,i32_w]
          rfl
         refine pure_ (i:=11) (N:=some 49) (v:=undef) (a':=?_) #[true,true,true,true,true,true,true,true,true,true,true,true,false,false,false,false,false,false,false,false,false,false,false,false,false,false,false,false,false] rfl rfl (any_of HT_.out (by kernel_rfl)) (fun _ _ _ h=>h) (Or.inr ⟨by rfl,rfl⟩) ?_ ?_
         rotate_left
         ·simp only [Act.put,List.setIfInBounds_toArray,List.set_cons_zero,List.set_cons_succ,i64_w,i32_w]
          rfl
         refine pure_ (i:=12) (N:=some 50) (v:=?_) (a':=?_) #[true,true,true,true,true,true,true,true,true,true,true,true,true,false,false,false,false,false,false,false,false,false,false,false,false,false,false,false,false] rfl rfl (any_of HT_.out (by kernel_rfl)) (fun _ _ _ h=>h) (Or.inl ⟨by rfl,?_⟩) ?_ ?_
         rotate_left
         ·intro w'
          go_simp
          with_reducible rfl
         rotate_left
         ·simp only [Act.put,List.setIfInBounds_toArray,List.set_cons_zero,List.set_cons_succ,i64_w,i32_w]
          rfl
         refine pure_ (i:=13) (N:=some 51) (v:=?_) (a':=?_) #[true,true,true,true,true,true,true,true,true,true,true,true,true,true,false,false,false,false,false,false,false,false,false,false,false,false,false,false,false] rfl rfl (any_of HT_.out (by kernel_rfl)) (fun _ _ _ h=>h) (Or.inl ⟨by rfl,?_⟩) ?_ ?_
         rotate_left
         ·intro w'
          go_simp
          with_reducible rfl
         rotate_left
         ·simp only [Act.put,List.setIfInBounds_toArray,List.set_cons_zero,List.set_cons_succ,i64_w,i32_w]
          rfl
         refine pure_ (i:=14) (N:=some 52) (v:=?_) (a':=?_) #[true,true,true,true,true,true,true,true,true,true,true,true,true,true,true,false,false,false,false,false,false,false,false,false,false,false,false,false,false] rfl rfl (any_of HT_.out (by kernel_rfl)) (fun _ _ _ h=>h) (Or.inl ⟨by rfl,?_⟩) ?_ ?_
         rotate_left
         ·intro w'
          go_simp
          with_reducible rfl
         rotate_left
         ·simp only [Act.put,List.setIfInBounds_toArray,List.set_cons_zero,List.set_cons_succ,i64_w,i32_w]
          rfl
         refine pure_ (i:=15) (N:=some 53) (v:=?_) (a':=?_) #[true,true,true,true,true,true,true,true,true,true,true,true,true,true,true,true,false,false,false,false,false,false,false,false,false,false,false,false,false] rfl rfl (any_of HT_.out (by kernel_rfl)) (fun _ _ _ h=>h) (Or.inl ⟨by rfl,?_⟩) ?_ ?_
         rotate_left
         ·intro w'
          go_simp
          with_reducible rfl
         rotate_left
         ·simp only [Act.put,List.setIfInBounds_toArray,List.set_cons_zero,List.set_cons_succ,i64_w,i32_w]
          rfl
         refine take_ (i:=16) (N:=some 54) (v:=?_) (a':=?_) #[true,true,true,true,true,true,true,true,true,true,true,true,true,true,true,true,true,false,false,false,false,false,false,false,false,false,false,false,false] rfl rfl (take_ofW HT_.out HW_.out (by kernel_rfl)) (fun _ _ _ h=>h) (Or.inl ⟨by rfl,?_⟩) hHeld ?_ ?_
         rotate_left
         ·rintro w' ⟨s0,s1⟩
          go_simp
          with_reducible rfl
         rotate_left
         ·simp only [Act.put,List.setIfInBounds_toArray,List.set_cons_zero,List.set_cons_succ,i64_w,i32_w]
          rfl
         refine one_ (i:=17) (N:=some 55) #[true,true,true,true,true,true,true,true,true,true,true,true,true,true,true,true,true,true,false,false,false,false,false,false,false,false,false,false,false] rfl rfl (one_of HT_.out (by kernel_rfl)) (by decide) (fun K hK=>?_)
         refine goes_ Try.func50 (by kernel_rfl) rfl #[.slice A2 l2.length c2,.int .i64 ((rd_T29 l3 x12_1).f0)] (by rfl) rfl rfl (by (try simp only [List.map_toArray,List.map_cons,List.map_nil]);first|done|rfl|(simp only [List.length_drop,List.length_take];rfl)) ?_
         with_reducible refine (garboardref32_Has.calls k1 _ _ l2 ((rd_T29 l3 x12_1).f0) true _ ?side1 ?side2 A48.out).mono ?_
         (case side1=>repeat (first|exact (Kd.C_below HR2.out HB.out)|(with_reducible refine Kd.C_alloc ?_ _)|(with_reducible refine Kd.C_drewN ?_ _)|(with_reducible refine Kd.C_drew ?_)))
         (case side2=>exact HC2.out)
         rintro e w' ⟨rfl,⟨nd,rfl⟩⟩
         refine ⟨_,rfl,?_⟩
         refine hK.out _ _ ⟨(blk_cell BK303.out 0).trans rfl,(blk_cell BK303.out 1).trans rfl⟩ (fun hHeld=>?_)
         clear hK K
         refine norm_ (a':=?_) ?_ ?_
         rotate_left
         ·show Act.put _ (some 55) _ = _
          simp only [Act.put,List.setIfInBounds_toArray,List.set_cons_zero,List.set_cons_succ,i64_w,i32_w]
          rfl
         refine pure_ (i:=18) (N:=some 56) (v:=?_) (a':=?_) #[true,true,true,true,true,true,true,true,true,true,true,true,true,true,true,true,true,true,true,false,false,false,false,false,false,false,false,false,false] rfl rfl (any_of HT_.out (by kernel_rfl)) (fun _ _ _ h=>h) (Or.inl ⟨by rfl,?_⟩) ?_ ?_
         rotate_left
         ·intro w'
          go_simp
          with_reducible rfl
         rotate_left
         ·simp only [Act.put,List.setIfInBounds_toArray,List.set_cons_zero,List.set_cons_succ,i64_w,i32_w]
          rfl
         refine pure_ (i:=19) (N:=some 57) (v:=?_) (a':=?_) #[true,true,true,true,true,true,true,true,true,true,true,true,true,true,true,true,true,true,true,true,false,false,false,false,false,false,false,false,false] rfl rfl (any_of HT_.out (by kernel_rfl)) (fun _ _ _ h=>h) (Or.inl ⟨by rfl,?_⟩) ?_ ?_
         rotate_left
         ·intro w'
          go_simp
          with_reducible rfl
         rotate_left
         ·simp only [Act.put,List.setIfInBounds_toArray,List.set_cons_zero,List.set_cons_succ,i64_w,i32_w]
          rfl
         refine pure_ (i:=20) (N:=some 58) (v:=undef) (a':=?_) #[true,true,true,true,true,true,true,true,true,true,true,true,true,true,true,true,true,true,true,true,true,false,false,false,false,false,false,false,false] rfl rfl (any_of HT_.out (by kernel_rfl)) (fun _ _ _ h=>h) (Or.inr ⟨by rfl,rfl⟩) ?_ ?_
         rotate_left
         ·simp only [Act.put,List.setIfInBounds_toArray,List.set_cons_zero,List.set_cons_succ,i64_w,i32_w]
          rfl
         refine pure_ (i:=21) (N:=some 59) (v:=undef) (a':=?_) #[true,true,true,true,true,true,true,true,true,true,true,true,true,true,true,true,true,true,true,true,true,true,false,false,false,false,false,false,false] rfl rfl (any_of HT_.out (by kernel_rfl)) (fun _ _ _ h=>h) (Or.inr ⟨by rfl,rfl⟩) ?_ ?_
         rotate_left
         ·simp only [Act.put,List.setIfInBounds_toArray,List.set_cons_zero,List.set_cons_succ,i64_w,i32_w]
          rfl
         refine pure_ (i:=22) (N:=some 60) (v:=undef) (a':=?_) #[true,true,true,true,true,true,true,true,true,true,true,true,true,true,true,true,true,true,true,true,true,true,true,false,false,false,false,false,false] rfl rfl (any_of HT_.out (by kernel_rfl)) (fun _ _ _ h=>h) (Or.inr ⟨by rfl,rfl⟩) ?_ ?_
         rotate_left
         ·simp only [Act.put,List.setIfInBounds_toArray,List.set_cons_zero,List.set_cons_succ,i64_w,i32_w]
          rfl
         refine pure_ (i:=23) (N:=some 61) (v:=undef) (a':=?_) #[true,true,true,true,true,true,true,true,true,true,true,true,true,true,true,true,true,true,true,true,true,true,true,true,false,false,false,false,false] rfl rfl (any_of HT_.out (by kernel_rfl)) (fun _ _ _ h=>h) (Or.inr ⟨by rfl,rfl⟩) ?_ ?_
         rotate_left
         ·simp only [Act.put,List.setIfInBounds_toArray,List.set_cons_zero,List.set_cons_succ,i64_w,i32_w]
          rfl
         refine pure_ (i:=24) (N:=some 62) (v:=undef) (a':=?_) #[true,true,true,true,true,true,true,true,true,true,true,true,true,true,true,true,true,true,true,true,true,true,true,true,true,false,false,false,false] rfl rfl (any_of HT_.out (by kernel_rfl)) (fun _ _ _ h=>h) (Or.inr ⟨by rfl,rfl⟩) ?_ ?_
         rotate_left
         ·simp only [Act.put,List.setIfInBounds_toArray,List.set_cons_zero,List.set_cons_succ,i64_w,i32_w]
          rfl
         refine pure_ (i:=25) (N:=some 63) (v:=undef) (a':=?_) #[true,true,true,true,true,true,true,true,true,true,true,true,true,true,true,true,true,true,true,true,true,true,true,true,true,true,false,false,false] rfl rfl (any_of HT_.out (by kernel_rfl)) (fun _ _ _ h=>h) (Or.inr ⟨by rfl,rfl⟩) ?_ ?_
         rotate_left
         ·simp only [Act.put,List.setIfInBounds_toArray,List.set_cons_zero,List.set_cons_succ,i64_w,i32_w]
          rfl
         refine pure_ (i:=26) (N:=some 64) (v:=undef) (a':=?_) #[true,true,true,true,true,true,true,true,true,true,true,true,true,true,true,true,true,true,true,true,true,true,true,true,true,true,true,false,false] rfl rfl (any_of HT_.out (by kernel_rfl)) (fun _ _ _ h=>h) (Or.inr ⟨by rfl,rfl⟩) ?_ ?_
         rotate_left
         ·simp only [Act.put,List.setIfInBounds_toArray,List.set_cons_zero,List.set_cons_succ,i64_w,i32_w]
          rfl
         refine pure_ (i:=27) (N:=some 65) (v:=undef) (a':=?_) #[true,true,true,true,true,true,true,true,true,true,true,true,true,true,true,true,true,true,true,true,true,true,true,true,true,true,true,true,false] rfl rfl (any_of HT_.out (by kernel_rfl)) (fun _ _ _ h=>h) (Or.inr ⟨by rfl,rfl⟩) ?_ ?_
         rotate_left
         ·simp only [Act.put,List.setIfInBounds_toArray,List.set_cons_zero,List.set_cons_succ,i64_w,i32_w]
          rfl
         refine pure_ (i:=28) (N:=some 66) (v:=?_) (a':=?_) #[true,true,true,true,true,true,true,true,true,true,true,true,true,true,true,true,true,true,true,true,true,true,true,true,true,true,true,true,true] rfl rfl (any_of HT_.out (by kernel_rfl)) (fun _ _ _ h=>h) (Or.inl ⟨by rfl,?_⟩) ?_ ?_
         rotate_left
         ·intro w'
          go_simp
          with_reducible rfl
         rotate_left
         ·simp only [Act.put,List.setIfInBounds_toArray,List.set_cons_zero,List.set_cons_succ,i64_w,i32_w]
          rfl
         refine done_ (done_of HT_.out (by kernel_rfl)) ?_
         try go_wp2
         go_ret
         exact ⟨by first|rfl|(simp [errW_none,errW_some]<;>rfl)|(simp [*,errW_none,errW_some]<;>rfl),by repeat (first|(with_reducible first|exact HB.out|apply below_alloc|apply pw_below_drewN|apply below_drew1|refine below_set ?_ GE303.out)|exact HB.out)⟩
        ·replace c49:=Bool.eq_false_iff.mpr c49
         subst c49
         have H1:((garboardref32_leads.f k1 t293 l2 ((rd_T29 l3 x12_1).f1) ((rd_T29 l3 x12_1).f0)).bind fun t311=>(if t311 = true then (if x11_1.length < 17592186044416 then (garboardref32_Check.l0 k1 l2 l3 t293 (x11_1 ++ [(rd_T29 l3 x12_1).f0]) (wrap64 (x12_1 + 1))) else (none)) else (some 14))) = some r:=by rw [if_neg (show ¬ (false = true) by decide)] at H;exact H
         clear H
         have H:=H1
         clear H1
         replace H:=Option.bind_eq_some_iff.mp H
         obtain ⟨t311,A540,H⟩:=H
         replace H:(if t311 = true then (if x11_1.length < 17592186044416 then (garboardref32_Check.l0 k1 l2 l3 t293 (x11_1 ++ [(rd_T29 l3 x12_1).f0]) (wrap64 (x12_1 + 1))) else (none)) else (some 14)) = some r:=H
         have A54:=Aside0.mk A540
         clear A540
         by_cases c55:t311 = true
         ·subst c55
          have H1:(if x11_1.length < 17592186044416 then (garboardref32_Check.l0 k1 l2 l3 t293 (x11_1 ++ [(rd_T29 l3 x12_1).f0]) (wrap64 (x12_1 + 1))) else (none)) = some r:=by rw [if_pos rfl] at H;exact H
          clear H
          have H:=H1
          clear H1
          by_cases c56:x11_1.length < 17592186044416
          ·rw [if_pos c56] at H
           have LMc56:=Aside0.mk c56
           clear c56
           obtain ⟨y312,hy312⟩:∃ y_:List Int,y_ = (x11_1 ++ [(rd_T29 l3 x12_1).f0]):=⟨_,rfl⟩
           replace H:(garboardref32_Check.l0 k1 l2 l3 t293 y312 (wrap64 (x12_1 + 1))) = some r:=by first|(rw [hy312];with_reducible exact H)|(have H2_:=(Option.bind_some _ _).symm.trans H;rw [hy312];with_reducible exact H2_)|(have H2_:=(Option.bind_some _ _).symm.trans H;with_reducible exact H2_)|with_reducible exact H|(rw [hy312];exact H)|exact H
           have Ny312:=Aside0.mk hy312
           clear hy312
           have H':=Aside0.mk H
           clear H
           have p302:0≤(x12_1:Int):=of_decide_eq_true (by first|(with_reducible assumption)|assumption)
           have q302:x12_1 < (l3.length:Int):=of_decide_eq_true (by first|(with_reducible assumption)|assumption)
           obtain ⟨ad302,A302_1,c302_1,e302,hx302_0,hx302_1,hl302_1,hi302_1⟩:=at_T29 HR3.out x12_1 p302 q302
           cases e302
           replace hx302_0:=(HB.out.cell (World.block_lt_of_cell? w _ hx302_0)).trans hx302_0
           replace hx302_1:=(HB.out.cell (World.block_lt_of_cell? w _ hx302_1)).trans hx302_1
           have HR302_1:=Aside0.mk hi302_1
           have HC302_1:=Aside0.mk hl302_1
           clear hi302_1 hl302_1
           replace p302:=eq_true p302
           replace q302:=eq_true q302
           try go_wp2_with (first|((with_reducible refine gate_dst (N:=13) rfl ?_);refine box_event ?hg (N:=13) ?hd (cs:=#[.int .i64 0,.slice none 0 0]) (t:=29) ?hr ?_;(case hd=>rfl);(case hg=>rfl);(case hr=>first|(go_simp;done)|(go_simp;rfl));intro gb303 hg w57 hbox hb;have n0_:=Aside0.mk (Kd.R_below (by (with_reducible repeat (first|apply Kd.R_alloc|apply Kd.R_drewN|apply Kd.R_drew));exact HO_10.out) hb);have n1_:=Aside0.mk (Kd.R_below (by (with_reducible repeat (first|apply Kd.R_alloc|apply Kd.R_drewN|apply Kd.R_drew));exact HO_11.out) hb);have n2_:=Aside0.mk (below_step (by repeat (first|(with_reducible first|exact HB.out|apply below_alloc|apply pw_below_drewN|apply below_drew1)|exact HB.out)) hb);have n3_:=Aside0.mk (hbox);have n4_:=Aside0.mk ((by rw [hg];exact (below_size (by repeat (first|(with_reducible first|exact HB.out|apply below_alloc|apply pw_below_drewN|apply below_drew1)|exact HB.out))):w.heap.size≤gb303));have n5_:=Aside0.mk ((by rw [hg];exact (below_size (by repeat (first|(with_reducible first|exact HB.out|apply below_alloc|apply pw_below_drewN|apply below_drew1)|exact HB.out))):w.heap.size≤gb303));clear HO_10;clear HO_11;clear HB;have HO_10:=n0_;have HO_11:=n1_;have HB:=n2_;have BK303:=n3_;have GW303:=n4_;have GE303:=n5_;clear n0_ n1_ n2_ n3_ n4_ n5_;clear hb hbox hg;have hcz58_0:w57.cell? ⟨gb303,0,none⟩ = some (.int .i64 0):=(blk_cell BK303.out 0).trans rfl;have hcz58_1:w57.cell? ⟨gb303,1,none⟩ = some (.slice none 0 0):=(blk_cell BK303.out 1).trans rfl;have hfz58_0:=blk_frozen BK303.out 0;have hfz58_1:=blk_frozen BK303.out 1))
           have n0_:Aside0 (Kd.R k48 48 ((w57.setCell ⟨gb303,0,none⟩ (.int .i64 ((rd_T29 l3 x12_1).f0))).setCell ⟨gb303,1,none⟩ (.slice A302_1 ((rd_T29 l3 x12_1).f1).length c302_1)) w.heap.size (fun _=>True) v294 t293):=⟨by (with_reducible repeat (first|apply Kd.R_alloc|apply Kd.R_drewN|apply Kd.R_drew));exact Kd.R_mono (Kd.R_far (p:=⟨gb303,1,none⟩) (Kd.R_far (p:=⟨gb303,0,none⟩) (Kd.R_types HO_10.out BK303.out (by decide)) (fun _ hk=>hk.2) (.int .i64 ((rd_T29 l3 x12_1).f0))) (fun _ hk=>hk.2) (.slice A302_1 ((rd_T29 l3 x12_1).f1).length c302_1)) (fun _ hk=>trivial)⟩
           have n1_:Aside0 (Kd.R (Kd.int .i64) 3 ((w57.setCell ⟨gb303,0,none⟩ (.int .i64 ((rd_T29 l3 x12_1).f0))).setCell ⟨gb303,1,none⟩ (.slice A302_1 ((rd_T29 l3 x12_1).f1).length c302_1)) w.heap.size (fun _=>True) u11 x11_1):=⟨by (with_reducible repeat (first|apply Kd.R_alloc|apply Kd.R_drewN|apply Kd.R_drew));exact Kd.R_mono (Kd.R_far (p:=⟨gb303,1,none⟩) (Kd.R_far (p:=⟨gb303,0,none⟩) (Kd.R_types HO_11.out BK303.out (by decide)) (fun _ hk=>hk.2) (.int .i64 ((rd_T29 l3 x12_1).f0))) (fun _ hk=>hk.2) (.slice A302_1 ((rd_T29 l3 x12_1).f1).length c302_1)) (fun _ hk=>trivial)⟩
           have n2_:Aside0 (((w57.setCell ⟨gb303,0,none⟩ (.int .i64 ((rd_T29 l3 x12_1).f0))).setCell ⟨gb303,1,none⟩ (.slice A302_1 ((rd_T29 l3 x12_1).f1).length c302_1)).heap[gb303]? = some (.cells #[.int .i64 ((rd_T29 l3 x12_1).f0),.slice A302_1 ((rd_T29 l3 x12_1).f1).length c302_1] 29 (0,0))):=⟨by (with_reducible repeat (first|refine blk_drewN ?_ _|refine blk_drew ?_|refine blk_alloc ?_ _));refine blk_put (cs:=#[.int .i64 ((rd_T29 l3 x12_1).f0),.slice none 0 0]) ?_ 1 _ rfl;(with_reducible repeat (first|refine blk_drewN ?_ _|refine blk_drew ?_|refine blk_alloc ?_ _));refine blk_put (cs:=#[.int .i64 0,.slice none 0 0]) ?_ 0 _ rfl;(with_reducible repeat (first|refine blk_drewN ?_ _|refine blk_drew ?_|refine blk_alloc ?_ _));exact BK303.out⟩
           have n3_:Aside0 (Below w.heap.size w ((w57.setCell ⟨gb303,0,none⟩ (.int .i64 ((rd_T29 l3 x12_1).f0))).setCell ⟨gb303,1,none⟩ (.slice A302_1 ((rd_T29 l3 x12_1).f1).length c302_1))):=⟨by repeat (first|(with_reducible first|exact HB.out|apply below_alloc|apply pw_below_drewN|apply below_drew1|refine below_set ?_ GE303.out)|exact HB.out)⟩
           (try clear HO_10)
           (try clear HO_11)
           (try clear BK303)
           (try clear HB)
           generalize ((w57.setCell ⟨gb303,0,none⟩ (.int .i64 ((rd_T29 l3 x12_1).f0))).setCell ⟨gb303,1,none⟩ (.slice A302_1 ((rd_T29 l3 x12_1).f1).length c302_1)) = w59 at n0_ n1_ n2_ n3_ ⊢
           have HO_10:=n0_
           have HO_11:=n1_
           have BK303:=n2_
           have HB:=n3_
           clear n0_ n1_ n2_ n3_
           have n0_:=Aside0.mk (Kd.R_drew HO_10.out)
           have n1_:=Aside0.mk (Kd.R_drew HO_11.out)
           have n2_:=Aside0.mk (blk_drew BK303.out)
           have n3_:=Aside0.mk (below_drew1 HB.out)
           clear HO_10
           clear HO_11
           clear BK303
           clear HB
           have HO_10:=n0_
           have HO_11:=n1_
           have BK303:=n2_
           have HB:=n3_
           clear n0_ n1_ n2_ n3_
           refine start_ (n:=29) (S:=fun w'=>w'.cell? ⟨gb303,0,none⟩ = some (.int .i64 ((rd_T29 l3 x12_1).f0))∧w'.cell? ⟨gb303,1,none⟩ = some (.slice A302_1 ((rd_T29 l3 x12_1).f1).length c302_1)) (ds:=[]) #[false,false,false,false,false,false,false,false,false,false,false,false,false,false,false,false,false,false,false,false,false,false,false,false,false,false,false,false,false] (by kernel_rfl) rfl rfl ⟨(blk_cell BK303.out 0).trans rfl,(blk_cell BK303.out 1).trans rfl⟩ (fun hHeld=>?_);refine with_tabW garboardref32_Check.tab10 garboardref32_Check.bits10 (fun HT_ HW_=>?_)
           generalize w59.drew = w60 at HO_10 HO_11 BK303 HB hHeld ⊢
           refine pure_ (i:=0) (N:=some 38) (v:=?_) (a':=?_) #[true,false,false,false,false,false,false,false,false,false,false,false,false,false,false,false,false,false,false,false,false,false,false,false,false,false,false,false,false] rfl rfl (any_of HT_.out (by kernel_rfl)) (fun _ _ _ h=>h) (Or.inl ⟨by rfl,?_⟩) ?_ ?_
           rotate_left
           ·intro w'
            go_simp
            with_reducible rfl
           rotate_left
           ·simp only [Act.put,List.setIfInBounds_toArray,List.set_cons_zero,List.set_cons_succ,i64_w,i32_w]
            rfl
           refine pure_ (i:=1) (N:=some 39) (v:=?_) (a':=?_) #[true,true,false,false,false,false,false,false,false,false,false,false,false,false,false,false,false,false,false,false,false,false,false,false,false,false,false,false,false] rfl rfl (any_of HT_.out (by kernel_rfl)) (fun _ _ _ h=>h) (Or.inl ⟨by rfl,?_⟩) ?_ ?_
           rotate_left
           ·intro w'
            go_simp
            with_reducible rfl
           rotate_left
           ·simp only [Act.put,List.setIfInBounds_toArray,List.set_cons_zero,List.set_cons_succ,i64_w,i32_w]
            rfl
           refine pure_ (i:=2) (N:=some 40) (v:=?_) (a':=?_) #[true,true,true,false,false,false,false,false,false,false,false,false,false,false,false,false,false,false,false,false,false,false,false,false,false,false,false,false,false] rfl rfl (any_of HT_.out (by kernel_rfl)) (fun _ _ _ h=>h) (Or.inl ⟨by rfl,?_⟩) ?_ ?_
           rotate_left
           ·intro w'
            go_simp
            with_reducible rfl
           rotate_left
           ·simp only [Act.put,List.setIfInBounds_toArray,List.set_cons_zero,List.set_cons_succ,i64_w,i32_w]
            rfl
           refine pure_ (i:=3) (N:=some 41) (v:=undef) (a':=?_) #[true,true,true,true,false,false,false,false,false,false,false,false,false,false,false,false,false,false,false,false,false,false,false,false,false,false,false,false,false] rfl rfl (any_of HT_.out (by kernel_rfl)) (fun _ _ _ h=>h) (Or.inr ⟨by rfl,rfl⟩) ?_ ?_
           rotate_left
           ·simp only [Act.put,List.setIfInBounds_toArray,List.set_cons_zero,List.set_cons_succ,i64_w,i32_w]
            rfl
           refine pure_ (i:=4) (N:=some 42) (v:=undef) (a':=?_) #[true,true,true,true,true,false,false,false,false,false,false,false,false,false,false,false,false,false,false,false,false,false,false,false,false,false,false,false,false] rfl rfl (any_of HT_.out (by kernel_rfl)) (fun _ _ _ h=>h) (Or.inr ⟨by rfl,rfl⟩) ?_ ?_
           rotate_left
           ·simp only [Act.put,List.setIfInBounds_toArray,List.set_cons_zero,List.set_cons_succ,i64_w,i32_w]
            rfl
           refine pure_ (i:=5) (N:=some 43) (v:=undef) (a':=?_) #[true,true,true,true,true,true,false,false,false,false,false,false,false,false,false,false,false,false,false,false,false,false,false,false,false,false,false,false,false] rfl rfl (any_of HT_.out (by kernel_rfl)) (fun _ _ _ h=>h) (Or.inr ⟨by rfl,rfl⟩) ?_ ?_
           rotate_left
           ·simp only [Act.put,List.setIfInBounds_toArray,List.set_cons_zero,List.set_cons_succ,i64_w,i32_w]
            rfl
           refine pure_ (i:=6) (N:=some 44) (v:=undef) (a':=?_) #[true,true,true,true,true,true,true,false,false,false,false,false,false,false,false,false,false,false,false,false,false,false,false,false,false,false,false,false,false] rfl rfl (any_of HT_.out (by kernel_rfl)) (fun _ _ _ h=>h) (Or.inr ⟨by rfl,rfl⟩) ?_ ?_
           rotate_left
           ·simp only [Act.put,List.setIfInBounds_toArray,List.set_cons_zero,List.set_cons_succ,i64_w,i32_w]
            rfl
           refine pure_ (i:=7) (N:=some 45) (v:=undef) (a':=?_) #[true,true,true,true,true,true,true,true,false,false,false,false,false,false,false,false,false,false,false,false,false,false,false,false,false,false,false,false,false] rfl rfl (any_of HT_.out (by kernel_rfl)) (fun _ _ _ h=>h) (Or.inr ⟨by rfl,rfl⟩) ?_ ?_
           rotate_left
           ·simp only [Act.put,List.setIfInBounds_toArray,List.set_cons_zero,List.set_cons_succ,i64_w,i32_w]
            rfl
           refine pure_ (i:=8) (N:=some 46) (v:=undef) (a':=?_) #[true,true,true,true,true,true,true,true,true,false,false,false,false,false,false,false,false,false,false,false,false,false,false,false,false,false,false,false,false] rfl rfl (any_of HT_.out (by kernel_rfl)) (fun _ _ _ h=>h) (Or.inr ⟨by rfl,rfl⟩) ?_ ?_
           rotate_left
           ·simp only [Act.put,List.setIfInBounds_toArray,List.set_cons_zero,List.set_cons_succ,i64_w,i32_w]
            rfl
           refine pure_ (i:=9) (N:=some 47) (v:=undef) (a':=?_) #[true,true,true,true,true,true,true,true,true,true,false,false,false,false,false,false,false,false,false,false,false,false,false,false,false,false,false,false,false] rfl rfl (any_of HT_.out (by kernel_rfl)) (fun _ _ _ h=>h) (Or.inr ⟨by rfl,rfl⟩) ?_ ?_
           rotate_left
           ·simp only [Act.put,List.setIfInBounds_toArray,List.set_cons_zero,List.set_cons_succ,i64_w,i32_w]
            rfl
           refine pure_ (i:=10) (N:=some 48) (v:=undef) (a':=?_) #[true,true,true,true,true,true,true,true,true,true,true,false,false,false,false,false,false,false,false,false,false,false,false,false,false,false,false,false,false] rfl rfl (any_of HT_.out (by kernel_rfl)) (fun _ _ _ h=>h) (Or.inr ⟨by rfl,rfl⟩) ?_ ?_
           rotate_left
           ·simp only [Act.put,List.setIfInBounds_toArray,List.set_cons_zero,List.set_cons_succ,i64_w,i32_w]
            rfl
           refine pure_ (i:=11) (N:=some 49) (v:=undef) (a':=?_) #[true,true,true,true,true,true,true,true,true,true,true,true,false,false,false,false,false,false,false,false,false,false,false,false,false,false,false,false,false] rfl rfl (any_of HT_.out (by kernel_rfl)) (fun _ _ _ h=>h) (Or.inr ⟨by rfl,rfl⟩) ?_ ?_
           rotate_left
           ·simp only [Act.put,List.setIfInBounds_toArray,List.set_cons_zero,List.set_cons_succ,i64_w,i32_w]
            rfl
           refine pure_ (i:=12) (N:=some 50) (v:=?_) (a':=?_) #[true,true,true,true,true,true,true,true,true,true,true,true,true,false,false,false,false,false,false,false,false,false,false,false,false,false,false,false,false] rfl rfl (any_of HT_.out (by kernel_rfl)) (fun _ _ _ h=>h) (Or.inl ⟨by rfl,?_⟩) ?_ ?_
           rotate_left
           ·intro w'
            go_simp
            with_reducible rfl
           rotate_left
           ·simp only [Act.put,List.setIfInBounds_toArray,List.set_cons_zero,List.set_cons_succ,i64_w,i32_w]
            rfl
           refine pure_ (i:=13) (N:=some 51) (v:=?_) (a':=?_) #[true,true,true,true,true,true,true,true,true,true,true,true,true,true,false,false,false,false,false,false,false,false,false,false,false,false,false,false,false] rfl rfl (any_of HT_.out (by kernel_rfl)) (fun _ _ _ h=>h) (Or.inl ⟨by rfl,?_⟩) ?_ ?_
           rotate_left
           ·intro w'
            go_simp
            with_reducible rfl
           rotate_left
           ·simp only [Act.put,List.setIfInBounds_toArray,List.set_cons_zero,List.set_cons_succ,i64_w,i32_w]
            rfl
           refine pure_ (i:=14) (N:=some 52) (v:=?_) (a':=?_) #[true,true,true,true,true,true,true,true,true,true,true,true,true,true,true,false,false,false,false,false,false,false,false,false,false,false,false,false,false] rfl rfl (any_of HT_.out (by kernel_rfl)) (fun _ _ _ h=>h) (Or.inl ⟨by rfl,?_⟩) ?_ ?_
           rotate_left
           ·intro w'
            go_simp
            with_reducible rfl
           rotate_left
           ·simp only [Act.put,List.setIfInBounds_toArray,List.set_cons_zero,List.set_cons_succ,i64_w,i32_w]
            rfl
           refine pure_ (i:=15) (N:=some 53) (v:=?_) (a':=?_) #[true,true,true,true,true,true,true,true,true,true,true,true,true,true,true,true,false,false,false,false,false,false,false,false,false,false,false,false,false] rfl rfl (any_of HT_.out (by kernel_rfl)) (fun _ _ _ h=>h) (Or.inl ⟨by rfl,?_⟩) ?_ ?_
           rotate_left
           ·intro w'
            go_simp
            with_reducible rfl
           rotate_left
           ·simp only [Act.put,List.setIfInBounds_toArray,List.set_cons_zero,List.set_cons_succ,i64_w,i32_w]
            rfl
           refine take_ (i:=16) (N:=some 54) (v:=?_) (a':=?_) #[true,true,true,true,true,true,true,true,true,true,true,true,true,true,true,true,true,false,false,false,false,false,false,false,false,false,false,false,false] rfl rfl (take_ofW HT_.out HW_.out (by kernel_rfl)) (fun _ _ _ h=>h) (Or.inl ⟨by rfl,?_⟩) hHeld ?_ ?_
           rotate_left
           ·rintro w' ⟨s0,s1⟩
            go_simp
            with_reducible rfl
           rotate_left
           ·simp only [Act.put,List.setIfInBounds_toArray,List.set_cons_zero,List.set_cons_succ,i64_w,i32_w]
            rfl
           refine one_ (i:=17) (N:=some 55) #[true,true,true,true,true,true,true,true,true,true,true,true,true,true,true,true,true,true,false,false,false,false,false,false,false,false,false,false,false] rfl rfl (one_of HT_.out (by kernel_rfl)) (by decide) (fun K hK=>?_)
           refine goes_ Try.func50 (by kernel_rfl) rfl #[.slice A2 l2.length c2,.int .i64 ((rd_T29 l3 x12_1).f0)] (by rfl) rfl rfl (by (try simp only [List.map_toArray,List.map_cons,List.map_nil]);first|done|rfl|(simp only [List.length_drop,List.length_take];rfl)) ?_
           with_reducible refine (garboardref32_Has.calls k1 _ _ l2 ((rd_T29 l3 x12_1).f0) false _ ?side1 ?side2 A48.out).mono ?_
           (case side1=>repeat (first|exact (Kd.C_below HR2.out HB.out)|(with_reducible refine Kd.C_alloc ?_ _)|(with_reducible refine Kd.C_drewN ?_ _)|(with_reducible refine Kd.C_drew ?_)))
           (case side2=>exact HC2.out)
           rintro e w' ⟨rfl,⟨nd,rfl⟩⟩
           refine ⟨_,rfl,?_⟩
           obtain ⟨Ao61,co61,eo61⟩:=Kd.R_slice HO_10.out
           (first|subst eo61|(injection eo61 with f1_ f2_ f3_;have f4_:=f1_.symm;have f5_:=f3_.symm;clear f1_ f2_ f3_;subst f4_;subst f5_))
           refine hK.out _ _ ⟨(blk_cell BK303.out 0).trans rfl,(blk_cell BK303.out 1).trans rfl⟩ (fun hHeld=>?_)
           clear hK K
           refine norm_ (a':=?_) ?_ ?_
           rotate_left
           ·show Act.put _ (some 55) _ = _
            simp only [Act.put,List.setIfInBounds_toArray,List.set_cons_zero,List.set_cons_succ,i64_w,i32_w]
            rfl
           refine pure_ (i:=18) (N:=some 56) (v:=?_) (a':=?_) #[true,true,true,true,true,true,true,true,true,true,true,true,true,true,true,true,true,true,true,false,false,false,false,false,false,false,false,false,false] rfl rfl (any_of HT_.out (by kernel_rfl)) (fun _ _ _ h=>h) (Or.inl ⟨by rfl,?_⟩) ?_ ?_
           rotate_left
           ·intro w'
            go_simp
            with_reducible rfl
           rotate_left
           ·simp only [Act.put,List.setIfInBounds_toArray,List.set_cons_zero,List.set_cons_succ,i64_w,i32_w]
            rfl
           refine pure_ (i:=19) (N:=some 57) (v:=?_) (a':=?_) #[true,true,true,true,true,true,true,true,true,true,true,true,true,true,true,true,true,true,true,true,false,false,false,false,false,false,false,false,false] rfl rfl (any_of HT_.out (by kernel_rfl)) (fun _ _ _ h=>h) (Or.inl ⟨by rfl,?_⟩) ?_ ?_
           rotate_left
           ·intro w'
            go_simp
            with_reducible rfl
           rotate_left
           ·simp only [Act.put,List.setIfInBounds_toArray,List.set_cons_zero,List.set_cons_succ,i64_w,i32_w]
            rfl
           refine pure_ (i:=20) (N:=some 58) (v:=?_) (a':=?_) #[true,true,true,true,true,true,true,true,true,true,true,true,true,true,true,true,true,true,true,true,true,false,false,false,false,false,false,false,false] rfl rfl (any_of HT_.out (by kernel_rfl)) (fun _ _ _ h=>h) (Or.inl ⟨by rfl,?_⟩) ?_ ?_
           rotate_left
           ·intro w'
            go_simp
            with_reducible rfl
           rotate_left
           ·simp only [Act.put,List.setIfInBounds_toArray,List.set_cons_zero,List.set_cons_succ,i64_w,i32_w]
            rfl
           refine pure_ (i:=21) (N:=some 59) (v:=?_) (a':=?_) #[true,true,true,true,true,true,true,true,true,true,true,true,true,true,true,true,true,true,true,true,true,true,false,false,false,false,false,false,false] rfl rfl (any_of HT_.out (by kernel_rfl)) (fun _ _ _ h=>h) (Or.inl ⟨by rfl,?_⟩) ?_ ?_
           rotate_left
           ·intro w'
            go_simp
            with_reducible rfl
           rotate_left
           ·simp only [Act.put,List.setIfInBounds_toArray,List.set_cons_zero,List.set_cons_succ,i64_w,i32_w]
            rfl
           refine pure_ (i:=22) (N:=some 60) (v:=?_) (a':=?_) #[true,true,true,true,true,true,true,true,true,true,true,true,true,true,true,true,true,true,true,true,true,true,true,false,false,false,false,false,false] rfl rfl (any_of HT_.out (by kernel_rfl)) (fun _ _ _ h=>h) (Or.inl ⟨by rfl,?_⟩) ?_ ?_
           rotate_left
           ·intro w'
            go_simp
            with_reducible rfl
           rotate_left
           ·simp only [Act.put,List.setIfInBounds_toArray,List.set_cons_zero,List.set_cons_succ,i64_w,i32_w]
            rfl
           refine pure_ (i:=24) (N:=some 62) (v:=?_) (a':=?_) #[true,true,true,true,true,true,true,true,true,true,true,true,true,true,true,true,true,true,true,true,true,true,true,false,true,false,false,false,false] rfl rfl (any_of HT_.out (by kernel_rfl)) (fun _ _ _ h=>h) (Or.inl ⟨by rfl,?_⟩) ?_ ?_
           rotate_left
           ·intro w'
            go_simp
            with_reducible rfl
           rotate_left
           ·simp only [Act.put,List.setIfInBounds_toArray,List.set_cons_zero,List.set_cons_succ,i64_w,i32_w]
            rfl
           refine take_ (i:=23) (N:=some 61) (v:=?_) (a':=?_) #[true,true,true,true,true,true,true,true,true,true,true,true,true,true,true,true,true,true,true,true,true,true,true,true,true,false,false,false,false] rfl rfl (take_ofW HT_.out HW_.out (by kernel_rfl)) (fun _ _ _ h=>h) (Or.inl ⟨by rfl,?_⟩) hHeld ?_ ?_
           rotate_left
           ·rintro w' ⟨s0,s1⟩
            go_simp
            with_reducible rfl
           rotate_left
           ·simp only [Act.put,List.setIfInBounds_toArray,List.set_cons_zero,List.set_cons_succ,i64_w,i32_w]
            rfl
           refine take_ (i:=25) (N:=some 63) (v:=?_) (a':=?_) #[true,true,true,true,true,true,true,true,true,true,true,true,true,true,true,true,true,true,true,true,true,true,true,true,true,true,false,false,false] rfl rfl (take_ofW HT_.out HW_.out (by kernel_rfl)) (fun _ _ _ h=>h) (Or.inl ⟨by rfl,?_⟩) hHeld ?_ ?_
           rotate_left
           ·rintro w' ⟨s0,s1⟩
            go_simp
            with_reducible rfl
           rotate_left
           ·simp only [Act.put,List.setIfInBounds_toArray,List.set_cons_zero,List.set_cons_succ,i64_w,i32_w]
            rfl
           refine one_ (i:=26) (N:=some 64) #[true,true,true,true,true,true,true,true,true,true,true,true,true,true,true,true,true,true,true,true,true,true,true,true,true,true,true,false,false] rfl rfl (one_of HT_.out (by kernel_rfl)) (by decide) (fun K hK=>?_)
           refine goes_ Try.func51 (by kernel_rfl) rfl #[.slice Ao61 t293.length co61,.slice A2 l2.length c2,.slice A302_1 ((rd_T29 l3 x12_1).f1).length c302_1,.int .i64 ((rd_T29 l3 x12_1).f0)] (by rfl) rfl rfl (by (try simp only [List.map_toArray,List.map_cons,List.map_nil]);first|done|rfl|(simp only [List.length_drop,List.length_take];rfl)) ?_
           with_reducible refine (garboardref32_leads.calls k1 _ _ t293 _ _ l2 _ _ ((rd_T29 l3 x12_1).f1) ((rd_T29 l3 x12_1).f0) true _ ?side1 ?side2 ?side3 ?side4 ?side5 ?side6 A54.out).mono ?_
           (case side1=>repeat (first|exact (Kd.R_reads' HO_10.out).2.2|(with_reducible refine Kd.C_alloc ?_ _)|(with_reducible refine Kd.C_drewN ?_ _)|(with_reducible refine Kd.C_drew ?_)))
           (case side2=>exact (Kd.R_reads' HO_10.out).2.1)
           (case side3=>repeat (first|exact (Kd.C_below HR2.out (by repeat (first|(with_reducible first|exact HB.out|apply below_alloc|apply pw_below_drewN|apply below_drew1|refine below_set ?_ GE303.out)|exact HB.out)))|(with_reducible refine Kd.C_alloc ?_ _)|(with_reducible refine Kd.C_drewN ?_ _)|(with_reducible refine Kd.C_drew ?_)))
           (case side4=>exact HC2.out)
           (case side5=>repeat (first|exact (Kd.C_below HR302_1.out (by repeat (first|(with_reducible first|exact HB.out|apply below_alloc|apply pw_below_drewN|apply below_drew1|refine below_set ?_ GE303.out)|exact HB.out)))|(with_reducible refine Kd.C_alloc ?_ _)|(with_reducible refine Kd.C_drewN ?_ _)|(with_reducible refine Kd.C_drew ?_)))
           (case side6=>exact HC302_1.out)
           rintro e w62 ⟨rfl,hb⟩
           refine ⟨_,rfl,?_⟩
           have n0_:=Aside0.mk (Kd.R_below (by (with_reducible repeat (first|apply Kd.R_alloc|apply Kd.R_drewN|apply Kd.R_drew));exact HO_10.out) hb)
           have n1_:=Aside0.mk (Kd.R_below (by (with_reducible repeat (first|apply Kd.R_alloc|apply Kd.R_drewN|apply Kd.R_drew));exact HO_11.out) hb)
           have n2_:=Aside0.mk (blk_below (g:=gb303) (o:=.cells #[.int .i64 ((rd_T29 l3 x12_1).f0),.slice A302_1 ((rd_T29 l3 x12_1).f1).length c302_1] 29 (0,0)) (by (with_reducible repeat (first|refine blk_drewN ?_ _|refine blk_drew ?_|refine blk_alloc ?_ _));exact BK303.out) hb)
           have n3_:=Aside0.mk (below_step (by repeat (first|(with_reducible first|exact HB.out|apply below_alloc|apply pw_below_drewN|apply below_drew1|refine below_set ?_ GE303.out)|exact HB.out)) hb)
           clear HO_10
           clear HO_11
           clear BK303
           clear HB
           have HO_10:=n0_
           have HO_11:=n1_
           have BK303:=n2_
           have HB:=n3_
           clear n0_ n1_ n2_ n3_
           (try clear hb)
           (try clear hb2)
           (try clear hk)
           (try clear hi)
           refine hK.out _ _ ⟨(blk_cell BK303.out 0).trans rfl,(blk_cell BK303.out 1).trans rfl⟩ (fun hHeld=>?_)
           clear hK K
           refine norm_ (a':=?_) ?_ ?_
           rotate_left
           ·show Act.put _ (some 64) _ = _
            simp only [Act.put,List.setIfInBounds_toArray,List.set_cons_zero,List.set_cons_succ,i64_w,i32_w]
            rfl
           refine pure_ (i:=27) (N:=some 65) (v:=?_) (a':=?_) #[true,true,true,true,true,true,true,true,true,true,true,true,true,true,true,true,true,true,true,true,true,true,true,true,true,true,true,true,false] rfl rfl (any_of HT_.out (by kernel_rfl)) (fun _ _ _ h=>h) (Or.inl ⟨by rfl,?_⟩) ?_ ?_
           rotate_left
           ·intro w'
            go_simp
            with_reducible rfl
           rotate_left
           ·simp only [Act.put,List.setIfInBounds_toArray,List.set_cons_zero,List.set_cons_succ,i64_w,i32_w]
            rfl
           refine pure_ (i:=28) (N:=some 66) (v:=?_) (a':=?_) #[true,true,true,true,true,true,true,true,true,true,true,true,true,true,true,true,true,true,true,true,true,true,true,true,true,true,true,true,true] rfl rfl (any_of HT_.out (by kernel_rfl)) (fun _ _ _ h=>h) (Or.inl ⟨by rfl,?_⟩) ?_ ?_
           rotate_left
           ·intro w'
            go_simp
            with_reducible rfl
           rotate_left
           ·simp only [Act.put,List.setIfInBounds_toArray,List.set_cons_zero,List.set_cons_succ,i64_w,i32_w]
            rfl
           refine done_ (done_of HT_.out (by kernel_rfl)) ?_
           have hcz63_0:w62.cell? ⟨gb303,0,none⟩ = some (.int .i64 ((rd_T29 l3 x12_1).f0)):=(blk_cell BK303.out 0).trans rfl
           have hcz63_1:w62.cell? ⟨gb303,1,none⟩ = some (.slice A302_1 ((rd_T29 l3 x12_1).f1).length c302_1):=(blk_cell BK303.out 1).trans rfl
           have hfz63_0:=blk_frozen BK303.out 0
           have hfz63_1:=blk_frozen BK303.out 1
           try go_wp2_with (first|((with_reducible refine gate_builtin (b:=.append) (xs:=#[.tmp 67,.tmp 70]) rfl ?_);at_builtin;refine Kd.R_append (Kd.int .i64) (w0:=w) w.heap.size rfl (.tmp 67) (.tmp 70) 23 3 (.int .i64 0) 8 rfl Try.underlying23 info3 rfl (by decide) (by omega) u11 x11_1 ((rd_T29 l3 x12_1).f0) [.int .i64 ((rd_T29 l3 x12_1).f0)] (fun _=>True) (fun _=>False) rfl rfl ?aP (fun _ hk=>hk.elim) ?aF ?aO ?aB ?aS ?aL ?_;(case aP=>exact rfl);(case aB=>exact (by repeat (first|(with_reducible first|exact HB.out|apply below_alloc|apply pw_below_drewN|apply below_drew1|refine below_set ?_ GE303.out)|exact HB.out)));(case aF=>exact (fun _ _=>trivial));(case aO=>exact (by (with_reducible repeat (first|apply Kd.R_alloc|apply Kd.R_drewN|apply Kd.R_drew));exact HO_11.out));(case aS=>exact (below_size (by repeat (first|(with_reducible first|exact HB.out|apply below_alloc|apply pw_below_drewN|apply below_drew1|refine below_set ?_ GE303.out)|exact HB.out))));(case aL=>have:=LMc56.out;omega);intro v313 w64 ho hb hg hat;rw [← Ny312.out] at ho;have n0_:=Aside0.mk (Kd.R_over' (by (with_reducible repeat (first|apply Kd.R_alloc|apply Kd.R_drewN|apply Kd.R_drew));exact HO_10.out) (Kd.R_typed (by (with_reducible repeat (first|apply Kd.R_alloc|apply Kd.R_drewN|apply Kd.R_drew));exact HO_11.out)) (by decide) hg);have n1_:=Aside0.mk (blk_grown (g:=gb303) (o:=.cells #[.int .i64 ((rd_T29 l3 x12_1).f0),.slice A302_1 ((rd_T29 l3 x12_1).f1).length c302_1] 29 (0,0)) (by (with_reducible repeat (first|refine blk_drewN ?_ _|refine blk_drew ?_|refine blk_alloc ?_ _));exact BK303.out) hg (Kd.R_ne HO_11.out BK303.out (by decide)));have n2_:=Aside0.mk (hb);have n3_:=Aside0.mk (ho);clear HO_10;clear BK303;clear HB;clear HO_11;have HO_10:=n0_;have BK303:=n1_;have HB:=n2_;have HO314:=n3_;clear n0_ n1_ n2_ n3_;clear ho hb hg hat))
           go_roundg k1
           case measure=>have:=HK1.out;omega
           case rel=>exact ⟨(y312),(wrap64 (x12_1 + 1)),(by first|rfl|(simp;done)|(simp [*];done)),H',⟨by have:=HK1.out;omega⟩,⟨by (with_reducible repeat (first|apply Kd.R_alloc|apply Kd.R_drewN|apply Kd.R_drew));exact HO_10.out⟩,⟨by (with_reducible repeat (first|apply Kd.R_alloc|apply Kd.R_drewN|apply Kd.R_drew));exact HO314.out⟩,⟨by repeat (first|(with_reducible first|exact HB.out|apply below_alloc|apply pw_below_drewN|apply below_drew1|refine below_set ?_ GE303.out)|exact HB.out)⟩⟩
          ·rw [if_neg c56] at H
           exact absurd H (by simp)
         ·replace c55:=Bool.eq_false_iff.mpr c55
          subst c55
          have H1:(some 14) = some r:=by rw [if_neg (show ¬ (false = true) by decide)] at H;exact H
          clear H
          have H:=H1
          clear H1
          obtain rfl:=Option.some.inj H
          have p302:0≤(x12_1:Int):=of_decide_eq_true (by first|(with_reducible assumption)|assumption)
          have q302:x12_1 < (l3.length:Int):=of_decide_eq_true (by first|(with_reducible assumption)|assumption)
          obtain ⟨ad302,A302_1,c302_1,e302,hx302_0,hx302_1,hl302_1,hi302_1⟩:=at_T29 HR3.out x12_1 p302 q302
          cases e302
          replace hx302_0:=(HB.out.cell (World.block_lt_of_cell? w _ hx302_0)).trans hx302_0
          replace hx302_1:=(HB.out.cell (World.block_lt_of_cell? w _ hx302_1)).trans hx302_1
          have HR302_1:=Aside0.mk hi302_1
          have HC302_1:=Aside0.mk hl302_1
          clear hi302_1 hl302_1
          replace p302:=eq_true p302
          replace q302:=eq_true q302
          try go_wp2_with (first|((with_reducible refine gate_dst (N:=13) rfl ?_);refine box_event ?hg (N:=13) ?hd (cs:=#[.int .i64 0,.slice none 0 0]) (t:=29) ?hr ?_;(case hd=>rfl);(case hg=>rfl);(case hr=>first|(go_simp;done)|(go_simp;rfl));intro gb303 hg w65 hbox hb;have n0_:=Aside0.mk (Kd.R_below (by (with_reducible repeat (first|apply Kd.R_alloc|apply Kd.R_drewN|apply Kd.R_drew));exact HO_10.out) hb);have n1_:=Aside0.mk (Kd.R_below (by (with_reducible repeat (first|apply Kd.R_alloc|apply Kd.R_drewN|apply Kd.R_drew));exact HO_11.out) hb);have n2_:=Aside0.mk (below_step (by repeat (first|(with_reducible first|exact HB.out|apply below_alloc|apply pw_below_drewN|apply below_drew1)|exact HB.out)) hb);have n3_:=Aside0.mk (hbox);have n4_:=Aside0.mk ((by rw [hg];exact (below_size (by repeat (first|(with_reducible first|exact HB.out|apply below_alloc|apply pw_below_drewN|apply below_drew1)|exact HB.out))):w.heap.size≤gb303));have n5_:=Aside0.mk ((by rw [hg];exact (below_size (by repeat (first|(with_reducible first|exact HB.out|apply below_alloc|apply pw_below_drewN|apply below_drew1)|exact HB.out))):w.heap.size≤gb303));clear HO_10;clear HO_11;clear HB;have HO_10:=n0_;have HO_11:=n1_;have HB:=n2_;have BK303:=n3_;have GW303:=n4_;have GE303:=n5_;clear n0_ n1_ n2_ n3_ n4_ n5_;clear hb hbox hg;have hcz66_0:w65.cell? ⟨gb303,0,none⟩ = some (.int .i64 0):=(blk_cell BK303.out 0).trans rfl;have hcz66_1:w65.cell? ⟨gb303,1,none⟩ = some (.slice none 0 0):=(blk_cell BK303.out 1).trans rfl;have hfz66_0:=blk_frozen BK303.out 0;have hfz66_1:=blk_frozen BK303.out 1))
          have n0_:Aside0 (Kd.R k48 48 ((w65.setCell ⟨gb303,0,none⟩ (.int .i64 ((rd_T29 l3 x12_1).f0))).setCell ⟨gb303,1,none⟩ (.slice A302_1 ((rd_T29 l3 x12_1).f1).length c302_1)) w.heap.size (fun _=>True) v294 t293):=⟨by (with_reducible repeat (first|apply Kd.R_alloc|apply Kd.R_drewN|apply Kd.R_drew));exact Kd.R_mono (Kd.R_far (p:=⟨gb303,1,none⟩) (Kd.R_far (p:=⟨gb303,0,none⟩) (Kd.R_types HO_10.out BK303.out (by decide)) (fun _ hk=>hk.2) (.int .i64 ((rd_T29 l3 x12_1).f0))) (fun _ hk=>hk.2) (.slice A302_1 ((rd_T29 l3 x12_1).f1).length c302_1)) (fun _ hk=>trivial)⟩
          have n1_:Aside0 (Kd.R (Kd.int .i64) 3 ((w65.setCell ⟨gb303,0,none⟩ (.int .i64 ((rd_T29 l3 x12_1).f0))).setCell ⟨gb303,1,none⟩ (.slice A302_1 ((rd_T29 l3 x12_1).f1).length c302_1)) w.heap.size (fun _=>True) u11 x11_1):=⟨by (with_reducible repeat (first|apply Kd.R_alloc|apply Kd.R_drewN|apply Kd.R_drew));exact Kd.R_mono (Kd.R_far (p:=⟨gb303,1,none⟩) (Kd.R_far (p:=⟨gb303,0,none⟩) (Kd.R_types HO_11.out BK303.out (by decide)) (fun _ hk=>hk.2) (.int .i64 ((rd_T29 l3 x12_1).f0))) (fun _ hk=>hk.2) (.slice A302_1 ((rd_T29 l3 x12_1).f1).length c302_1)) (fun _ hk=>trivial)⟩
          have n2_:Aside0 (((w65.setCell ⟨gb303,0,none⟩ (.int .i64 ((rd_T29 l3 x12_1).f0))).setCell ⟨gb303,1,none⟩ (.slice A302_1 ((rd_T29 l3 x12_1).f1).length c302_1)).heap[gb303]? = some (.cells #[.int .i64 ((rd_T29 l3 x12_1).f0),.slice A302_1 ((rd_T29 l3 x12_1).f1).length c302_1] 29 (0,0))):=⟨by (with_reducible repeat (first|refine blk_drewN ?_ _|refine blk_drew ?_|refine blk_alloc ?_ _));refine blk_put (cs:=#[.int .i64 ((rd_T29 l3 x12_1).f0),.slice none 0 0]) ?_ 1 _ rfl;(with_reducible repeat (first|refine blk_drewN ?_ _|refine blk_drew ?_|refine blk_alloc ?_ _));refine blk_put (cs:=#[.int .i64 0,.slice none 0 0]) ?_ 0 _ rfl;(with_reducible repeat (first|refine blk_drewN ?_ _|refine blk_drew ?_|refine blk_alloc ?_ _));exact BK303.out⟩
          have n3_:Aside0 (Below w.heap.size w ((w65.setCell ⟨gb303,0,none⟩ (.int .i64 ((rd_T29 l3 x12_1).f0))).setCell ⟨gb303,1,none⟩ (.slice A302_1 ((rd_T29 l3 x12_1).f1).length c302_1))):=⟨by repeat (first|(with_reducible first|exact HB.out|apply below_alloc|apply pw_below_drewN|apply below_drew1|refine below_set ?_ GE303.out)|exact HB.out)⟩
          (try clear HO_10)
          (try clear HO_11)
          (try clear BK303)
          (try clear HB)
          generalize ((w65.setCell ⟨gb303,0,none⟩ (.int .i64 ((rd_T29 l3 x12_1).f0))).setCell ⟨gb303,1,none⟩ (.slice A302_1 ((rd_T29 l3 x12_1).f1).length c302_1)) = w67 at n0_ n1_ n2_ n3_ ⊢
          have HO_10:=n0_
          have HO_11:=n1_
          have BK303:=n2_
          have HB:=n3_
          clear n0_ n1_ n2_ n3_
          have n0_:=Aside0.mk (Kd.R_drew HO_10.out)
          have n1_:=Aside0.mk (Kd.R_drew HO_11.out)
          have n2_:=Aside0.mk (blk_drew BK303.out)
          have n3_:=Aside0.mk (below_drew1 HB.out)
          clear HO_10
          clear HO_11
          clear BK303
          clear HB
          have HO_10:=n0_
          have HO_11:=n1_
          have BK303:=n2_
          have HB:=n3_
          clear n0_ n1_ n2_ n3_
          refine start_ (n:=29) (S:=fun w'=>w'.cell? ⟨gb303,0,none⟩ = some (.int .i64 ((rd_T29 l3 x12_1).f0))∧w'.cell? ⟨gb303,1,none⟩ = some (.slice A302_1 ((rd_T29 l3 x12_1).f1).length c302_1)) (ds:=[]) #[false,false,false,false,false,false,false,false,false,false,false,false,false,false,false,false,false,false,false,false,false,false,false,false,false,false,false,false,false] (by kernel_rfl) rfl rfl ⟨(blk_cell BK303.out 0).trans rfl,(blk_cell BK303.out 1).trans rfl⟩ (fun hHeld=>?_);refine with_tabW garboardref32_Check.tab10 garboardref32_Check.bits10 (fun HT_ HW_=>?_)
          generalize w67.drew = w68 at HO_10 HO_11 BK303 HB hHeld ⊢
          refine pure_ (i:=0) (N:=some 38) (v:=?_) (a':=?_) #[true,false,false,false,false,false,false,false,false,false,false,false,false,false,false,false,false,false,false,false,false,false,false,false,false,false,false,false,false] rfl rfl (any_of HT_.out (by kernel_rfl)) (fun _ _ _ h=>h) (Or.inl ⟨by rfl,?_⟩) ?_ ?_
          rotate_left
          ·intro w'
           go_simp
           with_reducible rfl
          rotate_left
          ·simp only [Act.put,List.setIfInBounds_toArray,List.set_cons_zero,List.set_cons_succ,i64_w,i32_w]
           rfl
          refine pure_ (i:=1) (N:=some 39) (v:=?_) (a':=?_) #[true,true,false,false,false,false,false,false,false,false,false,false,false,false,false,false,false,false,false,false,false,false,false,false,false,false,false,false,false] rfl rfl (any_of HT_.out (by kernel_rfl)) (fun _ _ _ h=>h) (Or.inl ⟨by rfl,?_⟩) ?_ ?_
          rotate_left
          ·intro w'
           go_simp
           with_reducible rfl
          rotate_left
          ·simp only [Act.put,List.setIfInBounds_toArray,List.set_cons_zero,List.set_cons_succ,i64_w,i32_w]
           rfl
          refine pure_ (i:=2) (N:=some 40) (v:=?_) (a':=?_) #[true,true,true,false,false,false,false,false,false,false,false,false,false,false,false,false,false,false,false,false,false,false,false,false,false,false,false,false,false] rfl rfl (any_of HT_.out (by kernel_rfl)) (fun _ _ _ h=>h) (Or.inl ⟨by rfl,?_⟩) ?_ ?_
          rotate_left
          ·intro w'
           go_simp
           with_reducible rfl
          rotate_left
          ·simp only [Act.put,List.setIfInBounds_toArray,List.set_cons_zero,List.set_cons_succ,i64_w,i32_w]
           rfl
          refine pure_ (i:=3) (N:=some 41) (v:=undef) (a':=?_) #[true,true,true,true,false,false,false,false,false,false,false,false,false,false,false,false,false,false,false,false,false,false,false,false,false,false,false,false,false] rfl rfl (any_of HT_.out (by kernel_rfl)) (fun _ _ _ h=>h) (Or.inr ⟨by rfl,rfl⟩) ?_ ?_
          rotate_left
          ·simp only [Act.put,List.setIfInBounds_toArray,List.set_cons_zero,List.set_cons_succ,i64_w,i32_w]
           rfl
          refine pure_ (i:=4) (N:=some 42) (v:=undef) (a':=?_) #[true,true,true,true,true,false,false,false,false,false,false,false,false,false,false,false,false,false,false,false,false,false,false,false,false,false,false,false,false] rfl rfl (any_of HT_.out (by kernel_rfl)) (fun _ _ _ h=>h) (Or.inr ⟨by rfl,rfl⟩) ?_ ?_
          rotate_left
          ·simp only [Act.put,List.setIfInBounds_toArray,List.set_cons_zero,List.set_cons_succ,i64_w,i32_w]
           rfl
          refine pure_ (i:=5) (N:=some 43) (v:=undef) (a':=?_) #[true,true,true,true,true,true,false,false,false,false,false,false,false,false,false,false,false,false,false,false,false,false,false,false,false,false,false,false,false] rfl rfl (any_of HT_.out (by kernel_rfl)) (fun _ _ _ h=>h) (Or.inr ⟨by rfl,rfl⟩) ?_ ?_
          rotate_left
          ·simp only [Act.put,List.setIfInBounds_toArray,List.set_cons_zero,List.set_cons_succ,i64_w,i32_w]
           rfl
          refine pure_ (i:=6) (N:=some 44) (v:=undef) (a':=?_) #[true,true,true,true,true,true,true,false,false,false,false,false,false,false,false,false,false,false,false,false,false,false,false,false,false,false,false,false,false] rfl rfl (any_of HT_.out (by kernel_rfl)) (fun _ _ _ h=>h) (Or.inr ⟨by rfl,rfl⟩) ?_ ?_
          rotate_left
          ·simp only [Act.put,List.setIfInBounds_toArray,List.set_cons_zero,List.set_cons_succ,i64_w,i32_w]
           rfl
          refine pure_ (i:=7) (N:=some 45) (v:=undef) (a':=?_) #[true,true,true,true,true,true,true,true,false,false,false,false,false,false,false,false,false,false,false,false,false,false,false,false,false,false,false,false,false] rfl rfl (any_of HT_.out (by kernel_rfl)) (fun _ _ _ h=>h) (Or.inr ⟨by rfl,rfl⟩) ?_ ?_
          rotate_left
          ·simp only [Act.put,List.setIfInBounds_toArray,List.set_cons_zero,List.set_cons_succ,i64_w,i32_w]
           rfl
          refine pure_ (i:=8) (N:=some 46) (v:=undef) (a':=?_) #[true,true,true,true,true,true,true,true,true,false,false,false,false,false,false,false,false,false,false,false,false,false,false,false,false,false,false,false,false] rfl rfl (any_of HT_.out (by kernel_rfl)) (fun _ _ _ h=>h) (Or.inr ⟨by rfl,rfl⟩) ?_ ?_
          rotate_left
          ·simp only [Act.put,List.setIfInBounds_toArray,List.set_cons_zero,List.set_cons_succ,i64_w,i32_w]
           rfl
          refine pure_ (i:=9) (N:=some 47) (v:=undef) (a':=?_) #[true,true,true,true,true,true,true,true,true,true,false,false,false,false,false,false,false,false,false,false,false,false,false,false,false,false,false,false,false] rfl rfl (any_of HT_.out (by kernel_rfl)) (fun _ _ _ h=>h) (Or.inr ⟨by rfl,rfl⟩) ?_ ?_
          rotate_left
          ·simp only [Act.put,List.setIfInBounds_toArray,List.set_cons_zero,List.set_cons_succ,i64_w,i32_w]
           rfl
          refine pure_ (i:=10) (N:=some 48) (v:=undef) (a':=?_) #[true,true,true,true,true,true,true,true,true,true,true,false,false,false,false,false,false,false,false,false,false,false,false,false,false,false,false,false,false] rfl rfl (any_of HT_.out (by kernel_rfl)) (fun _ _ _ h=>h) (Or.inr ⟨by rfl,rfl⟩) ?_ ?_
          rotate_left
          ·simp only [Act.put,List.setIfInBounds_toArray,List.set_cons_zero,List.set_cons_succ,i64_w,i32_w]
           rfl
          refine pure_ (i:=11) (N:=some 49) (v:=undef) (a':=?_) #[true,true,true,true,true,true,true,true,true,true,true,true,false,false,false,false,false,false,false,false,false,false,false,false,false,false,false,false,false] rfl rfl (any_of HT_.out (by kernel_rfl)) (fun _ _ _ h=>h) (Or.inr ⟨by rfl,rfl⟩) ?_ ?_
          rotate_left
          ·simp only [Act.put,List.setIfInBounds_toArray,List.set_cons_zero,List.set_cons_succ,i64_w,i32_w]
           rfl
          refine pure_ (i:=12) (N:=some 50) (v:=?_) (a':=?_) #[true,true,true,true,true,true,true,true,true,true,true,true,true,false,false,false,false,false,false,false,false,false,false,false,false,false,false,false,false] rfl rfl (any_of HT_.out (by kernel_rfl)) (fun _ _ _ h=>h) (Or.inl ⟨by rfl,?_⟩) ?_ ?_
          rotate_left
          ·intro w'
           go_simp
           with_reducible rfl
          rotate_left
          ·simp only [Act.put,List.setIfInBounds_toArray,List.set_cons_zero,List.set_cons_succ,i64_w,i32_w]
           rfl
          refine pure_ (i:=13) (N:=some 51) (v:=?_) (a':=?_) #[true,true,true,true,true,true,true,true,true,true,true,true,true,true,false,false,false,false,false,false,false,false,false,false,false,false,false,false,false] rfl rfl (any_of HT_.out (by kernel_rfl)) (fun _ _ _ h=>h) (Or.inl ⟨by rfl,?_⟩) ?_ ?_
          rotate_left
          ·intro w'
           go_simp
           with_reducible rfl
          rotate_left
          ·simp only [Act.put,List.setIfInBounds_toArray,List.set_cons_zero,List.set_cons_succ,i64_w,i32_w]
           rfl
          refine pure_ (i:=14) (N:=some 52) (v:=?_) (a':=?_) #[true,true,true,true,true,true,true,true,true,true,true,true,true,true,true,false,false,false,false,false,false,false,false,false,false,false,false,false,false] rfl rfl (any_of HT_.out (by kernel_rfl)) (fun _ _ _ h=>h) (Or.inl ⟨by rfl,?_⟩) ?_ ?_
          rotate_left
          ·intro w'
           go_simp
           with_reducible rfl
          rotate_left
          ·simp only [Act.put,List.setIfInBounds_toArray,List.set_cons_zero,List.set_cons_succ,i64_w,i32_w]
           rfl
          refine pure_ (i:=15) (N:=some 53) (v:=?_) (a':=?_) #[true,true,true,true,true,true,true,true,true,true,true,true,true,true,true,true,false,false,false,false,false,false,false,false,false,false,false,false,false] rfl rfl (any_of HT_.out (by kernel_rfl)) (fun _ _ _ h=>h) (Or.inl ⟨by rfl,?_⟩) ?_ ?_
          rotate_left
          ·intro w'
           go_simp
           with_reducible rfl
          rotate_left
          ·simp only [Act.put,List.setIfInBounds_toArray,List.set_cons_zero,List.set_cons_succ,i64_w,i32_w]
           rfl
          refine take_ (i:=16) (N:=some 54) (v:=?_) (a':=?_) #[true,true,true,true,true,true,true,true,true,true,true,true,true,true,true,true,true,false,false,false,false,false,false,false,false,false,false,false,false] rfl rfl (take_ofW HT_.out HW_.out (by kernel_rfl)) (fun _ _ _ h=>h) (Or.inl ⟨by rfl,?_⟩) hHeld ?_ ?_
          rotate_left
          ·rintro w' ⟨s0,s1⟩
           go_simp
           with_reducible rfl
          rotate_left
          ·simp only [Act.put,List.setIfInBounds_toArray,List.set_cons_zero,List.set_cons_succ,i64_w,i32_w]
           rfl
          refine one_ (i:=17) (N:=some 55) #[true,true,true,true,true,true,true,true,true,true,true,true,true,true,true,true,true,true,false,false,false,false,false,false,false,false,false,false,false] rfl rfl (one_of HT_.out (by kernel_rfl)) (by decide) (fun K hK=>?_)
          refine goes_ Try.func50 (by kernel_rfl) rfl #[.slice A2 l2.length c2,.int .i64 ((rd_T29 l3 x12_1).f0)] (by rfl) rfl rfl (by (try simp only [List.map_toArray,List.map_cons,List.map_nil]);first|done|rfl|(simp only [List.length_drop,List.length_take];rfl)) ?_
          with_reducible refine (garboardref32_Has.calls k1 _ _ l2 ((rd_T29 l3 x12_1).f0) false _ ?side1 ?side2 A48.out).mono ?_
          (case side1=>repeat (first|exact (Kd.C_below HR2.out HB.out)|(with_reducible refine Kd.C_alloc ?_ _)|(with_reducible refine Kd.C_drewN ?_ _)|(with_reducible refine Kd.C_drew ?_)))
          (case side2=>exact HC2.out)
          rintro e w' ⟨rfl,⟨nd,rfl⟩⟩
          refine ⟨_,rfl,?_⟩
          obtain ⟨Ao69,co69,eo69⟩:=Kd.R_slice HO_10.out
          (first|subst eo69|(injection eo69 with f1_ f2_ f3_;have f4_:=f1_.symm;have f5_:=f3_.symm;clear f1_ f2_ f3_;subst f4_;subst f5_))
          refine hK.out _ _ ⟨(blk_cell BK303.out 0).trans rfl,(blk_cell BK303.out 1).trans rfl⟩ (fun hHeld=>?_)
          clear hK K
          refine norm_ (a':=?_) ?_ ?_
          rotate_left
          ·show Act.put _ (some 55) _ = _
           simp only [Act.put,List.setIfInBounds_toArray,List.set_cons_zero,List.set_cons_succ,i64_w,i32_w]
           rfl
          refine pure_ (i:=18) (N:=some 56) (v:=?_) (a':=?_) #[true,true,true,true,true,true,true,true,true,true,true,true,true,true,true,true,true,true,true,false,false,false,false,false,false,false,false,false,false] rfl rfl (any_of HT_.out (by kernel_rfl)) (fun _ _ _ h=>h) (Or.inl ⟨by rfl,?_⟩) ?_ ?_
          rotate_left
          ·intro w'
           go_simp
           with_reducible rfl
          rotate_left
          ·simp only [Act.put,List.setIfInBounds_toArray,List.set_cons_zero,List.set_cons_succ,i64_w,i32_w]
           rfl
          refine pure_ (i:=19) (N:=some 57) (v:=?_) (a':=?_) #[true,true,true,true,true,true,true,true,true,true,true,true,true,true,true,true,true,true,true,true,false,false,false,false,false,false,false,false,false] rfl rfl (any_of HT_.out (by kernel_rfl)) (fun _ _ _ h=>h) (Or.inl ⟨by rfl,?_⟩) ?_ ?_
          rotate_left
          ·intro w'
           go_simp
           with_reducible rfl
          rotate_left
          ·simp only [Act.put,List.setIfInBounds_toArray,List.set_cons_zero,List.set_cons_succ,i64_w,i32_w]
           rfl
          refine pure_ (i:=20) (N:=some 58) (v:=?_) (a':=?_) #[true,true,true,true,true,true,true,true,true,true,true,true,true,true,true,true,true,true,true,true,true,false,false,false,false,false,false,false,false] rfl rfl (any_of HT_.out (by kernel_rfl)) (fun _ _ _ h=>h) (Or.inl ⟨by rfl,?_⟩) ?_ ?_
          rotate_left
          ·intro w'
           go_simp
           with_reducible rfl
          rotate_left
          ·simp only [Act.put,List.setIfInBounds_toArray,List.set_cons_zero,List.set_cons_succ,i64_w,i32_w]
           rfl
          refine pure_ (i:=21) (N:=some 59) (v:=?_) (a':=?_) #[true,true,true,true,true,true,true,true,true,true,true,true,true,true,true,true,true,true,true,true,true,true,false,false,false,false,false,false,false] rfl rfl (any_of HT_.out (by kernel_rfl)) (fun _ _ _ h=>h) (Or.inl ⟨by rfl,?_⟩) ?_ ?_
          rotate_left
          ·intro w'
           go_simp
           with_reducible rfl
          rotate_left
          ·simp only [Act.put,List.setIfInBounds_toArray,List.set_cons_zero,List.set_cons_succ,i64_w,i32_w]
           rfl
          refine pure_ (i:=22) (N:=some 60) (v:=?_) (a':=?_) #[true,true,true,true,true,true,true,true,true,true,true,true,true,true,true,true,true,true,true,true,true,true,true,false,false,false,false,false,false] rfl rfl (any_of HT_.out (by kernel_rfl)) (fun _ _ _ h=>h) (Or.inl ⟨by rfl,?_⟩) ?_ ?_
          rotate_left
          ·intro w'
           go_simp
           with_reducible rfl
          rotate_left
          ·simp only [Act.put,List.setIfInBounds_toArray,List.set_cons_zero,List.set_cons_succ,i64_w,i32_w]
           rfl
          refine pure_ (i:=24) (N:=some 62) (v:=?_) (a':=?_) #[true,true,true,true,true,true,true,true,true,true,true,true,true,true,true,true,true,true,true,true,true,true,true,false,true,false,false,false,false] rfl rfl (any_of HT_.out (by kernel_rfl)) (fun _ _ _ h=>h) (Or.inl ⟨by rfl,?_⟩) ?_ ?_
          rotate_left
          ·intro w'
           go_simp
           with_reducible rfl
          rotate_left
          ·simp only [Act.put,List.setIfInBounds_toArray,List.set_cons_zero,List.set_cons_succ,i64_w,i32_w]
           rfl
          refine take_ (i:=23) (N:=some 61) (v:=?_) (a':=?_) #[true,true,true,true,true,true,true,true,true,true,true,true,true,true,true,true,true,true,true,true,true,true,true,true,true,false,false,false,false] rfl rfl (take_ofW HT_.out HW_.out (by kernel_rfl)) (fun _ _ _ h=>h) (Or.inl ⟨by rfl,?_⟩) hHeld ?_ ?_
          rotate_left
          ·rintro w' ⟨s0,s1⟩
           go_simp
           with_reducible rfl
          rotate_left
          ·simp only [Act.put,List.setIfInBounds_toArray,List.set_cons_zero,List.set_cons_succ,i64_w,i32_w]
           rfl
          refine take_ (i:=25) (N:=some 63) (v:=?_) (a':=?_) #[true,true,true,true,true,true,true,true,true,true,true,true,true,true,true,true,true,true,true,true,true,true,true,true,true,true,false,false,false] rfl rfl (take_ofW HT_.out HW_.out (by kernel_rfl)) (fun _ _ _ h=>h) (Or.inl ⟨by rfl,?_⟩) hHeld ?_ ?_
          rotate_left
          ·rintro w' ⟨s0,s1⟩
           go_simp
           with_reducible rfl
          rotate_left
          ·simp only [Act.put,List.setIfInBounds_toArray,List.set_cons_zero,List.set_cons_succ,i64_w,i32_w]
           rfl
          refine one_ (i:=26) (N:=some 64) #[true,true,true,true,true,true,true,true,true,true,true,true,true,true,true,true,true,true,true,true,true,true,true,true,true,true,true,false,false] rfl rfl (one_of HT_.out (by kernel_rfl)) (by decide) (fun K hK=>?_)
          refine goes_ Try.func51 (by kernel_rfl) rfl #[.slice Ao69 t293.length co69,.slice A2 l2.length c2,.slice A302_1 ((rd_T29 l3 x12_1).f1).length c302_1,.int .i64 ((rd_T29 l3 x12_1).f0)] (by rfl) rfl rfl (by (try simp only [List.map_toArray,List.map_cons,List.map_nil]);first|done|rfl|(simp only [List.length_drop,List.length_take];rfl)) ?_
          with_reducible refine (garboardref32_leads.calls k1 _ _ t293 _ _ l2 _ _ ((rd_T29 l3 x12_1).f1) ((rd_T29 l3 x12_1).f0) false _ ?side1 ?side2 ?side3 ?side4 ?side5 ?side6 A54.out).mono ?_
          (case side1=>repeat (first|exact (Kd.R_reads' HO_10.out).2.2|(with_reducible refine Kd.C_alloc ?_ _)|(with_reducible refine Kd.C_drewN ?_ _)|(with_reducible refine Kd.C_drew ?_)))
          (case side2=>exact (Kd.R_reads' HO_10.out).2.1)
          (case side3=>repeat (first|exact (Kd.C_below HR2.out (by repeat (first|(with_reducible first|exact HB.out|apply below_alloc|apply pw_below_drewN|apply below_drew1|refine below_set ?_ GE303.out)|exact HB.out)))|(with_reducible refine Kd.C_alloc ?_ _)|(with_reducible refine Kd.C_drewN ?_ _)|(with_reducible refine Kd.C_drew ?_)))
          (case side4=>exact HC2.out)
          (case side5=>repeat (first|exact (Kd.C_below HR302_1.out (by repeat (first|(with_reducible first|exact HB.out|apply below_alloc|apply pw_below_drewN|apply below_drew1|refine below_set ?_ GE303.out)|exact HB.out)))|(with_reducible refine Kd.C_alloc ?_ _)|(with_reducible refine Kd.C_drewN ?_ _)|(with_reducible refine Kd.C_drew ?_)))
          (case side6=>exact HC302_1.out)
          rintro e w70 ⟨rfl,hb⟩
          refine ⟨_,rfl,?_⟩
          have n0_:=Aside0.mk (Kd.R_below (by (with_reducible repeat (first|apply Kd.R_alloc|apply Kd.R_drewN|apply Kd.R_drew));exact HO_10.out) hb)
          have n1_:=Aside0.mk (Kd.R_below (by (with_reducible repeat (first|apply Kd.R_alloc|apply Kd.R_drewN|apply Kd.R_drew));exact HO_11.out) hb)
          have n2_:=Aside0.mk (blk_below (g:=gb303) (o:=.cells #[.int .i64 ((rd_T29 l3 x12_1).f0),.slice A302_1 ((rd_T29 l3 x12_1).f1).length c302_1] 29 (0,0)) (by (with_reducible repeat (first|refine blk_drewN ?_ _|refine blk_drew ?_|refine blk_alloc ?_ _));exact BK303.out) hb)
          have n3_:=Aside0.mk (below_step (by repeat (first|(with_reducible first|exact HB.out|apply below_alloc|apply pw_below_drewN|apply below_drew1|refine below_set ?_ GE303.out)|exact HB.out)) hb)
          clear HO_10
          clear HO_11
          clear BK303
          clear HB
          have HO_10:=n0_
          have HO_11:=n1_
          have BK303:=n2_
          have HB:=n3_
          clear n0_ n1_ n2_ n3_
          (try clear hb)
          (try clear hb2)
          (try clear hk)
          (try clear hi)
          refine hK.out _ _ ⟨(blk_cell BK303.out 0).trans rfl,(blk_cell BK303.out 1).trans rfl⟩ (fun hHeld=>?_)
          clear hK K
          refine norm_ (a':=?_) ?_ ?_
          rotate_left
          ·show Act.put _ (some 64) _ = _
           simp only [Act.put,List.setIfInBounds_toArray,List.set_cons_zero,List.set_cons_succ,i64_w,i32_w]
           rfl
          refine pure_ (i:=27) (N:=some 65) (v:=?_) (a':=?_) #[true,true,true,true,true,true,true,true,true,true,true,true,true,true,true,true,true,true,true,true,true,true,true,true,true,true,true,true,false] rfl rfl (any_of HT_.out (by kernel_rfl)) (fun _ _ _ h=>h) (Or.inl ⟨by rfl,?_⟩) ?_ ?_
          rotate_left
          ·intro w'
           go_simp
           with_reducible rfl
          rotate_left
          ·simp only [Act.put,List.setIfInBounds_toArray,List.set_cons_zero,List.set_cons_succ,i64_w,i32_w]
           rfl
          refine pure_ (i:=28) (N:=some 66) (v:=?_) (a':=?_) #[true,true,true,true,true,true,true,true,true,true,true,true,true,true,true,true,true,true,true,true,true,true,true,true,true,true,true,true,true] rfl rfl (any_of HT_.out (by kernel_rfl)) (fun _ _ _ h=>h) (Or.inl ⟨by rfl,?_⟩) ?_ ?_
          rotate_left
          ·intro w'
           go_simp
           with_reducible rfl
          rotate_left
          ·simp only [Act.put,List.setIfInBounds_toArray,List.set_cons_zero,List.set_cons_succ,i64_w,i32_w]
           rfl
          refine done_ (done_of HT_.out (by kernel_rfl)) ?_
          try go_wp2
          go_ret
          exact ⟨by first|rfl|(simp [errW_none,errW_some]<;>rfl)|(simp [*,errW_none,errW_some]<;>rfl),by repeat (first|(with_reducible first|exact HB.out|apply below_alloc|apply pw_below_drewN|apply below_drew1|refine below_set ?_ GE303.out)|exact HB.out)⟩
      ·rw [if_neg c15] at H
       exact absurd H (by simp)
     ·rw [if_neg c14] at H
      have c14b0:decide (x12_1 < (l3.length:Int)) = false:=decide_eq_false c14
      clear c14
      have H':=Aside0.mk H
      clear H
      go_wp2
      go_loopg [14] k1 (fun kq v14 w'=>∃ (x14_2:Int),v14 = .int .i64 x14_2∧Aside0 (garboardref32_Check.l1 kq t293 x11_1 x14_2 = some r)∧Aside0 (kq≤k1)∧Aside0 (Kd.R k48 48 w' w.heap.size (fun _=>True) v294 t293)∧Aside0 (Kd.R (Kd.int .i64) 3 w' w.heap.size (fun _=>True) u11 x11_1)∧Aside0 (Below w.heap.size w w'))
      case atStart=>exact ⟨(0),(by first|rfl|(simp;done)|(simp [*];done)),H',⟨Nat.le_refl _⟩,⟨by (with_reducible repeat (first|apply Kd.R_alloc|apply Kd.R_drewN|apply Kd.R_drew));exact HO_10.out⟩,⟨by (with_reducible repeat (first|apply Kd.R_alloc|apply Kd.R_drewN|apply Kd.R_drew));exact HO_11.out⟩,⟨by repeat (first|(with_reducible first|exact HB.out|apply below_alloc|apply pw_below_drewN|apply below_drew1)|exact HB.out)⟩⟩
      case round =>
       clear H'
       try clear c1
       try clear c2
       try clear p2
       try clear c3
       try clear p3
       try clear q3
       try clear hx3
       try clear c5
       try clear p6
       try clear c14
       try clear c14b0
       try clear c15
       try clear c30
       try clear p30
       try clear q30
       try clear hx30
       try clear c50
       try clear c51
       try clear c55
       try clear c56
       try clear p64
       try clear hcz58_0
       try clear hcz58_1
       try clear hcz63_0
       try clear hcz63_1
       try clear hcz66_0
       try clear hcz66_1
       try clear hfz58_0
       try clear hfz58_1
       try clear hfz63_0
       try clear hfz63_1
       try clear hfz66_0
       try clear hfz66_1
       try clear hx302_0
       try clear hx302_1
       try clear p302
       try clear q302
       obtain ⟨x14_2,rfl,HA,HK2,HO_10,HO_11,HB⟩:=hrel
       cases gk with
       | zero=>exact absurd HA.out (by simp [garboardref32_Check.l1])
       | succ k2 =>
        have H:=HA.out
        clear HA
        simp only [garboardref32_Check.l1] at H
        by_cases c71:x14_2 < (t293.length:Int)
        ·rw [if_pos c71] at H
         have c71b0:decide (x14_2 < (t293.length:Int)) = true:=decide_eq_true c71
         clear c71
         by_cases c72:0≤x14_2
         ·rw [if_pos c72] at H
          have c72b0:decide (0≤x14_2) = true:=decide_eq_true c72
          clear c72
          replace H:=Option.bind_eq_some_iff.mp H
          obtain ⟨t316,A730,H⟩:=H
          replace H:((garboardref32_Has.f k2 x11_1 ((rd_T48 t293 x14_2).f2)).bind fun t318=>(if (t316 != t318) = true then (some 14) else (garboardref32_Check.l1 k2 t293 x11_1 (wrap64 (x14_2 + 1))))) = some r:=H
          have A73:=Aside0.mk A730
          clear A730
          replace H:=Option.bind_eq_some_iff.mp H
          obtain ⟨t318,A740,H⟩:=H
          replace H:(if (t316 != t318) = true then (some 14) else (garboardref32_Check.l1 k2 t293 x11_1 (wrap64 (x14_2 + 1)))) = some r:=H
          have A74:=Aside0.mk A740
          clear A740
          by_cases c75:(t316 != t318) = true
          ·rw [if_pos c75] at H
           have c75b0:(t316 != t318) = true:=c75
           (try (have c75b1:decide (t316 = t318) = false:=by simpa using c75))
           (try (have c75b2:(t316 == t318) = false:=by simpa using c75))
           (try (have c75b3:¬ (t316 = t318):=by simpa using c75))
           clear c75
           obtain rfl:=Option.some.inj H
           obtain ⟨Ao76,co76,eo76⟩:=Kd.R_slice HO_10.out
           subst eo76
           try go_wp2
           have n0_:=Aside0.mk (Kd.R_drew HO_10.out)
           have n1_:=Aside0.mk (Kd.R_drew HO_11.out)
           have n2_:=Aside0.mk (below_drew1 HB.out)
           clear HO_10
           clear HO_11
           clear HB
           have HO_10:=n0_
           have HO_11:=n1_
           have HB:=n2_
           clear n0_ n1_ n2_
           have p315:0≤(x14_2:Int):=of_decide_eq_true (by first|(with_reducible assumption)|assumption)
           have q315:x14_2 < (t293.length:Int):=of_decide_eq_true (by first|(with_reducible assumption)|assumption)
           obtain ⟨ad315,e315,hx315_0,hx315_1,hx315_2,hx315_3,hx315_4,hx315_5,hx315_6⟩:=at_T48 (Kd.R_reads' HO_10.out).2.2 x14_2 p315 q315
           cases e315
           replace p315:=eq_true p315
           replace q315:=eq_true q315
           have p317:0≤(x14_2:Int):=of_decide_eq_true (by first|(with_reducible assumption)|assumption)
           have q317:x14_2 < (t293.length:Int):=of_decide_eq_true (by first|(with_reducible assumption)|assumption)
           obtain ⟨ad317,e317,hx317_0,hx317_1,hx317_2,hx317_3,hx317_4,hx317_5,hx317_6⟩:=at_T48 (Kd.R_reads' HO_10.out).2.2 x14_2 p317 q317
           obtain rfl:ad315 = ad317:=(by injection e317)
           replace p317:=eq_true p317
           replace q317:=eq_true q317
           obtain ⟨Ao78,co78,eo78⟩:=Kd.R_slice HO_11.out
           (first|subst eo78|(injection eo78 with f1_ f2_ f3_;have f4_:=f1_.symm;have f5_:=f3_.symm;clear f1_ f2_ f3_;subst f4_;subst f5_))
           refine start_ (n:=15) (S:=fun w'=>w'.cell? (ad315.add ((x14_2).toNat * 7)) = some (.int .i64 ((rd_T48 t293 x14_2).f0))∧w'.cell? ⟨(ad315.add ((x14_2).toNat * 7)).block,(ad315.add ((x14_2).toNat * 7)).off + 1,none⟩ = some (.int .i64 ((rd_T48 t293 x14_2).f1))∧w'.cell? ⟨(ad315.add ((x14_2).toNat * 7)).block,(ad315.add ((x14_2).toNat * 7)).off + 2,none⟩ = some (.int .i64 ((rd_T48 t293 x14_2).f2))∧w'.cell? ⟨(ad315.add ((x14_2).toNat * 7)).block,(ad315.add ((x14_2).toNat * 7)).off + 3,none⟩ = some (.int .i64 ((rd_T48 t293 x14_2).f3))∧w'.cell? ⟨(ad315.add ((x14_2).toNat * 7)).block,(ad315.add ((x14_2).toNat * 7)).off + 4,none⟩ = some (.string ((rd_T48 t293 x14_2).f4.f0))∧w'.cell? ⟨(ad315.add ((x14_2).toNat * 7)).block,(ad315.add ((x14_2).toNat * 7)).off + 5,none⟩ = some (.string ((rd_T48 t293 x14_2).f4.f1))∧w'.cell? ⟨(ad315.add ((x14_2).toNat * 7)).block,(ad315.add ((x14_2).toNat * 7)).off + 6,none⟩ = some (.string ((rd_T48 t293 x14_2).f4.f2))∧w'.cell? (ad315.add ((x14_2).toNat * 7)) = some (.int .i64 ((rd_T48 t293 x14_2).f0))∧w'.cell? ⟨(ad315.add ((x14_2).toNat * 7)).block,(ad315.add ((x14_2).toNat * 7)).off + 1,none⟩ = some (.int .i64 ((rd_T48 t293 x14_2).f1))∧w'.cell? ⟨(ad315.add ((x14_2).toNat * 7)).block,(ad315.add ((x14_2).toNat * 7)).off + 2,none⟩ = some (.int .i64 ((rd_T48 t293 x14_2).f2))∧w'.cell? ⟨(ad315.add ((x14_2).toNat * 7)).block,(ad315.add ((x14_2).toNat * 7)).off + 3,none⟩ = some (.int .i64 ((rd_T48 t293 x14_2).f3))∧w'.cell? ⟨(ad315.add ((x14_2).toNat * 7)).block,(ad315.add ((x14_2).toNat * 7)).off + 4,none⟩ = some (.string ((rd_T48 t293 x14_2).f4.f0))∧w'.cell? ⟨(ad315.add ((x14_2).toNat * 7)).block,(ad315.add ((x14_2).toNat * 7)).off + 5,none⟩ = some (.string ((rd_T48 t293 x14_2).f4.f1))∧w'.cell? ⟨(ad315.add ((x14_2).toNat * 7)).block,(ad315.add ((x14_2).toNat * 7)).off + 6,none⟩ = some (.string ((rd_T48 t293 x14_2).f4.f2))) (ds:=[]) #[false,false,false,false,false,false,false,false,false,false,false,false,false,false,false] (by kernel_rfl) rfl rfl ⟨hx315_0,hx315_1,hx315_2,hx315_3,hx315_4,hx315_5,hx315_6,hx317_0,hx317_1,hx317_2,hx317_3,hx317_4,hx317_5,hx317_6⟩ (fun hHeld=>?_);refine with_tabW garboardref32_Check.tab16 garboardref32_Check.bits16 (fun HT_ HW_=>?_)
           generalize wr.drew = w77 at HO_10 HO_11 HB hx315_0 hx315_1 hx315_2 hx315_3 hx315_4 hx315_5 hx315_6 hx317_0 hx317_1 hx317_2 hx317_3 hx317_4 hx317_5 hx317_6 hHeld ⊢
           refine pure_ (i:=0) (N:=some 78) (v:=?_) (a':=?_) #[true,false,false,false,false,false,false,false,false,false,false,false,false,false,false] rfl rfl (any_of HT_.out (by kernel_rfl)) (fun _ _ _ h=>h) (Or.inl ⟨by rfl,?_⟩) ?_ ?_
           rotate_left
           ·intro w'
            go_simp
            with_reducible rfl
           rotate_left
           ·simp only [Act.put,List.setIfInBounds_toArray,List.set_cons_zero,List.set_cons_succ,i64_w,i32_w]
            rfl
           refine pure_ (i:=1) (N:=some 79) (v:=?_) (a':=?_) #[true,true,false,false,false,false,false,false,false,false,false,false,false,false,false] rfl rfl (any_of HT_.out (by kernel_rfl)) (fun _ _ _ h=>h) (Or.inl ⟨by rfl,?_⟩) ?_ ?_
           rotate_left
           ·intro w'
            go_simp
            with_reducible rfl
           rotate_left
           ·simp only [Act.put,List.setIfInBounds_toArray,List.set_cons_zero,List.set_cons_succ,i64_w,i32_w]
            rfl
           refine pure_ (i:=2) (N:=some 80) (v:=?_) (a':=?_) #[true,true,true,false,false,false,false,false,false,false,false,false,false,false,false] rfl rfl (any_of HT_.out (by kernel_rfl)) (fun _ _ _ h=>h) (Or.inl ⟨by rfl,?_⟩) ?_ ?_
           rotate_left
           ·intro w'
            go_simp
            with_reducible rfl
           rotate_left
           ·simp only [Act.put,List.setIfInBounds_toArray,List.set_cons_zero,List.set_cons_succ,i64_w,i32_w]
            rfl
           refine pure_ (i:=3) (N:=some 81) (v:=?_) (a':=?_) #[true,true,true,true,false,false,false,false,false,false,false,false,false,false,false] rfl rfl (any_of HT_.out (by kernel_rfl)) (fun _ _ _ h=>h) (Or.inl ⟨by rfl,?_⟩) ?_ ?_
           rotate_left
           ·intro w'
            go_simp
            with_reducible rfl
           rotate_left
           ·simp only [Act.put,List.setIfInBounds_toArray,List.set_cons_zero,List.set_cons_succ,i64_w,i32_w]
            rfl
           refine pure_ (i:=4) (N:=some 82) (v:=?_) (a':=?_) #[true,true,true,true,true,false,false,false,false,false,false,false,false,false,false] rfl rfl (any_of HT_.out (by kernel_rfl)) (fun _ _ _ h=>h) (Or.inl ⟨by rfl,?_⟩) ?_ ?_
           rotate_left
           ·intro w'
            go_simp
            with_reducible rfl
           rotate_left
           ·simp only [Act.put,List.setIfInBounds_toArray,List.set_cons_zero,List.set_cons_succ,i64_w,i32_w]
            rfl
           refine pure_ (i:=7) (N:=some 85) (v:=?_) (a':=?_) #[true,true,true,true,true,false,false,true,false,false,false,false,false,false,false] rfl rfl (any_of HT_.out (by kernel_rfl)) (fun _ _ _ h=>h) (Or.inl ⟨by rfl,?_⟩) ?_ ?_
           rotate_left
           ·intro w'
            go_simp
            with_reducible rfl
           rotate_left
           ·simp only [Act.put,List.setIfInBounds_toArray,List.set_cons_zero,List.set_cons_succ,i64_w,i32_w]
            rfl
           refine pure_ (i:=8) (N:=some 86) (v:=?_) (a':=?_) #[true,true,true,true,true,false,false,true,true,false,false,false,false,false,false] rfl rfl (any_of HT_.out (by kernel_rfl)) (fun _ _ _ h=>h) (Or.inl ⟨by rfl,?_⟩) ?_ ?_
           rotate_left
           ·intro w'
            go_simp
            with_reducible rfl
           rotate_left
           ·simp only [Act.put,List.setIfInBounds_toArray,List.set_cons_zero,List.set_cons_succ,i64_w,i32_w]
            rfl
           refine pure_ (i:=9) (N:=some 87) (v:=?_) (a':=?_) #[true,true,true,true,true,false,false,true,true,true,false,false,false,false,false] rfl rfl (any_of HT_.out (by kernel_rfl)) (fun _ _ _ h=>h) (Or.inl ⟨by rfl,?_⟩) ?_ ?_
           rotate_left
           ·intro w'
            go_simp
            with_reducible rfl
           rotate_left
           ·simp only [Act.put,List.setIfInBounds_toArray,List.set_cons_zero,List.set_cons_succ,i64_w,i32_w]
            rfl
           refine pure_ (i:=10) (N:=some 88) (v:=?_) (a':=?_) #[true,true,true,true,true,false,false,true,true,true,true,false,false,false,false] rfl rfl (any_of HT_.out (by kernel_rfl)) (fun _ _ _ h=>h) (Or.inl ⟨by rfl,?_⟩) ?_ ?_
           rotate_left
           ·intro w'
            go_simp
            with_reducible rfl
           rotate_left
           ·simp only [Act.put,List.setIfInBounds_toArray,List.set_cons_zero,List.set_cons_succ,i64_w,i32_w]
            rfl
           refine pure_ (i:=11) (N:=some 89) (v:=?_) (a':=?_) #[true,true,true,true,true,false,false,true,true,true,true,true,false,false,false] rfl rfl (any_of HT_.out (by kernel_rfl)) (fun _ _ _ h=>h) (Or.inl ⟨by rfl,?_⟩) ?_ ?_
           rotate_left
           ·intro w'
            go_simp
            with_reducible rfl
           rotate_left
           ·simp only [Act.put,List.setIfInBounds_toArray,List.set_cons_zero,List.set_cons_succ,i64_w,i32_w]
            rfl
           refine take_ (i:=5) (N:=some 83) (v:=?_) (a':=?_) #[true,true,true,true,true,true,false,true,true,true,true,true,false,false,false] rfl rfl (take_ofW HT_.out HW_.out (by kernel_rfl)) (fun _ _ _ h=>h) (Or.inl ⟨by rfl,?_⟩) hHeld ?_ ?_
           rotate_left
           ·rintro w' ⟨s0,s1,s2,s3,s4,s5,s6,s7,s8,s9,s10,s11,s12,s13⟩
            go_simp
            with_reducible rfl
           rotate_left
           ·simp only [Act.put,List.setIfInBounds_toArray,List.set_cons_zero,List.set_cons_succ,i64_w,i32_w]
            rfl
           refine take_ (i:=12) (N:=some 90) (v:=?_) (a':=?_) #[true,true,true,true,true,true,false,true,true,true,true,true,true,false,false] rfl rfl (take_ofW HT_.out HW_.out (by kernel_rfl)) (fun _ _ _ h=>h) (Or.inl ⟨by rfl,?_⟩) hHeld ?_ ?_
           rotate_left
           ·rintro w' ⟨s0,s1,s2,s3,s4,s5,s6,s7,s8,s9,s10,s11,s12,s13⟩
            go_simp
            with_reducible rfl
           rotate_left
           ·simp only [Act.put,List.setIfInBounds_toArray,List.set_cons_zero,List.set_cons_succ,i64_w,i32_w]
            rfl
           refine one_ (i:=6) (N:=some 84) #[true,true,true,true,true,true,true,true,true,true,true,true,true,false,false] rfl rfl (one_of HT_.out (by kernel_rfl)) (by decide) (fun K hK=>?_)
           refine goes_ Try.func50 (by kernel_rfl) rfl #[.slice Ao78 x11_1.length co78,.int .i64 ((rd_T48 t293 x14_2).f1)] (by rfl) rfl rfl (by (try simp only [List.map_toArray,List.map_cons,List.map_nil]);first|done|rfl|(simp only [List.length_drop,List.length_take];rfl)) ?_
           with_reducible refine (garboardref32_Has.calls k2 _ _ x11_1 ((rd_T48 t293 x14_2).f1) t316 _ ?side1 ?side2 A73.out).mono ?_
           (case side1=>repeat (first|exact (Kd.R_reads' HO_11.out).2.2|(with_reducible refine Kd.C_alloc ?_ _)|(with_reducible refine Kd.C_drewN ?_ _)|(with_reducible refine Kd.C_drew ?_)))
           (case side2=>exact (Kd.R_reads' HO_11.out).2.1)
           rintro e w' ⟨rfl,⟨nd,rfl⟩⟩
           refine ⟨_,rfl,?_⟩
           refine hK.out _ _ ⟨hHeld.1,hHeld.2.1,hHeld.2.2.1,hHeld.2.2.2.1,hHeld.2.2.2.2.1,hHeld.2.2.2.2.2.1,hHeld.2.2.2.2.2.2.1,hHeld.2.2.2.2.2.2.2.1,hHeld.2.2.2.2.2.2.2.2.1,hHeld.2.2.2.2.2.2.2.2.2.1,hHeld.2.2.2.2.2.2.2.2.2.2.1,hHeld.2.2.2.2.2.2.2.2.2.2.2.1,hHeld.2.2.2.2.2.2.2.2.2.2.2.2.1,hHeld.2.2.2.2.2.2.2.2.2.2.2.2.2⟩ (fun hHeld=>?_)
           clear hK K
           refine norm_ (a':=?_) ?_ ?_
           rotate_left
           ·show Act.put _ (some 84) _ = _
            simp only [Act.put,List.setIfInBounds_toArray,List.set_cons_zero,List.set_cons_succ,i64_w,i32_w]
            rfl
           refine one_ (i:=13) (N:=some 91) #[true,true,true,true,true,true,true,true,true,true,true,true,true,true,false] rfl rfl (one_of HT_.out (by kernel_rfl)) (by decide) (fun K hK=>?_)
           refine goes_ Try.func50 (by kernel_rfl) rfl #[.slice Ao78 x11_1.length co78,.int .i64 ((rd_T48 t293 x14_2).f2)] (by rfl) rfl rfl (by (try simp only [List.map_toArray,List.map_cons,List.map_nil]);first|done|rfl|(simp only [List.length_drop,List.length_take];rfl)) ?_
           with_reducible refine (garboardref32_Has.calls k2 _ _ x11_1 ((rd_T48 t293 x14_2).f2) t318 _ ?side1 ?side2 A74.out).mono ?_
           (case side1=>repeat (first|exact (Kd.R_reads' HO_11.out).2.2|(with_reducible refine Kd.C_alloc ?_ _)|(with_reducible refine Kd.C_drewN ?_ _)|(with_reducible refine Kd.C_drew ?_)))
           (case side2=>exact (Kd.R_reads' HO_11.out).2.1)
           rintro e w' ⟨rfl,⟨nd,rfl⟩⟩
           refine ⟨_,rfl,?_⟩
           refine hK.out _ _ ⟨hHeld.1,hHeld.2.1,hHeld.2.2.1,hHeld.2.2.2.1,hHeld.2.2.2.2.1,hHeld.2.2.2.2.2.1,hHeld.2.2.2.2.2.2.1,hHeld.2.2.2.2.2.2.2.1,hHeld.2.2.2.2.2.2.2.2.1,hHeld.2.2.2.2.2.2.2.2.2.1,hHeld.2.2.2.2.2.2.2.2.2.2.1,hHeld.2.2.2.2.2.2.2.2.2.2.2.1,hHeld.2.2.2.2.2.2.2.2.2.2.2.2.1,hHeld.2.2.2.2.2.2.2.2.2.2.2.2.2⟩ (fun hHeld=>?_)
           clear hK K
           refine norm_ (a':=?_) ?_ ?_
           rotate_left
           ·show Act.put _ (some 91) _ = _
            simp only [Act.put,List.setIfInBounds_toArray,List.set_cons_zero,List.set_cons_succ,i64_w,i32_w]
            rfl
           refine pure_ (i:=14) (N:=some 92) (v:=?_) (a':=?_) #[true,true,true,true,true,true,true,true,true,true,true,true,true,true,true] rfl rfl (any_of HT_.out (by kernel_rfl)) (fun _ _ _ h=>h) (Or.inl ⟨by rfl,?_⟩) ?_ ?_
           rotate_left
           ·intro w'
            go_simp
            with_reducible rfl
           rotate_left
           ·simp only [Act.put,List.setIfInBounds_toArray,List.set_cons_zero,List.set_cons_succ,i64_w,i32_w]
            rfl
           refine done_ (done_of HT_.out (by kernel_rfl)) ?_
           try go_wp2
           go_ret
           exact ⟨by first|rfl|(simp [errW_none,errW_some]<;>rfl)|(simp [*,errW_none,errW_some]<;>rfl),by repeat (first|(with_reducible first|exact HB.out|apply below_alloc|apply pw_below_drewN|apply below_drew1)|exact HB.out)⟩
          ·rw [if_neg c75] at H
           have c75b0:(t316 != t318) = false:=by simpa using c75
           (try (have c75b1:decide (t316 = t318) = true:=by simpa using c75))
           (try (have c75b2:(t316 == t318) = true:=by simpa using c75))
           clear c75
           have H':=Aside0.mk H
           clear H
           obtain ⟨Ao79,co79,eo79⟩:=Kd.R_slice HO_10.out
           subst eo79
           try go_wp2
           have n0_:=Aside0.mk (Kd.R_drew HO_10.out)
           have n1_:=Aside0.mk (Kd.R_drew HO_11.out)
           have n2_:=Aside0.mk (below_drew1 HB.out)
           clear HO_10
           clear HO_11
           clear HB
           have HO_10:=n0_
           have HO_11:=n1_
           have HB:=n2_
           clear n0_ n1_ n2_
           have p315:0≤(x14_2:Int):=of_decide_eq_true (by first|(with_reducible assumption)|assumption)
           have q315:x14_2 < (t293.length:Int):=of_decide_eq_true (by first|(with_reducible assumption)|assumption)
           obtain ⟨ad315,e315,hx315_0,hx315_1,hx315_2,hx315_3,hx315_4,hx315_5,hx315_6⟩:=at_T48 (Kd.R_reads' HO_10.out).2.2 x14_2 p315 q315
           cases e315
           replace p315:=eq_true p315
           replace q315:=eq_true q315
           have p317:0≤(x14_2:Int):=of_decide_eq_true (by first|(with_reducible assumption)|assumption)
           have q317:x14_2 < (t293.length:Int):=of_decide_eq_true (by first|(with_reducible assumption)|assumption)
           obtain ⟨ad317,e317,hx317_0,hx317_1,hx317_2,hx317_3,hx317_4,hx317_5,hx317_6⟩:=at_T48 (Kd.R_reads' HO_10.out).2.2 x14_2 p317 q317
           obtain rfl:ad315 = ad317:=(by injection e317)
           replace p317:=eq_true p317
           replace q317:=eq_true q317
           obtain ⟨Ao81,co81,eo81⟩:=Kd.R_slice HO_11.out
           (first|subst eo81|(injection eo81 with f1_ f2_ f3_;have f4_:=f1_.symm;have f5_:=f3_.symm;clear f1_ f2_ f3_;subst f4_;subst f5_))
           refine start_ (n:=15) (S:=fun w'=>w'.cell? (ad315.add ((x14_2).toNat * 7)) = some (.int .i64 ((rd_T48 t293 x14_2).f0))∧w'.cell? ⟨(ad315.add ((x14_2).toNat * 7)).block,(ad315.add ((x14_2).toNat * 7)).off + 1,none⟩ = some (.int .i64 ((rd_T48 t293 x14_2).f1))∧w'.cell? ⟨(ad315.add ((x14_2).toNat * 7)).block,(ad315.add ((x14_2).toNat * 7)).off + 2,none⟩ = some (.int .i64 ((rd_T48 t293 x14_2).f2))∧w'.cell? ⟨(ad315.add ((x14_2).toNat * 7)).block,(ad315.add ((x14_2).toNat * 7)).off + 3,none⟩ = some (.int .i64 ((rd_T48 t293 x14_2).f3))∧w'.cell? ⟨(ad315.add ((x14_2).toNat * 7)).block,(ad315.add ((x14_2).toNat * 7)).off + 4,none⟩ = some (.string ((rd_T48 t293 x14_2).f4.f0))∧w'.cell? ⟨(ad315.add ((x14_2).toNat * 7)).block,(ad315.add ((x14_2).toNat * 7)).off + 5,none⟩ = some (.string ((rd_T48 t293 x14_2).f4.f1))∧w'.cell? ⟨(ad315.add ((x14_2).toNat * 7)).block,(ad315.add ((x14_2).toNat * 7)).off + 6,none⟩ = some (.string ((rd_T48 t293 x14_2).f4.f2))∧w'.cell? (ad315.add ((x14_2).toNat * 7)) = some (.int .i64 ((rd_T48 t293 x14_2).f0))∧w'.cell? ⟨(ad315.add ((x14_2).toNat * 7)).block,(ad315.add ((x14_2).toNat * 7)).off + 1,none⟩ = some (.int .i64 ((rd_T48 t293 x14_2).f1))∧w'.cell? ⟨(ad315.add ((x14_2).toNat * 7)).block,(ad315.add ((x14_2).toNat * 7)).off + 2,none⟩ = some (.int .i64 ((rd_T48 t293 x14_2).f2))∧w'.cell? ⟨(ad315.add ((x14_2).toNat * 7)).block,(ad315.add ((x14_2).toNat * 7)).off + 3,none⟩ = some (.int .i64 ((rd_T48 t293 x14_2).f3))∧w'.cell? ⟨(ad315.add ((x14_2).toNat * 7)).block,(ad315.add ((x14_2).toNat * 7)).off + 4,none⟩ = some (.string ((rd_T48 t293 x14_2).f4.f0))∧w'.cell? ⟨(ad315.add ((x14_2).toNat * 7)).block,(ad315.add ((x14_2).toNat * 7)).off + 5,none⟩ = some (.string ((rd_T48 t293 x14_2).f4.f1))∧w'.cell? ⟨(ad315.add ((x14_2).toNat * 7)).block,(ad315.add ((x14_2).toNat * 7)).off + 6,none⟩ = some (.string ((rd_T48 t293 x14_2).f4.f2))) (ds:=[]) #[false,false,false,false,false,false,false,false,false,false,false,false,false,false,false] (by kernel_rfl) rfl rfl ⟨hx315_0,hx315_1,hx315_2,hx315_3,hx315_4,hx315_5,hx315_6,hx317_0,hx317_1,hx317_2,hx317_3,hx317_4,hx317_5,hx317_6⟩ (fun hHeld=>?_);refine with_tabW garboardref32_Check.tab16 garboardref32_Check.bits16 (fun HT_ HW_=>?_)
           generalize wr.drew = w80 at HO_10 HO_11 HB hx315_0 hx315_1 hx315_2 hx315_3 hx315_4 hx315_5 hx315_6 hx317_0 hx317_1 hx317_2 hx317_3 hx317_4 hx317_5 hx317_6 hHeld ⊢
           refine pure_ (i:=0) (N:=some 78) (v:=?_) (a':=?_) #[true,false,false,false,false,false,false,false,false,false,false,false,false,false,false] rfl rfl (any_of HT_.out (by kernel_rfl)) (fun _ _ _ h=>h) (Or.inl ⟨by rfl,?_⟩) ?_ ?_
           rotate_left
           ·intro w'
            go_simp
            with_reducible rfl
           rotate_left
           ·simp only [Act.put,List.setIfInBounds_toArray,List.set_cons_zero,List.set_cons_succ,i64_w,i32_w]
            rfl
           refine pure_ (i:=1) (N:=some 79) (v:=?_) (a':=?_) #[true,true,false,false,false,false,false,false,false,false,false,false,false,false,false] rfl rfl (any_of HT_.out (by kernel_rfl)) (fun _ _ _ h=>h) (Or.inl ⟨by rfl,?_⟩) ?_ ?_
           rotate_left
           ·intro w'
            go_simp
            with_reducible rfl
           rotate_left
           ·simp only [Act.put,List.setIfInBounds_toArray,List.set_cons_zero,List.set_cons_succ,i64_w,i32_w]
            rfl
           refine pure_ (i:=2) (N:=some 80) (v:=?_) (a':=?_) #[true,true,true,false,false,false,false,false,false,false,false,false,false,false,false] rfl rfl (any_of HT_.out (by kernel_rfl)) (fun _ _ _ h=>h) (Or.inl ⟨by rfl,?_⟩) ?_ ?_
           rotate_left
           ·intro w'
            go_simp
            with_reducible rfl
           rotate_left
           ·simp only [Act.put,List.setIfInBounds_toArray,List.set_cons_zero,List.set_cons_succ,i64_w,i32_w]
            rfl
           refine pure_ (i:=3) (N:=some 81) (v:=?_) (a':=?_) #[true,true,true,true,false,false,false,false,false,false,false,false,false,false,false] rfl rfl (any_of HT_.out (by kernel_rfl)) (fun _ _ _ h=>h) (Or.inl ⟨by rfl,?_⟩) ?_ ?_
           rotate_left
           ·intro w'
            go_simp
            with_reducible rfl
           rotate_left
           ·simp only [Act.put,List.setIfInBounds_toArray,List.set_cons_zero,List.set_cons_succ,i64_w,i32_w]
            rfl
           refine pure_ (i:=4) (N:=some 82) (v:=?_) (a':=?_) #[true,true,true,true,true,false,false,false,false,false,false,false,false,false,false] rfl rfl (any_of HT_.out (by kernel_rfl)) (fun _ _ _ h=>h) (Or.inl ⟨by rfl,?_⟩) ?_ ?_
           rotate_left
           ·intro w'
            go_simp
            with_reducible rfl
           rotate_left
           ·simp only [Act.put,List.setIfInBounds_toArray,List.set_cons_zero,List.set_cons_succ,i64_w,i32_w]
            rfl
           refine pure_ (i:=7) (N:=some 85) (v:=?_) (a':=?_) #[true,true,true,true,true,false,false,true,false,false,false,false,false,false,false] rfl rfl (any_of HT_.out (by kernel_rfl)) (fun _ _ _ h=>h) (Or.inl ⟨by rfl,?_⟩) ?_ ?_
           rotate_left
           ·intro w'
            go_simp
            with_reducible rfl
           rotate_left
           ·simp only [Act.put,List.setIfInBounds_toArray,List.set_cons_zero,List.set_cons_succ,i64_w,i32_w]
            rfl
           refine pure_ (i:=8) (N:=some 86) (v:=?_) (a':=?_) #[true,true,true,true,true,false,false,true,true,false,false,false,false,false,false] rfl rfl (any_of HT_.out (by kernel_rfl)) (fun _ _ _ h=>h) (Or.inl ⟨by rfl,?_⟩) ?_ ?_
           rotate_left
           ·intro w'
            go_simp
            with_reducible rfl
           rotate_left
           ·simp only [Act.put,List.setIfInBounds_toArray,List.set_cons_zero,List.set_cons_succ,i64_w,i32_w]
            rfl
           refine pure_ (i:=9) (N:=some 87) (v:=?_) (a':=?_) #[true,true,true,true,true,false,false,true,true,true,false,false,false,false,false] rfl rfl (any_of HT_.out (by kernel_rfl)) (fun _ _ _ h=>h) (Or.inl ⟨by rfl,?_⟩) ?_ ?_
           rotate_left
           ·intro w'
            go_simp
            with_reducible rfl
           rotate_left
           ·simp only [Act.put,List.setIfInBounds_toArray,List.set_cons_zero,List.set_cons_succ,i64_w,i32_w]
            rfl
           refine pure_ (i:=10) (N:=some 88) (v:=?_) (a':=?_) #[true,true,true,true,true,false,false,true,true,true,true,false,false,false,false] rfl rfl (any_of HT_.out (by kernel_rfl)) (fun _ _ _ h=>h) (Or.inl ⟨by rfl,?_⟩) ?_ ?_
           rotate_left
           ·intro w'
            go_simp
            with_reducible rfl
           rotate_left
           ·simp only [Act.put,List.setIfInBounds_toArray,List.set_cons_zero,List.set_cons_succ,i64_w,i32_w]
            rfl
           refine pure_ (i:=11) (N:=some 89) (v:=?_) (a':=?_) #[true,true,true,true,true,false,false,true,true,true,true,true,false,false,false] rfl rfl (any_of HT_.out (by kernel_rfl)) (fun _ _ _ h=>h) (Or.inl ⟨by rfl,?_⟩) ?_ ?_
           rotate_left
           ·intro w'
            go_simp
            with_reducible rfl
           rotate_left
           ·simp only [Act.put,List.setIfInBounds_toArray,List.set_cons_zero,List.set_cons_succ,i64_w,i32_w]
            rfl
           refine take_ (i:=5) (N:=some 83) (v:=?_) (a':=?_) #[true,true,true,true,true,true,false,true,true,true,true,true,false,false,false] rfl rfl (take_ofW HT_.out HW_.out (by kernel_rfl)) (fun _ _ _ h=>h) (Or.inl ⟨by rfl,?_⟩) hHeld ?_ ?_
           rotate_left
           ·rintro w' ⟨s0,s1,s2,s3,s4,s5,s6,s7,s8,s9,s10,s11,s12,s13⟩
            go_simp
            with_reducible rfl
           rotate_left
           ·simp only [Act.put,List.setIfInBounds_toArray,List.set_cons_zero,List.set_cons_succ,i64_w,i32_w]
            rfl
           refine take_ (i:=12) (N:=some 90) (v:=?_) (a':=?_) #[true,true,true,true,true,true,false,true,true,true,true,true,true,false,false] rfl rfl (take_ofW HT_.out HW_.out (by kernel_rfl)) (fun _ _ _ h=>h) (Or.inl ⟨by rfl,?_⟩) hHeld ?_ ?_
           rotate_left
           ·rintro w' ⟨s0,s1,s2,s3,s4,s5,s6,s7,s8,s9,s10,s11,s12,s13⟩
            go_simp
            with_reducible rfl
           rotate_left
           ·simp only [Act.put,List.setIfInBounds_toArray,List.set_cons_zero,List.set_cons_succ,i64_w,i32_w]
            rfl
           refine one_ (i:=6) (N:=some 84) #[true,true,true,true,true,true,true,true,true,true,true,true,true,false,false] rfl rfl (one_of HT_.out (by kernel_rfl)) (by decide) (fun K hK=>?_)
           refine goes_ Try.func50 (by kernel_rfl) rfl #[.slice Ao81 x11_1.length co81,.int .i64 ((rd_T48 t293 x14_2).f1)] (by rfl) rfl rfl (by (try simp only [List.map_toArray,List.map_cons,List.map_nil]);first|done|rfl|(simp only [List.length_drop,List.length_take];rfl)) ?_
           with_reducible refine (garboardref32_Has.calls k2 _ _ x11_1 ((rd_T48 t293 x14_2).f1) t316 _ ?side1 ?side2 A73.out).mono ?_
           (case side1=>repeat (first|exact (Kd.R_reads' HO_11.out).2.2|(with_reducible refine Kd.C_alloc ?_ _)|(with_reducible refine Kd.C_drewN ?_ _)|(with_reducible refine Kd.C_drew ?_)))
           (case side2=>exact (Kd.R_reads' HO_11.out).2.1)
           rintro e w' ⟨rfl,⟨nd,rfl⟩⟩
           refine ⟨_,rfl,?_⟩
           refine hK.out _ _ ⟨hHeld.1,hHeld.2.1,hHeld.2.2.1,hHeld.2.2.2.1,hHeld.2.2.2.2.1,hHeld.2.2.2.2.2.1,hHeld.2.2.2.2.2.2.1,hHeld.2.2.2.2.2.2.2.1,hHeld.2.2.2.2.2.2.2.2.1,hHeld.2.2.2.2.2.2.2.2.2.1,hHeld.2.2.2.2.2.2.2.2.2.2.1,hHeld.2.2.2.2.2.2.2.2.2.2.2.1,hHeld.2.2.2.2.2.2.2.2.2.2.2.2.1,hHeld.2.2.2.2.2.2.2.2.2.2.2.2.2⟩ (fun hHeld=>?_)
           clear hK K
           refine norm_ (a':=?_) ?_ ?_
           rotate_left
           ·show Act.put _ (some 84) _ = _
            simp only [Act.put,List.setIfInBounds_toArray,List.set_cons_zero,List.set_cons_succ,i64_w,i32_w]
            rfl
           refine one_ (i:=13) (N:=some 91) #[true,true,true,true,true,true,true,true,true,true,true,true,true,true,false] rfl rfl (one_of HT_.out (by kernel_rfl)) (by decide) (fun K hK=>?_)
           refine goes_ Try.func50 (by kernel_rfl) rfl #[.slice Ao81 x11_1.length co81,.int .i64 ((rd_T48 t293 x14_2).f2)] (by rfl) rfl rfl (by (try simp only [List.map_toArray,List.map_cons,List.map_nil]);first|done|rfl|(simp only [List.length_drop,List.length_take];rfl)) ?_
           with_reducible refine (garboardref32_Has.calls k2 _ _ x11_1 ((rd_T48 t293 x14_2).f2) t318 _ ?side1 ?side2 A74.out).mono ?_
           (case side1=>repeat (first|exact (Kd.R_reads' HO_11.out).2.2|(with_reducible refine Kd.C_alloc ?_ _)|(with_reducible refine Kd.C_drewN ?_ _)|(with_reducible refine Kd.C_drew ?_)))
           (case side2=>exact (Kd.R_reads' HO_11.out).2.1)
           rintro e w' ⟨rfl,⟨nd,rfl⟩⟩
           refine ⟨_,rfl,?_⟩
           refine hK.out _ _ ⟨hHeld.1,hHeld.2.1,hHeld.2.2.1,hHeld.2.2.2.1,hHeld.2.2.2.2.1,hHeld.2.2.2.2.2.1,hHeld.2.2.2.2.2.2.1,hHeld.2.2.2.2.2.2.2.1,hHeld.2.2.2.2.2.2.2.2.1,hHeld.2.2.2.2.2.2.2.2.2.1,hHeld.2.2.2.2.2.2.2.2.2.2.1,hHeld.2.2.2.2.2.2.2.2.2.2.2.1,hHeld.2.2.2.2.2.2.2.2.2.2.2.2.1,hHeld.2.2.2.2.2.2.2.2.2.2.2.2.2⟩ (fun hHeld=>?_)
           clear hK K
           refine norm_ (a':=?_) ?_ ?_
           rotate_left
           ·show Act.put _ (some 91) _ = _
            simp only [Act.put,List.setIfInBounds_toArray,List.set_cons_zero,List.set_cons_succ,i64_w,i32_w]
            rfl
           refine pure_ (i:=14) (N:=some 92) (v:=?_) (a':=?_) #[true,true,true,true,true,true,true,true,true,true,true,true,true,true,true] rfl rfl (any_of HT_.out (by kernel_rfl)) (fun _ _ _ h=>h) (Or.inl ⟨by rfl,?_⟩) ?_ ?_
           rotate_left
           ·intro w'
            go_simp
            with_reducible rfl
           rotate_left
           ·simp only [Act.put,List.setIfInBounds_toArray,List.set_cons_zero,List.set_cons_succ,i64_w,i32_w]
            rfl
           refine done_ (done_of HT_.out (by kernel_rfl)) ?_
           try go_wp2
           go_roundg k2
           case measure=>have:=HK1.out;have:=HK2.out;omega
           case rel=>exact ⟨(wrap64 (x14_2 + 1)),(by first|rfl|(simp;done)|(simp [*];done)),H',⟨by have:=HK1.out;have:=HK2.out;omega⟩,⟨by (with_reducible repeat (first|apply Kd.R_alloc|apply Kd.R_drewN|apply Kd.R_drew));exact HO_10.out⟩,⟨by (with_reducible repeat (first|apply Kd.R_alloc|apply Kd.R_drewN|apply Kd.R_drew));exact HO_11.out⟩,⟨by repeat (first|(with_reducible first|exact HB.out|apply below_alloc|apply pw_below_drewN|apply below_drew1)|exact HB.out)⟩⟩
         ·rw [if_neg c72] at H
          exact absurd H (by simp)
        ·rw [if_neg c71] at H
         have c71b0:decide (x14_2 < (t293.length:Int)) = false:=decide_eq_false c71
         clear c71
         obtain rfl:=Option.some.inj H
         obtain ⟨Ao82,co82,eo82⟩:=Kd.R_slice HO_10.out
         subst eo82
         go_wp2
         go_ret
         exact ⟨by first|rfl|(simp [errW_none,errW_some]<;>rfl)|(simp [*,errW_none,errW_some]<;>rfl),by repeat (first|(with_reducible first|exact HB.out|apply below_alloc|apply pw_below_drewN|apply below_drew1)|exact HB.out)⟩
  ·rw [if_neg c8] at H
   exact absurd H (by simp)
 ·rw [if_neg c6] at H
  have c6b0:(t292 == 0) = false:=beq_eq_false_iff_ne.mpr c6
  have c6b1:(t292 != 0) = true:=bne_iff_ne.mpr c6
  obtain rfl:=Option.some.inj H
  go_enter Try.func15,Try.ntmps15
  go_wp2_with (first|((with_reducible refine gate_callee (f:=48) rfl ?_);refine goesL_ (some 18) rfl rfl Try.func48 (by kernel_rfl) rfl #[.slice A0 l0.length c0,.slice A1 l1.length c1,.slice A2 l2.length c2] rfl (by (try simp only [List.map_toArray,List.map_cons,List.map_nil]);first|done|rfl|(simp only [List.length_drop,List.length_take];rfl)) ?_;(with_reducible refine (garboardref32_asks.calls k _ _ l0 _ _ l1 _ _ l2 t292 _ ?side1 ?side2 ?side3 ?side4 ?side5 ?side6 A5.out).mono ?_);(case side1=>repeat (first|exact HR0.out|(with_reducible refine Kd.C_alloc ?_ _)|(with_reducible refine Kd.C_drewN ?_ _)|(with_reducible refine Kd.C_drew ?_)));(case side2=>exact HC0.out);(case side3=>repeat (first|exact HR1.out|(with_reducible refine Kd.C_alloc ?_ _)|(with_reducible refine Kd.C_drewN ?_ _)|(with_reducible refine Kd.C_drew ?_)));(case side4=>exact HC1.out);(case side5=>repeat (first|exact HR2.out|(with_reducible refine Kd.C_alloc ?_ _)|(with_reducible refine Kd.C_drewN ?_ _)|(with_reducible refine Kd.C_drew ?_)));(case side6=>exact HC2.out);rintro e w83 ⟨rfl,hb⟩;refine ⟨_,rfl,?_⟩;have n0_:=Aside0.mk (below_step (by repeat (first|(with_reducible first|exact HB.out|apply below_alloc|apply pw_below_drewN|apply below_drew1)|exact HB.out)) hb);clear HB;have HB:=n0_;clear n0_;(try clear hb);(try clear hb2);(try clear hk);(try clear hi)))
  go_ret
  exact ⟨by first|rfl|(simp [errW_none,errW_some]<;>rfl)|(simp [*,errW_none,errW_some]<;>rfl),by repeat (first|(with_reducible first|exact HB.out|apply below_alloc|apply pw_below_drewN|apply below_drew1)|exact HB.out)⟩
end Go.Proofs.Ytbfmfflhdphohaa.Pr
