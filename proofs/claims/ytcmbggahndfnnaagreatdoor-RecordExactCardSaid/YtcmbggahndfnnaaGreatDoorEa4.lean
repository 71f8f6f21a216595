/- Part 4 of 6: walks and laws of functions that the last part joins. The words of the print (W..) are the kit's, cut down by program to what is used here. -/
import Derived.Great.BuildSlice
import Derived.StillTailTactics
import Derived.Test.YtcmbggahndfnnaaGreatDoorEa3
namespace Go.Proofs.YtcmbggahndfnnaaGreatDoor.Pr
open Go.RowKit Go.Proofs.YtcmbggahndfnnaaGreatDoorW.PrintWords Go.Proofs.YtcmbggahndfnnaaGreatDoorW.PrintLast Go.Proofs.YtcmbggahndfnnaaGreatDoorW.PrintMore
attribute [local go_sem] max2_int min2_int max_two min_two max_three min_three max_four min_four
set_option maxHeartbeats 8000000
set_option maxRecDepth 100000
set_option linter.unusedVariables false
set_option linter.unusedSimpArgs false
mutual
def record_Encode.j0:Nat→Bool→Int→Int→Int→List Int→List ByteArray→List ByteArray→Option (ByteArray × Int)
 | 0,_,_,_,_,_,_,_=>none
 | k + 1,x34,x219000,x219001,x219002,x219003,x219004,x219005=>if x34 = true then (some ((⟨#[]⟩:ByteArray),8)) else (if x219000 < 1 then (record_Encode.j1 k true x219000 x219001 x219002 x219003 x219004 x219005) else (if x219000 > 1073741824 then (record_Encode.j1 k true x219000 x219001 x219002 x219003 x219004 x219005) else (if x219001 < 0 then (record_Encode.j1 k true x219000 x219001 x219002 x219003 x219004 x219005) else (if x219001 > 1073741824 then (record_Encode.j1 k true x219000 x219001 x219002 x219003 x219004 x219005) else (if x219002 < 1 then (record_Encode.j1 k true x219000 x219001 x219002 x219003 x219004 x219005) else (if x219002 > 99 then (record_Encode.j1 k true x219000 x219001 x219002 x219003 x219004 x219005) else ((record_Encode_3.f x219003).bind fun t221=>(record_Encode.j1 k t221 x219000 x219001 x219002 x219003 x219004 x219005))))))))
def record_Encode.j1:Nat→Bool→Int→Int→Int→List Int→List ByteArray→List ByteArray→Option (ByteArray × Int)
 | 0,_,_,_,_,_,_,_=>none
 | k + 1,x67,x219000,x219001,x219002,x219003,x219004,x219005=>if x67 = true then (some ((⟨#[]⟩:ByteArray),2)) else ((record_Encode_4.f k x219004).bind fun t222=>(if t222 = true then (some ((⟨#[]⟩:ByteArray),1)) else ((strings_Builder_Len.f k x219000 x219001 x219002 x219003 x219004 x219005).bind fun t223=>(some (t223,0)))))
end
def record_Encode.f (k:Nat) (a0_0:Int) (a0_1:Int) (a0_2:Int) (l0_3:List Int) (l0_4:List ByteArray) (l0_5:List ByteArray):Option (ByteArray × Int):=if (l0_3.length:Int) > 64 then (record_Encode.j0 k true a0_0 a0_1 a0_2 l0_3 l0_4 l0_5) else (if (l0_4.length:Int) > 64 then (record_Encode.j0 k true a0_0 a0_1 a0_2 l0_3 l0_4 l0_5) else (if (l0_5.length:Int) > 16 then (record_Encode.j0 k true a0_0 a0_1 a0_2 l0_3 l0_4 l0_5) else ((record_Encode_1.f l0_4).bind fun t219=>(if t219 = true then (record_Encode.j0 k true a0_0 a0_1 a0_2 l0_3 l0_4 l0_5) else ((record_Encode_2.f l0_5).bind fun t220=>(record_Encode.j0 k t220 a0_0 a0_1 a0_2 l0_3 l0_4 l0_5))))))
theorem record_Encode.mono_l:∀ k,(∀ y0 y1 y2 y3 y4 y5 y6,LeO (record_Encode.j0 k y0 y1 y2 y3 y4 y5 y6) (record_Encode.j0 (k + 1) y0 y1 y2 y3 y4 y5 y6))∧(∀ y0 y1 y2 y3 y4 y5 y6,LeO (record_Encode.j1 k y0 y1 y2 y3 y4 y5 y6) (record_Encode.j1 (k + 1) y0 y1 y2 y3 y4 y5 y6))
 | 0=>⟨fun _ _ _ _ _ _ _ r h=>by simp [record_Encode.j0] at h,fun _ _ _ _ _ _ _ r h=>by simp [record_Encode.j1] at h⟩
 | k + 1=>by
  obtain ⟨ih0,ih1⟩:=record_Encode.mono_l k
  refine ⟨?_,?_⟩
  ·intro y0 y1 y2 y3 y4 y5 y6
   unfold record_Encode.j0
   repeat' first
   | (with_reducible exact ih0 _ _ _ _ _ _ _)
   | (with_reducible exact ih1 _ _ _ _ _ _ _)
   | (with_reducible exact record_Encode_4.mono _ _)
   | (with_reducible exact strings_Builder_Len.mono _ _ _ _ _ _ _)
   | (with_reducible exact LeO.refl _)
   | (with_reducible exact LeO.none _)
   | (with_reducible refine LeO.ite ?_ ?_)
   | (with_reducible refine LeO.bind ?_ (fun _=>?_))
   | exact ih0 _ _ _ _ _ _ _
   | exact ih1 _ _ _ _ _ _ _
   | exact record_Encode_4.mono _ _
   | exact strings_Builder_Len.mono _ _ _ _ _ _ _
   | exact LeO.none _
   | refine LeO.ite ?_ ?_
   | refine LeO.bind ?_ (fun _=>?_)
  ·intro y0 y1 y2 y3 y4 y5 y6
   unfold record_Encode.j1
   repeat' first
   | (with_reducible exact ih0 _ _ _ _ _ _ _)
   | (with_reducible exact ih1 _ _ _ _ _ _ _)
   | (with_reducible exact record_Encode_4.mono _ _)
   | (with_reducible exact strings_Builder_Len.mono _ _ _ _ _ _ _)
   | (with_reducible exact LeO.refl _)
   | (with_reducible exact LeO.none _)
   | (with_reducible refine LeO.ite ?_ ?_)
   | (with_reducible refine LeO.bind ?_ (fun _=>?_))
   | exact ih0 _ _ _ _ _ _ _
   | exact ih1 _ _ _ _ _ _ _
   | exact record_Encode_4.mono _ _
   | exact strings_Builder_Len.mono _ _ _ _ _ _ _
   | exact LeO.none _
   | refine LeO.ite ?_ ?_
   | refine LeO.bind ?_ (fun _=>?_)
theorem record_Encode.mono:∀ a0 a1 a2 a3 a4 a5 k,LeO (record_Encode.f k a0 a1 a2 a3 a4 a5) (record_Encode.f (k + 1) a0 a1 a2 a3 a4 a5):=by
 intro a0 a1 a2 a3 a4 a5 k
 obtain ⟨ih0,ih1⟩:=record_Encode.mono_l k
 unfold record_Encode.f
 repeat' first
   | (with_reducible exact ih0 _ _ _ _ _ _ _)
   | (with_reducible exact ih1 _ _ _ _ _ _ _)
   | (with_reducible exact record_Encode_4.mono _ _)
   | (with_reducible exact strings_Builder_Len.mono _ _ _ _ _ _ _)
   | (with_reducible exact LeO.refl _)
   | (with_reducible exact LeO.none _)
   | (with_reducible refine LeO.ite ?_ ?_)
   | (with_reducible refine LeO.bind ?_ (fun _=>?_))
   | exact ih0 _ _ _ _ _ _ _
   | exact ih1 _ _ _ _ _ _ _
   | exact record_Encode_4.mono _ _
   | exact strings_Builder_Len.mono _ _ _ _ _ _ _
   | exact LeO.none _
   | refine LeO.ite ?_ ?_
   | refine LeO.bind ?_ (fun _=>?_)
theorem record_Encode.calls (k:Nat) (a0_0:Int) (a0_1:Int) (a0_2:Int) (A0_3:Option Addr) (c0_3:Nat) (l0_3:List Int) (A0_4:Option Addr) (c0_4:Nat) (l0_4:List ByteArray) (A0_5:Option Addr) (c0_5:Nat) (l0_5:List ByteArray) (r1:ByteArray) (r2:Int) (w:World) (hr0_3:Kd.C (Kd.int .i64) w A0_3 l0_3.length l0_3) (hc0_3:l0_3.length≤c0_3) (hr0_4:Kd.C Kd.string w A0_4 l0_4.length l0_4) (hc0_4:l0_4.length≤c0_4) (hr0_5:Kd.C Kd.string w A0_5 l0_5.length l0_5) (hc0_5:l0_5.length≤c0_5) (hL:LaidW w) (h:record_Encode.f k a0_0 a0_1 a0_2 l0_3 l0_4 l0_5 = some (r1,r2)) :
  Calls Tryz.prog 12 #[.agg #[.int .i64 a0_0,.int .i64 a0_1,.int .i64 a0_2,.slice A0_3 l0_3.length c0_3,.slice A0_4 l0_4.length c0_4,.slice A0_5 l0_5.length c0_5]] w fun e w'=>e = .returned (.tuple #[.string r1,.int .i64 r2])∧Below w.heap.size w w':=by
 have hu26:=Tryz.underlying26
 have HR0_3:=Aside0.mk hr0_3
 have HC0_3:=Aside0.mk hc0_3
 clear hr0_3 hc0_3
 have HR0_4:=Aside0.mk hr0_4
 have HC0_4:=Aside0.mk hc0_4
 clear hr0_4 hc0_4
 have HR0_5:=Aside0.mk hr0_5
 have HC0_5:=Aside0.mk hc0_5
 clear hr0_5 hc0_5
 have HB:=Aside0.mk (Below.refl w.heap.size w)
 have HLW:=Aside0.mk hL
 clear hL
 have H:=h;clear h;unfold record_Encode.f at H
 have HC2:=Aside0.mk H
 clear H
 go_enter Tryz.func12,Tryz.ntmps12
 go_upto_region 1 with (first|((with_reducible refine gate_dst (N:=1) rfl ?_);(try (refine gate_guard (by rfl) ?_;dsimp only));refine bv_ #[.int .i64 a0_0,.int .i64 a0_1,.int .i64 a0_2,.slice A0_3 l0_3.length c0_3,.slice A0_4 l0_4.length c0_4,.slice A0_5 l0_5.length c0_5] 26 ?_;clear HB;intro gb218 hg w3 BK218 GE218 hb HB;clear hb hg))
 (try simp only [Act.put,List.setIfInBounds_toArray,List.set_cons_zero,List.set_cons_succ])
 go_cut [34] (fun v34 wc=>∃ (kq:Nat) (x34_1:Bool),v34 = .bool x34_1∧Aside0 (record_Encode.j0 kq x34_1 a0_0 a0_1 a0_2 l0_3 l0_4 l0_5 = some (r1,r2))∧Aside0 (kq≤k)∧Aside0 (wc.heap[gb218]? = some (.cells #[.int .i64 a0_0,.int .i64 a0_1,.int .i64 a0_2,(.slice A0_3 l0_3.length c0_3),(.slice A0_4 l0_4.length c0_4),(.slice A0_5 l0_5.length c0_5)] 26 (0,0)))∧Aside0 (Below w.heap.size w wc))
 case first =>
  have H:=HC2.out
  clear HC2
  by_cases c4:(l0_3.length:Int) > 64
  ·rw [if_pos c4] at H
   have c4b0:decide (64 < (l0_3.length:Int)) = true:=decide_eq_true c4
   have c4b1:decide (64 < l0_3.length) = true:=decide_eq_true (by omega)
   clear c4
   (first|rw [c4b0]|(simp only [i64_w,i32_w];rw [c4b0])|skip)
   have H':=Aside0.mk H
   clear H
   obtain ⟨hcz5_0,hcz5_1,hcz5_2,hcz5_3,hcz5_4,hcz5_5,hfz5_0,hfz5_1,hfz5_2,hfz5_3,hfz5_4,hfz5_5⟩:=c6_ BK218
   go_wp2
   go_meet
   case rel=>exact ⟨_,(true),rg_,H',⟨by first|omega|exact Nat.le_refl _⟩,⟨bk_⟩,⟨bx_⟩⟩
  ·rw [if_neg c4] at H
   have c4b0:decide (64 < (l0_3.length:Int)) = false:=decide_eq_false c4
   have c4b1:decide (64 < l0_3.length) = false:=decide_eq_false (by omega)
   clear c4
   (first|rw [c4b0]|(simp only [i64_w,i32_w];rw [c4b0])|skip)
   by_cases c6:(l0_4.length:Int) > 64
   ·rw [if_pos c6] at H
    have c6b0:decide (64 < (l0_4.length:Int)) = true:=decide_eq_true c6
    have c6b1:decide (64 < l0_4.length) = true:=decide_eq_true (by omega)
    clear c6
    have H':=Aside0.mk H
    clear H
    obtain ⟨hcz7_0,hcz7_1,hcz7_2,hcz7_3,hcz7_4,hcz7_5,hfz7_0,hfz7_1,hfz7_2,hfz7_3,hfz7_4,hfz7_5⟩:=c6_ BK218
    go_wp2
    go_meet
    case rel=>exact ⟨_,(true),rg_,H',⟨by first|omega|exact Nat.le_refl _⟩,⟨bk_⟩,⟨bx_⟩⟩
   ·rw [if_neg c6] at H
    have c6b0:decide (64 < (l0_4.length:Int)) = false:=decide_eq_false c6
    have c6b1:decide (64 < l0_4.length) = false:=decide_eq_false (by omega)
    clear c6
    by_cases c8:(l0_5.length:Int) > 16
    ·rw [if_pos c8] at H
     have c8b0:decide (16 < (l0_5.length:Int)) = true:=decide_eq_true c8
     have c8b1:decide (16 < l0_5.length) = true:=decide_eq_true (by omega)
     clear c8
     have H':=Aside0.mk H
     clear H
     obtain ⟨hcz9_0,hcz9_1,hcz9_2,hcz9_3,hcz9_4,hcz9_5,hfz9_0,hfz9_1,hfz9_2,hfz9_3,hfz9_4,hfz9_5⟩:=c6_ BK218
     go_wp2
     go_meet
     case rel=>exact ⟨_,(true),rg_,H',⟨by first|omega|exact Nat.le_refl _⟩,⟨bk_⟩,⟨bx_⟩⟩
    ·rw [if_neg c8] at H
     have c8b0:decide (16 < (l0_5.length:Int)) = false:=decide_eq_false c8
     have c8b1:decide (16 < l0_5.length) = false:=decide_eq_false (by omega)
     clear c8
     obtain ⟨t219,A10,H⟩:=bn_ H
     by_cases c11:t219 = true
     ·subst c11
      have H1:(record_Encode.j0 k true a0_0 a0_1 a0_2 l0_3 l0_4 l0_5) = some (r1,r2):=by rw [if_pos rfl] at H;exact H
      clear H
      have H:=H1
      clear H1
      have H':=Aside0.mk H
      clear H
      obtain ⟨hcz12_0,hcz12_1,hcz12_2,hcz12_3,hcz12_4,hcz12_5,hfz12_0,hfz12_1,hfz12_2,hfz12_3,hfz12_4,hfz12_5⟩:=c6_ BK218
      go_wp2_with (first|(go_at_call 37;(with_reducible refine (record_Encode_1.calls _ _ l0_4 true _ ?side1 ?side2 A10.out).mono ?_);(case side1=>exact cx_ (Kd.C_below HR0_4.out HB.out));(case side2=>exact HC0_4.out);rintro e w13 ⟨rfl,hb⟩;replace BK218:=bb_ BK218 hb;replace HB:=bs_ hb;(try clear hb)))
      go_meet
      case rel=>exact ⟨_,(true),rg_,H',⟨by first|omega|exact Nat.le_refl _⟩,⟨bk_⟩,⟨bx_⟩⟩
     ·replace c11:=Bool.eq_false_iff.mpr c11
      subst c11
      have H1:((record_Encode_2.f l0_5).bind fun t220=>(record_Encode.j0 k t220 a0_0 a0_1 a0_2 l0_3 l0_4 l0_5)) = some (r1,r2):=by rw [if_neg (show ¬ (false = true) by decide)] at H;exact H
      clear H
      have H:=H1
      clear H1
      obtain ⟨t220,A14,H⟩:=bn_ H
      have H':=Aside0.mk H
      clear H
      obtain ⟨hcz15_0,hcz15_1,hcz15_2,hcz15_3,hcz15_4,hcz15_5,hfz15_0,hfz15_1,hfz15_2,hfz15_3,hfz15_4,hfz15_5⟩:=c6_ BK218
      go_wp2_with (first|(go_at_call 37;(with_reducible refine (record_Encode_1.calls _ _ l0_4 false _ ?side1 ?side2 A10.out).mono ?_);(case side1=>exact cx_ (Kd.C_below HR0_4.out HB.out));(case side2=>exact HC0_4.out);rintro e w16 ⟨rfl,hb⟩;replace BK218:=bb_ BK218 hb;replace HB:=bs_ hb;(try clear hb);obtain ⟨hcz17_0,hcz17_1,hcz17_2,hcz17_3,hcz17_4,hcz17_5,hfz17_0,hfz17_1,hfz17_2,hfz17_3,hfz17_4,hfz17_5⟩:=c6_ BK218)|(go_at_call 39;(with_reducible refine (record_Encode_2.calls _ _ l0_5 t220 _ ?side1 ?side2 A14.out).mono ?_);(case side1=>exact cx_ (Kd.C_below HR0_5.out HB.out));(case side2=>exact HC0_5.out);rintro e w18 ⟨rfl,hb⟩;replace BK218:=bb_ BK218 hb;replace HB:=bs_ hb;(try clear hb)))
      go_meet
      case rel=>exact ⟨_,(t220),rg_,H',⟨by first|omega|exact Nat.le_refl _⟩,⟨bk_⟩,⟨bx_⟩⟩
 case rest =>
  clear HC2
  obtain ⟨kq,x34_1,rfl,HA,HJ1,BK218,HB⟩:=hcut
  cases kq with
  | zero=>exact absurd HA.out (by simp [record_Encode.j0])
  | succ kj1 =>
   have H:=HA.out
   clear HA
   simp only [record_Encode.j0] at H
   by_cases c19:x34_1 = true
   ·subst c19
    have H1:(some ((⟨#[]⟩:ByteArray),8)) = some (r1,r2):=by rw [if_pos rfl] at H;exact H
    clear H
    have H:=H1
    clear H1
    simp only [Option.some.injEq,Prod.mk.injEq] at H
    obtain ⟨rfl,rfl⟩:=H
    go_wp2
    go_ret2
    exact ⟨rf_,bx_⟩
   ·replace c19:=Bool.eq_false_iff.mpr c19
    subst c19
    have H1:(if a0_0 < 1 then (record_Encode.j1 kj1 true a0_0 a0_1 a0_2 l0_3 l0_4 l0_5) else (if a0_0 > 1073741824 then (record_Encode.j1 kj1 true a0_0 a0_1 a0_2 l0_3 l0_4 l0_5) else (if a0_1 < 0 then (record_Encode.j1 kj1 true a0_0 a0_1 a0_2 l0_3 l0_4 l0_5) else (if a0_1 > 1073741824 then (record_Encode.j1 kj1 true a0_0 a0_1 a0_2 l0_3 l0_4 l0_5) else (if a0_2 < 1 then (record_Encode.j1 kj1 true a0_0 a0_1 a0_2 l0_3 l0_4 l0_5) else (if a0_2 > 99 then (record_Encode.j1 kj1 true a0_0 a0_1 a0_2 l0_3 l0_4 l0_5) else ((record_Encode_3.f l0_3).bind fun t221=>(record_Encode.j1 kj1 t221 a0_0 a0_1 a0_2 l0_3 l0_4 l0_5)))))))) = some (r1,r2):=by rw [if_neg (show ¬ (false = true) by decide)] at H;exact H
    clear H
    have H:=H1
    clear H1
    have HC20:=Aside0.mk H
    clear H
    go_upto_region 3 with (fail)
    go_cut [67] (fun v67 wc=>∃ (kq:Nat) (x67_19:Bool),v67 = .bool x67_19∧Aside0 (record_Encode.j1 kq x67_19 a0_0 a0_1 a0_2 l0_3 l0_4 l0_5 = some (r1,r2))∧Aside0 (kq≤kj1)∧Aside0 (wc.heap[gb218]? = some (.cells #[.int .i64 a0_0,.int .i64 a0_1,.int .i64 a0_2,(.slice A0_3 l0_3.length c0_3),(.slice A0_4 l0_4.length c0_4),(.slice A0_5 l0_5.length c0_5)] 26 (0,0)))∧Aside0 (Below w.heap.size w wc))
    case first =>
     have H:=HC20.out
     clear HC20
     by_cases c21:a0_0 < 1
     ·rw [if_pos c21] at H
      have c21b0:decide (a0_0 < 1) = true:=decide_eq_true c21
      clear c21
      (first|rw [c21b0]|(simp only [i64_w,i32_w];rw [c21b0])|skip)
      have H':=Aside0.mk H
      clear H
      obtain ⟨hcz22_0,hcz22_1,hcz22_2,hcz22_3,hcz22_4,hcz22_5,hfz22_0,hfz22_1,hfz22_2,hfz22_3,hfz22_4,hfz22_5⟩:=c6_ BK218
      go_wp2
      go_meet
      case rel=>exact ⟨_,(true),rg_,H',⟨by have:=HJ1.out;first|omega|exact Nat.le_refl _⟩,⟨bk_⟩,⟨bx_⟩⟩
     ·rw [if_neg c21] at H
      have c21b0:decide (a0_0 < 1) = false:=decide_eq_false c21
      clear c21
      (first|rw [c21b0]|(simp only [i64_w,i32_w];rw [c21b0])|skip)
      by_cases c23:a0_0 > 1073741824
      ·rw [if_pos c23] at H
       have c23b0:decide (1073741824 < a0_0) = true:=decide_eq_true c23
       clear c23
       have H':=Aside0.mk H
       clear H
       obtain ⟨hcz24_0,hcz24_1,hcz24_2,hcz24_3,hcz24_4,hcz24_5,hfz24_0,hfz24_1,hfz24_2,hfz24_3,hfz24_4,hfz24_5⟩:=c6_ BK218
       go_wp2
       go_meet
       case rel=>exact ⟨_,(true),rg_,H',⟨by have:=HJ1.out;first|omega|exact Nat.le_refl _⟩,⟨bk_⟩,⟨bx_⟩⟩
      ·rw [if_neg c23] at H
       have c23b0:decide (1073741824 < a0_0) = false:=decide_eq_false c23
       clear c23
       by_cases c25:a0_1 < 0
       ·rw [if_pos c25] at H
        have c25b0:decide (a0_1 < 0) = true:=decide_eq_true c25
        clear c25
        have H':=Aside0.mk H
        clear H
        obtain ⟨hcz26_0,hcz26_1,hcz26_2,hcz26_3,hcz26_4,hcz26_5,hfz26_0,hfz26_1,hfz26_2,hfz26_3,hfz26_4,hfz26_5⟩:=c6_ BK218
        go_wp2
        go_meet
        case rel=>exact ⟨_,(true),rg_,H',⟨by have:=HJ1.out;first|omega|exact Nat.le_refl _⟩,⟨bk_⟩,⟨bx_⟩⟩
       ·rw [if_neg c25] at H
        have c25b0:decide (a0_1 < 0) = false:=decide_eq_false c25
        clear c25
        by_cases c27:a0_1 > 1073741824
        ·rw [if_pos c27] at H
         have c27b0:decide (1073741824 < a0_1) = true:=decide_eq_true c27
         clear c27
         have H':=Aside0.mk H
         clear H
         obtain ⟨hcz28_0,hcz28_1,hcz28_2,hcz28_3,hcz28_4,hcz28_5,hfz28_0,hfz28_1,hfz28_2,hfz28_3,hfz28_4,hfz28_5⟩:=c6_ BK218
         go_wp2
         go_meet
         case rel=>exact ⟨_,(true),rg_,H',⟨by have:=HJ1.out;first|omega|exact Nat.le_refl _⟩,⟨bk_⟩,⟨bx_⟩⟩
        ·rw [if_neg c27] at H
         have c27b0:decide (1073741824 < a0_1) = false:=decide_eq_false c27
         clear c27
         by_cases c29:a0_2 < 1
         ·rw [if_pos c29] at H
          have c29b0:decide (a0_2 < 1) = true:=decide_eq_true c29
          clear c29
          have H':=Aside0.mk H
          clear H
          obtain ⟨hcz30_0,hcz30_1,hcz30_2,hcz30_3,hcz30_4,hcz30_5,hfz30_0,hfz30_1,hfz30_2,hfz30_3,hfz30_4,hfz30_5⟩:=c6_ BK218
          go_wp2
          go_meet
          case rel=>exact ⟨_,(true),rg_,H',⟨by have:=HJ1.out;first|omega|exact Nat.le_refl _⟩,⟨bk_⟩,⟨bx_⟩⟩
         ·rw [if_neg c29] at H
          have c29b0:decide (a0_2 < 1) = false:=decide_eq_false c29
          clear c29
          by_cases c31:a0_2 > 99
          ·rw [if_pos c31] at H
           have c31b0:decide (99 < a0_2) = true:=decide_eq_true c31
           clear c31
           have H':=Aside0.mk H
           clear H
           obtain ⟨hcz32_0,hcz32_1,hcz32_2,hcz32_3,hcz32_4,hcz32_5,hfz32_0,hfz32_1,hfz32_2,hfz32_3,hfz32_4,hfz32_5⟩:=c6_ BK218
           go_wp2
           go_meet
           case rel=>exact ⟨_,(true),rg_,H',⟨by have:=HJ1.out;first|omega|exact Nat.le_refl _⟩,⟨bk_⟩,⟨bx_⟩⟩
          ·rw [if_neg c31] at H
           have c31b0:decide (99 < a0_2) = false:=decide_eq_false c31
           clear c31
           obtain ⟨t221,A33,H⟩:=bn_ H
           have H':=Aside0.mk H
           clear H
           obtain ⟨hcz34_0,hcz34_1,hcz34_2,hcz34_3,hcz34_4,hcz34_5,hfz34_0,hfz34_1,hfz34_2,hfz34_3,hfz34_4,hfz34_5⟩:=c6_ BK218
           go_wp2_with (first|(go_at_call 41;(with_reducible refine (record_Encode_3.calls _ _ l0_3 t221 _ ?side1 ?side2 A33.out).mono ?_);(case side1=>exact cx_ (Kd.C_below HR0_3.out HB.out));(case side2=>exact HC0_3.out);rintro e w35 ⟨rfl,hb⟩;replace BK218:=bb_ BK218 hb;replace HB:=bs_ hb;(try clear hb)))
           go_meet
           case rel=>exact ⟨_,(t221),rg_,H',⟨by have:=HJ1.out;first|omega|exact Nat.le_refl _⟩,⟨bk_⟩,⟨bx_⟩⟩
    case rest =>
     clear HC20
     try clear c19
     obtain ⟨kq,x67_19,rfl,HA,HJ19,BK218,HB⟩:=hcut
     cases kq with
     | zero=>exact absurd HA.out (by simp [record_Encode.j1])
     | succ kj19 =>
      have H:=HA.out
      clear HA
      simp only [record_Encode.j1] at H
      by_cases c36:x67_19 = true
      ·subst c36
       have H1:(some ((⟨#[]⟩:ByteArray),2)) = some (r1,r2):=by rw [if_pos rfl] at H;exact H
       clear H
       have H:=H1
       clear H1
       simp only [Option.some.injEq,Prod.mk.injEq] at H
       obtain ⟨rfl,rfl⟩:=H
       go_wp2
       go_ret2
       exact ⟨rf_,bx_⟩
      ·replace c36:=Bool.eq_false_iff.mpr c36
       subst c36
       have H1:((record_Encode_4.f kj19 l0_4).bind fun t222=>(if t222 = true then (some ((⟨#[]⟩:ByteArray),1)) else ((strings_Builder_Len.f kj19 a0_0 a0_1 a0_2 l0_3 l0_4 l0_5).bind fun t223=>(some (t223,0))))) = some (r1,r2):=by rw [if_neg (show ¬ (false = true) by decide)] at H;exact H
       clear H
       have H:=H1
       clear H1
       obtain ⟨t222,A37,H⟩:=bn_ H
       by_cases c38:t222 = true
       ·subst c38
        have H1:(some ((⟨#[]⟩:ByteArray),1)) = some (r1,r2):=by rw [if_pos rfl] at H;exact H
        clear H
        have H:=H1
        clear H1
        simp only [Option.some.injEq,Prod.mk.injEq] at H
        obtain ⟨rfl,rfl⟩:=H
        obtain ⟨hcz39_0,hcz39_1,hcz39_2,hcz39_3,hcz39_4,hcz39_5,hfz39_0,hfz39_1,hfz39_2,hfz39_3,hfz39_4,hfz39_5⟩:=c6_ BK218
        go_wp2_with (first|(go_at_call 37;(with_reducible refine (record_Encode_4.calls kj19 _ _ l0_4 true _ ?side1 ?side2 ?side3 A37.out).mono ?_);(case side1=>exact cx_ (Kd.C_below HR0_4.out HB.out));(case side2=>exact HC0_4.out);(case side3=>exact HLW.out.below bx_);rintro e w40 ⟨rfl,hb⟩;replace BK218:=bb_ BK218 hb;replace HB:=bs_ hb;(try clear hb)))
        go_ret2
        exact ⟨rf_,bx_⟩
       ·replace c38:=Bool.eq_false_iff.mpr c38
        subst c38
        have H1:((strings_Builder_Len.f kj19 a0_0 a0_1 a0_2 l0_3 l0_4 l0_5).bind fun t223=>(some (t223,0))) = some (r1,r2):=by rw [if_neg (show ¬ (false = true) by decide)] at H;exact H
        clear H
        have H:=H1
        clear H1
        obtain ⟨t223,A41,H⟩:=bn_ H
        simp only [Option.some.injEq,Prod.mk.injEq] at H
        obtain ⟨rfl,rfl⟩:=H
        obtain ⟨hcz42_0,hcz42_1,hcz42_2,hcz42_3,hcz42_4,hcz42_5,hfz42_0,hfz42_1,hfz42_2,hfz42_3,hfz42_4,hfz42_5⟩:=c6_ BK218
        go_upto_region 7 with (first|(go_at_call 37;(with_reducible refine (record_Encode_4.calls kj19 _ _ l0_4 false _ ?side1 ?side2 ?side3 A37.out).mono ?_);(case side1=>exact cx_ (Kd.C_below HR0_4.out HB.out));(case side2=>exact HC0_4.out);(case side3=>exact HLW.out.below bx_);rintro e w43 ⟨rfl,hb⟩;replace BK218:=bb_ BK218 hb;replace HB:=bs_ hb;(try clear hb)))
        have hA:=A41.out
        unfold strings_Builder_Len.f at hA
        obtain ⟨t0,B0,hA⟩:=bn_ hA
        obtain ⟨t1,B1,hA⟩:=bn_ hA
        obtain ⟨t2,B2,hA⟩:=bn_ hA
        obtain ⟨t3,B3,hA⟩:=bn_ hA
        by_cases hz:t0.size + t1.size + t2.size + t3.size≤mostB∧l0_3.length≤mostB∧l0_4.length≤mostB
        case neg=>rw [if_neg hz] at hA;cases hA
        rw [if_pos hz] at hA
        obtain ⟨L1,B4,hA⟩:=bn_ hA
        obtain ⟨t4,B5,hA⟩:=bn_ hA
        by_cases hz2:L1.length + t4.size≤mostB
        case neg=>rw [if_neg hz2] at hA;cases hA
        rw [if_pos hz2] at hA
        obtain ⟨L2,B6,hA⟩:=bn_ hA
        obtain ⟨t5,B7,hA⟩:=bn_ hA
        obtain ⟨t6,B8,hA⟩:=bn_ hA
        by_cases hz3:L2.length + (t5.size + t6.size)≤mostB
        case neg=>rw [if_neg hz3] at hA;cases hA
        rw [if_pos hz3] at hA
        obtain rfl:=Option.some.inj hA
        have HZ:=Aside0.mk hz
        have HZ2:=Aside0.mk hz2
        have HZ3:=Aside0.mk hz3
        clear hA hz hz2 hz3 A41
        have NE:Aside0 (gb218≠w43.heap.size):=⟨Nat.ne_of_lt (blk_lt BK218.out)⟩
        have HBd:=Aside0.mk (Bld.new HB.out)
        replace BK218:Aside0 ((w43.alloc (.cells #[.pointer none,.slice none 0 0] 73)).heap[gb218]? = some (.cells #[.int .i64 a0_0,.int .i64 a0_1,.int .i64 a0_2,.slice A0_3 l0_3.length c0_3,.slice A0_4 l0_4.length c0_4,.slice A0_5 l0_5.length c0_5] 26 (0,0))):=⟨blk_alloc BK218.out _⟩
        clear HB
        go_upto_region 8 with (fail)
        generalize w43.alloc (.cells #[.pointer none,.slice none 0 0] 73) = W8 at HBd BK218 ⊢
        generalize w43.heap.size = b at HBd NE ⊢
        replace BK218:=dr_ BK218
        refine start_ (n:=17) (S:=fun w'=>w'.cell? ⟨gb218,0,none⟩ = some (.int .i64 a0_0)∧w'.cell? ⟨gb218,1,none⟩ = some (.int .i64 a0_1)∧w'.cell? ⟨gb218,2,none⟩ = some (.int .i64 a0_2)∧w'.cell? ⟨gb218,3,none⟩ = some (.slice A0_3 l0_3.length c0_3)) (ds:=[]) #[false,false,false,false,false,false,false,false,false,false,false,false,false,false,false,false,false] kr_ rfl rfl hc_ (fun hHeld=>?_)
        replace HBd:=Aside0.mk HBd.out.drew
        generalize W8.drew = W9 at BK218 HBd hHeld ⊢
        refine pu_ 0 (some 71) #[true,false,false,false,false,false,false,false,false,false,false,false,false,false,false,false,false] ?_
        refine pu_ 3 (some 74) #[true,false,false,true,false,false,false,false,false,false,false,false,false,false,false,false,false] ?_
        refine pu_ 7 (some 78) #[true,false,false,true,false,false,false,true,false,false,false,false,false,false,false,false,false] ?_
        refine pu_ 11 (some 82) #[true,false,false,true,false,false,false,true,false,false,false,true,false,false,false,false,false] ?_
        refine tk_ 1 (some 72) #[true,true,false,true,false,false,false,true,false,false,false,true,false,false,false,false,false] hHeld ?_
        refine tk_ 4 (some 75) #[true,true,false,true,true,false,false,true,false,false,false,true,false,false,false,false,false] hHeld ?_
        refine tk_ 8 (some 79) #[true,true,false,true,true,false,false,true,true,false,false,true,false,false,false,false,false] hHeld ?_
        refine tk_ 12 (some 83) #[true,true,false,true,true,false,false,true,true,false,false,true,true,false,false,false,false] hHeld ?_
        refine pu_ 13 (some 84) #[true,true,false,true,true,false,false,true,true,false,false,true,true,true,false,false,false] ?_
        have z1:(9223372036854775807 < t0.size + t1.size) = False:=eq_false (by have:=HZ.out.1;unfold mostB at this;omega)
        have z2:(9223372036854775807 < t0.size + t1.size + t2.size) = False:=eq_false (by have:=HZ.out.1;unfold mostB at this;omega)
        have z3:(9223372036854775807 < t0.size + t1.size + t2.size + t3.size) = False:=eq_false (by have:=HZ.out.1;unfold mostB at this;omega)
        refine oc_ 2 (some 73) #[true,true,true,true,true,false,false,true,true,false,false,true,true,true,false,false,false] Tryz.func46 #[.int .i64 a0_0] (fun K hK=>?_)
        with_reducible refine (record_short.calls kj19 a0_0 t0 _ B0.out).mono ?_
        rintro e w10 ⟨rfl,hb⟩
        refine ⟨_,rfl,?_⟩
        replace BK218:=bb_ BK218 hb
        replace HBd:=bk_kept HBd hb
        clear hb
        refine hk_ hK (fun hHeld=>?_);clear hK K
        refine oc_ 5 (some 76) #[true,true,true,true,true,true,false,true,true,false,false,true,true,true,false,false,false] Tryz.func46 #[.int .i64 a0_1] (fun K hK=>?_)
        with_reducible refine (record_short.calls kj19 a0_1 t1 _ B1.out).mono ?_
        rintro e w11 ⟨rfl,hb⟩
        refine ⟨_,rfl,?_⟩
        replace BK218:=bb_ BK218 hb
        replace HBd:=bk_kept HBd hb
        clear hb
        refine hk_ hK (fun hHeld=>?_);clear hK K
        refine pu_ 6 (some 77) #[true,true,true,true,true,true,true,true,true,false,false,true,true,true,false,false,false] ?_
        refine oc_ 9 (some 80) #[true,true,true,true,true,true,true,true,true,true,false,true,true,true,false,false,false] Tryz.func46 #[.int .i64 a0_2] (fun K hK=>?_)
        with_reducible refine (record_short.calls kj19 a0_2 t2 _ B2.out).mono ?_
        rintro e w12 ⟨rfl,hb⟩
        refine ⟨_,rfl,?_⟩
        replace BK218:=bb_ BK218 hb
        replace HBd:=bk_kept HBd hb
        clear hb
        refine hk_ hK (fun hHeld=>?_);clear hK K
        refine pu_ 10 (some 81) #[true,true,true,true,true,true,true,true,true,true,true,true,true,true,false,false,false] ?_
        refine oc_ 14 (some 85) #[true,true,true,true,true,true,true,true,true,true,true,true,true,true,true,false,false] Tryz.func46 #[.int .i64 l0_3.length] (fun K hK=>?_)
        with_reducible refine (record_short.calls kj19 l0_3.length t3 _ B3.out).mono ?_
        rintro e w13 ⟨rfl,hb⟩
        refine ⟨_,rfl,?_⟩
        replace BK218:=bb_ BK218 hb
        replace HBd:=bk_kept HBd hb
        clear hb
        refine hk_ hK (fun hHeld=>?_);clear hK K
        refine pu_ 15 (some 86) #[true,true,true,true,true,true,true,true,true,true,true,true,true,true,true,true,false] ?_
        clear z1 z2 z3
        have hts:(t0 ++ t1 ++ t2 ++ t3).size≤mostB:=by have:=HZ.out.1;simp only [ByteArray.size_append];omega
        generalize t0 ++ t1 ++ t2 ++ t3 = tt at B4 hts ⊢
        have HTS:=Aside0.mk hts
        clear hts
        refine oc_ 16 (some 87) #[true,true,true,true,true,true,true,true,true,true,true,true,true,true,true,true,true] Tryz.func45 #[.pointer (some ⟨b,0,none⟩),.string tt] (fun K hK=>?_)
        with_reducible refine (bld_write tt HBd.out (by have:=HTS.out;unfold mostB at this;simp only [List.length_nil];omega)).mono ?_
        rintro e w14 ⟨rfl,hb,hkp⟩
        refine ⟨_,rfl,?_⟩
        replace BK218:=kept_blk BK218 hkp NE (by decide)
        replace HBd:Aside0 (Bld w w14 b tt.data.toList):=⟨by rw [List.nil_append] at hb;exact hb⟩
        clear hb hkp
        refine hk_ hK (fun hHeld=>?_);clear hK K
        refine done_ kr_ ?_
        obtain ⟨hz0,hz1,hz2,hz3,hz4,hz5,hf0,hf1,hf2,hf3,hf4,hf5⟩:=c6_ BK218
        go_wp2_with fail
        clear hz0 hz1 hz2 hz3 hz4 hz5 hf0 hf1 hf2 hf3 hf4 hf5 hHeld
        go_loopw [91] (fun v91 w'=>∃ (i:Nat) (acc:List UInt8),v91 = .int .i64 (i:Int)∧i≤l0_3.length∧Aside0 (encN kj19 acc (l0_3.drop i) = some L1)∧Aside0 (Bld w w' b acc)∧Aside0 (w'.heap[gb218]? = some (.cells #[.int .i64 a0_0,.int .i64 a0_1,.int .i64 a0_2,.slice A0_3 l0_3.length c0_3,.slice A0_4 l0_4.length c0_4,.slice A0_5 l0_5.length c0_5] 26 (0,0)))) (fun v91 _=>l0_3.length - (RowKit.intOf v91).toNat)
        case atStart=>exact ⟨0,_,rfl,Nat.zero_le _,B4,HBd,BK218⟩
        case round=>
         clear HBd BK218
         obtain ⟨i,acc,rfl,hi,HS,HBd,BK218⟩:=hrel
         by_cases hlt:i < l0_3.length
         ·have HW:=Aside0.mk (wrap_succ hlt HZ.out.2.1)
          have hs:=HS.out
          rw [rd_drop l0_3 i hlt,encN] at hs
          obtain ⟨t,C0,hs⟩:=bn_ hs
          by_cases hsz:acc.length + t.size≤mostB
          case neg=>rw [if_neg hsz] at hs;cases hs
          rw [if_pos hsz] at hs
          obtain ⟨ad,e,hx⟩:=Kd.at_int HR0_3.out (i:Int) (by omega) (by omega)
          replace hx:=(HBd.out.below.cell (World.block_lt_of_cell? w _ hx)).trans hx
          rw [Int.toNat_natCast] at hx
          cases e
          generalize rd l0_3 (i:Int) = n at hx C0
          have HS2:=Aside0.mk hs
          have HSZ:=Aside0.mk hsz
          clear hs HS hsz
          have hd:decide ((i:Int) < (l0_3.length:Int)) = true:=decide_eq_true (by omega)
          go_wp2_with fail
          go_at_call 47
          refine (record_signed.calls kj19 _ t _ C0.out).mono ?_
          rintro e W1 ⟨rfl,hb⟩
          replace BK218:=bb_ BK218 hb
          replace HBd:=bk_kept HBd hb
          clear hb
          go_wp2_with fail
          go_at_call 45
          refine (bld_write _ HBd.out HSZ.out).mono ?_
          rintro e W2 ⟨rfl,hb,hkp⟩
          replace BK218:=kept_blk BK218 hkp NE (by decide)
          replace HBd:=Aside0.mk hb
          clear hb hkp
          go_wp2
          go_roundw
          case rel=>exact ⟨i + 1,_,by rw [HW.out],by omega,HS2,HBd,BK218⟩
          case measure=>
           rw [HW.out]
           simp only [RowKit.intOf,Int.toNat_natCast]
           omega
         ·have hd:decide ((i:Int) < (l0_3.length:Int)) = false:=decide_eq_false (by omega)
          have hs:=HS.out
          rw [List.drop_eq_nil_of_le (by omega),encN] at hs
          obtain rfl:=Option.some.inj hs
          clear HS hs
          obtain ⟨hz0,hz1,hz2,hz3,hz4,hz5,hf0,hf1,hf2,hf3,hf4,hf5⟩:=c6_ BK218
          go_wp2_with fail
          go_at_call 46
          refine (record_short.calls kj19 _ t4 _ B5.out).mono ?_
          rintro e w15 ⟨rfl,hb⟩
          replace BK218:=bb_ BK218 hb
          replace HBd:=bk_kept HBd hb
          clear hb
          go_wp2_with fail
          go_at_call 45
          refine (bld_write _ HBd.out HZ2.out).mono ?_
          rintro e w16 ⟨rfl,hb,hkp⟩
          replace BK218:=kept_blk BK218 hkp NE (by decide)
          replace HBd:=Aside0.mk hb
          clear hb hkp hz0 hz1 hz2 hz3 hz4 hz5 hf0 hf1 hf2 hf3 hf4 hf5
          obtain ⟨hz0,hz1,hz2,hz3,hz4,hz5,hf0,hf1,hf2,hf3,hf4,hf5⟩:=c6_ BK218
          go_wp2_with fail
          clear hz0 hz1 hz2 hz3 hz4 hz5 hf0 hf1 hf2 hf3 hf4 hf5
          go_loopw [107] (fun v107 w'=>∃ (i:Nat) (acc:List UInt8),v107 = .int .i64 (i:Int)∧i≤l0_4.length∧Aside0 (encR kj19 acc (l0_4.drop i) = some L2)∧Aside0 (Bld w w' b acc)∧Aside0 (w'.heap[gb218]? = some (.cells #[.int .i64 a0_0,.int .i64 a0_1,.int .i64 a0_2,.slice A0_3 l0_3.length c0_3,.slice A0_4 l0_4.length c0_4,.slice A0_5 l0_5.length c0_5] 26 (0,0)))) (fun v107 _=>l0_4.length - (RowKit.intOf v107).toNat)
          case atStart=>exact ⟨0,_,rfl,Nat.zero_le _,B6,HBd,BK218⟩
          case round=>
           clear HBd BK218
           obtain ⟨i,acc,rfl,hi,HS,HBd,BK218⟩:=hrel
           by_cases hlt:i < l0_4.length
           ·have HW:=Aside0.mk (wrap_succ hlt HZ.out.2.2)
            have hs:=HS.out
            rw [rdOf_drop l0_4 i hlt,encR] at hs
            obtain ⟨t,C0,hs⟩:=bn_ hs
            by_cases hsz:acc.length + t.size≤mostB
            case neg=>rw [if_neg hsz] at hs;cases hs
            rw [if_pos hsz] at hs
            obtain ⟨ad,e,hx⟩:=Kd.at_string HR0_4.out (i:Int) (by omega) (by omega)
            replace hx:=(HBd.out.below.cell (World.block_lt_of_cell? w _ hx)).trans hx
            rw [Int.toNat_natCast] at hx
            cases e
            generalize rdOf ByteArray.empty l0_4 (i:Int) = x at hx C0
            have HS2:=Aside0.mk hs
            have HSZ:=Aside0.mk hsz
            clear hs HS hsz
            have hd:decide ((i:Int) < (l0_4.length:Int)) = true:=decide_eq_true (by omega)
            go_wp2_with fail
            refine (record_strs.calls kj19 _ 1 [x] t (wr.alloc (.cells #[.string x] 9)) (C_one wr x) (Nat.le_refl _) C0.out).mono ?_
            rintro e W1 ⟨rfl,hb⟩
            have hb1:=below_step (below_alloc (Below.refl wr.heap.size wr) (.cells #[.string x] 9)) hb
            replace BK218:=bb_ BK218 hb1
            replace HBd:=bk_kept HBd hb1
            clear hb hb1
            go_wp2_with fail
            go_at_call 45
            refine (bld_write _ HBd.out HSZ.out).mono ?_
            rintro e W2 ⟨rfl,hb,hkp⟩
            replace BK218:=kept_blk BK218 hkp NE (by decide)
            replace HBd:=Aside0.mk hb
            clear hb hkp
            go_wp2
            go_roundw
            case rel=>exact ⟨i + 1,_,by rw [HW.out],by omega,HS2,HBd,BK218⟩
            case measure=>
             rw [HW.out]
             simp only [RowKit.intOf,Int.toNat_natCast]
             omega
           ·have hd:decide ((i:Int) < (l0_4.length:Int)) = false:=decide_eq_false (by omega)
            have hs:=HS.out
            rw [List.drop_eq_nil_of_le (by omega),encR] at hs
            obtain rfl:=Option.some.inj hs
            clear HS hs
            go_wp2_with fail
            replace BK218:=dr_ BK218
            replace HBd:=Aside0.mk HBd.out.drew
            refine start_ (n:=9) (S:=fun w'=>w'.cell? ⟨gb218,5,none⟩ = some (.slice A0_5 l0_5.length c0_5)) (ds:=[]) #[false,false,false,false,false,false,false,false,false] kr_ rfl rfl hc_ (fun hHeld=>?_)
            generalize wr.drew = W9 at BK218 HBd hHeld ⊢
            refine pu_ 0 (some 116) #[true,false,false,false,false,false,false,false,false] ?_
            refine pu_ 4 (some 120) #[true,false,false,false,true,false,false,false,false] ?_
            refine tk_ 1 (some 117) #[true,true,false,false,true,false,false,false,false] hHeld ?_
            refine tk_ 5 (some 121) #[true,true,false,false,true,true,false,false,false] hHeld ?_
            refine pu_ 2 (some 118) #[true,true,true,false,true,true,false,false,false] ?_
            refine oc_ 3 (some 119) #[true,true,true,true,true,true,false,false,false] Tryz.func46 #[.int .i64 l0_5.length] (fun K hK=>?_)
            with_reducible refine (record_short.calls kj19 l0_5.length t5 _ B7.out).mono ?_
            rintro e w20 ⟨rfl,hb⟩
            refine ⟨_,rfl,?_⟩
            replace BK218:=bb_ BK218 hb
            replace HBd:=bk_kept HBd hb
            clear hb
            refine hk_ hK (fun hHeld=>?_);clear hK K
            refine oc_ 6 (some 122) #[true,true,true,true,true,true,true,false,false] Tryz.func48 #[.slice A0_5 l0_5.length c0_5] (fun K hK=>?_)
            with_reducible refine (record_strs.calls kj19 _ _ l0_5 t6 _ (Kd.C_below HR0_5.out HBd.out.below) HC0_5.out B8.out).mono ?_
            rintro e w21 ⟨rfl,hb⟩
            refine ⟨_,rfl,?_⟩
            replace BK218:=bb_ BK218 hb
            replace HBd:=bk_kept HBd hb
            clear hb
            refine hk_ hK (fun hHeld=>?_);clear hK K
            have z1:(9223372036854775807 < t5.size + t6.size) = False:=eq_false (by have:=HZ3.out;unfold mostB at this;omega)
            refine pu_ 7 (some 123) #[true,true,true,true,true,true,true,true,false] ?_
            clear z1
            have hts:acc.length + (t5 ++ t6).size≤mostB:=by have:=HZ3.out;simp only [ByteArray.size_append];exact this
            generalize htu:t5 ++ t6 = tu at hts ⊢
            have HTU:=Aside0.mk hts
            have HTE:=Aside0.mk htu
            clear hts htu
            refine oc_ 8 (some 124) #[true,true,true,true,true,true,true,true,true] Tryz.func45 #[.pointer (some ⟨b,0,none⟩),.string tu] (fun K hK=>?_)
            with_reducible refine (bld_write tu HBd.out (by have:=HTU.out;unfold mostB at this;exact this)).mono ?_
            rintro e w22 ⟨rfl,hb,hkp⟩
            refine ⟨_,rfl,?_⟩
            replace BK218:=kept_blk BK218 hkp NE (by decide)
            replace HBd:=Aside0.mk hb
            clear hb hkp
            refine hk_ hK (fun hHeld=>?_);clear hK K
            refine done_ kr_ ?_
            go_wp2_with fail
            go_at_call 49
            refine (bld_string HBd.out).mono ?_
            rintro e w23 ⟨rfl,hb⟩
            have HB:=Aside0.mk hb
            clear hb
            go_wp2
            go_ret2
            have:=HTE.out
            subst this
            exact ⟨rfl,HB.out⟩
end Go.Proofs.YtcmbggahndfnnaaGreatDoor.Pr
namespace Go.Proofs.YtcmbggahndfnnaaGreatDoor.Pr
open Go.RowKit Go.Proofs.YtcmbggahndfnnaaGreatDoorW.PrintWords Go.Proofs.YtcmbggahndfnnaaGreatDoorW.PrintLast Go.Proofs.YtcmbggahndfnnaaGreatDoorW.PrintMore
attribute [local go_sem] max2_int min2_int max_two min_two max_three min_three max_four min_four
set_option maxHeartbeats 8000000
set_option maxRecDepth 100000
set_option linter.unusedVariables false
set_option linter.unusedSimpArgs false
def IsS84 (w0 W:World) (g:Nat) (f0:ByteArray) (f1:Bool):Prop:=W.heap[g]? = some (.cells #[.string f0,.bool f1] 84 (0,0))∧w0.heap.size≤g
theorem IsS84.grown {w0 W:World} {g:Nat} {f0:ByteArray} {f1:Bool} {W1:World} {row:Option Nat} (h:IsS84 w0 W g f0 f1) (hw:W.grownBy W1 row) (hne:some g≠row):IsS84 w0 W1 g f0 f1:=by
 obtain ⟨hb,hg⟩:=h
 exact ⟨blk_grown hb hw hne,hg⟩
theorem IsS84.below {w0 W:World} {g:Nat} {f0:ByteArray} {f1:Bool} {W1:World} (h:IsS84 w0 W g f0 f1) (hw:Below W.heap.size W W1):IsS84 w0 W1 g f0 f1:=h.grown (grown_of_below hw none) sm_
theorem IsS84.alloc {w0 W:World} {g:Nat} {f0:ByteArray} {f1:Bool} (h:IsS84 w0 W g f0 f1) (o:Obj):IsS84 w0 (W.alloc o) g f0 f1:=h.below (below_alloc (Below.refl _ _) o)
theorem IsS84.drewN {w0 W:World} {g:Nat} {f0:ByteArray} {f1:Bool} (h:IsS84 w0 W g f0 f1) (m:Nat):IsS84 w0 (W.drewN m) g f0 f1:=h
theorem IsS84.drew {w0 W:World} {g:Nat} {f0:ByteArray} {f1:Bool} (h:IsS84 w0 W g f0 f1):IsS84 w0 W.drew g f0 f1:=h
theorem IsS84.apart {w0 W:World} {g:Nat} {f0:ByteArray} {f1:Bool} {α:Type} {d:Kd α} {e:Nat} {base:Nat} {ok:Nat→Prop} {v:Value} {xs:List α} (h:IsS84 w0 W g f0 f1) (ho:d.R e W base ok v xs) (ht:∀ q,q ∈ e :: d.E→q≠84):d.R e W base (fun k=>ok k∧k≠g) v xs:=by
 obtain ⟨hb,hg⟩:=h
 exact Kd.R_types ho hb ht
theorem IsS84.own_ne {w0 W:World} {g:Nat} {f0:ByteArray} {f1:Bool} {α:Type} {d:Kd α} {e:Nat} {base:Nat} {ok:Nat→Prop} {v:Value} {xs:List α} (h:IsS84 w0 W g f0 f1) (ho:d.R e W base ok v xs) (ht:e≠84):some g≠v.ownBlock:=by
 obtain ⟨hb,hg⟩:=h
 exact Kd.R_ne ho hb ht
theorem IsS84.apartS {w0 W:World} {g:Nat} {f0:ByteArray} {f1:Bool} {α:Type} {d:Kd α} {e:Nat} {base:Nat} {ok:Nat→Prop} {v:Value} {xs:List α} (h:IsS84 w0 W g f0 f1) (ho:d.S e W base ok v xs) (ht:∀ q,q ∈ e :: d.E→q≠84):d.S e W base (fun k=>ok k∧k≠g) v xs:=by
 obtain ⟨hb,hg⟩:=h
 exact Kd.S_types ho hb ht
theorem IsS84.own_neS {w0 W:World} {g:Nat} {f0:ByteArray} {f1:Bool} {α:Type} {d:Kd α} {e:Nat} {base:Nat} {ok:Nat→Prop} {v:Value} {xs:List α} (h:IsS84 w0 W g f0 f1) (ho:d.S e W base ok v xs) (ht:e≠84):some g≠v.ownBlock:=by
 obtain ⟨hb,hg⟩:=h
 exact Kd.S_ne ho hb ht
theorem IsS84.lt {w0 W:World} {g:Nat} {f0:ByteArray} {f1:Bool} (h:IsS84 w0 W g f0 f1):g < W.heap.size:=by
 obtain ⟨hb,hg⟩:=h
 exact blk_lt hb
theorem IsS84.ge {w0 W:World} {g:Nat} {f0:ByteArray} {f1:Bool} (h:IsS84 w0 W g f0 f1):w0.heap.size≤g:=by
 obtain ⟨hb,hg⟩:=h
 exact hg
theorem IsS84.ne_blk {w0 W:World} {g:Nat} {f0:ByteArray} {f1:Bool} {a:Nat} {cs:Array Value} {t:TypeId} {fr:Nat × Nat} (h:IsS84 w0 W g f0 f1) (hb2:W.heap[a]? = some (.cells cs t fr)) (ht:t≠84):g≠a:=by
 obtain ⟨hb,hg⟩:=h
 rintro rfl
 rw [hb] at hb2
 injection hb2 with hb2
 injection hb2 with _ ht2
 exact ht ht2.symm
theorem IsS84.far {w0 W:World} {g:Nat} {f0:ByteArray} {f1:Bool} {p:Addr} (h:IsS84 w0 W g f0 f1) (hne:g≠p.block) (u:Value):IsS84 w0 (W.setCell p u) g f0 f1:=by
 obtain ⟨hb,hg⟩:=h
 exact ⟨blk_far hb hne u,hg⟩
theorem cellS84_0 {W:World} {g:Nat} {f0:ByteArray} {f1:Bool} (h:W.heap[g]? = some (.cells #[.string f0,.bool f1] 84 (0,0))):W.cell? ⟨g,0,none⟩ = some (.string f0):=(blk_cell h 0).trans rfl
theorem IsS84.set_0 {w0 W:World} {g:Nat} {f0:ByteArray} {f1:Bool} (h:IsS84 w0 W g f0 f1) (x:ByteArray):IsS84 w0 (W.setCell ⟨g,0,none⟩ (.string x)) g x f1:=by
 obtain ⟨hb,hg⟩:=h
 exact ⟨by simpa using blk_set hb 0 (.string x),hg⟩
theorem cellS84_1 {W:World} {g:Nat} {f0:ByteArray} {f1:Bool} (h:W.heap[g]? = some (.cells #[.string f0,.bool f1] 84 (0,0))):W.cell? ⟨g,1,none⟩ = some (.bool f1):=(blk_cell h 1).trans rfl
theorem IsS84.set_1 {w0 W:World} {g:Nat} {f0:ByteArray} {f1:Bool} (h:IsS84 w0 W g f0 f1) (x:Bool):IsS84 w0 (W.setCell ⟨g,1,none⟩ (.bool x)) g f0 x:=by
 obtain ⟨hb,hg⟩:=h
 exact ⟨by simpa using blk_set hb 1 (.bool x),hg⟩
mutual
def record_reader_short.l0:Nat→Int→Int→ByteArray→Bool→Option (Int × ByteArray × Bool)
 | 0,_,_,_,_=>none
 | k + 1,x3,x4,x1000,x1001=>if x4 < 63 then (record_reader_short.j1 k x3 x4 (x1000.toList != ([]:List UInt8)) x1000 x1001) else (record_reader_short.j1 k x3 x4 false x1000 x1001)
def record_reader_short.j1:Nat→Int→Int→Bool→ByteArray→Bool→Option (Int × ByteArray × Bool)
 | 0,_,_,_,_,_=>none
 | k + 1,x3,x4,x14,x1000,x1001=>if x14 = true then (if 0 < (x1000.size:Int) then (if 1≤(x1000.size:Int) then (if 0≤x4 then (if (bt x1000 0) < 128 then (if (bt x1000 0) = 0 then (if x4 > 0 then (some (0,x1000.extract 1 x1000.size,true)) else (if (Go.bits .or .i64 x3 (shl .i64 (wrap64 (Go.bits .and .u8 (bt x1000 0) 127)) x4)) < 0 then (some (0,x1000.extract 1 x1000.size,true)) else (some (Go.bits .or .i64 x3 (shl .i64 (wrap64 (Go.bits .and .u8 (bt x1000 0) 127)) x4),x1000.extract 1 x1000.size,x1001)))) else (if (Go.bits .or .i64 x3 (shl .i64 (wrap64 (Go.bits .and .u8 (bt x1000 0) 127)) x4)) < 0 then (some (0,x1000.extract 1 x1000.size,true)) else (some (Go.bits .or .i64 x3 (shl .i64 (wrap64 (Go.bits .and .u8 (bt x1000 0) 127)) x4),x1000.extract 1 x1000.size,x1001)))) else (record_reader_short.l0 k (Go.bits .or .i64 x3 (shl .i64 (wrap64 (Go.bits .and .u8 (bt x1000 0) 127)) x4)) (wrap64 (x4 + 7)) (x1000.extract 1 x1000.size) x1001)) else (none)) else (none)) else (none)) else (some (0,x1000,true))
end
def record_reader_short.f (k:Nat) (s0_0:ByteArray) (s0_1:Bool):Option (Int × ByteArray × Bool):=record_reader_short.l0 k 0 0 s0_0 s0_1
theorem record_reader_short.mono_l:∀ k,(∀ y0 y1 y2 y3,LeO (record_reader_short.l0 k y0 y1 y2 y3) (record_reader_short.l0 (k + 1) y0 y1 y2 y3))∧(∀ y0 y1 y2 y3 y4,LeO (record_reader_short.j1 k y0 y1 y2 y3 y4) (record_reader_short.j1 (k + 1) y0 y1 y2 y3 y4))
 | 0=>⟨fun _ _ _ _ r h=>by simp [record_reader_short.l0] at h,fun _ _ _ _ _ r h=>by simp [record_reader_short.j1] at h⟩
 | k + 1=>by
  obtain ⟨ih0,ih1⟩:=record_reader_short.mono_l k
  refine ⟨?_,?_⟩
  ·intro y0 y1 y2 y3
   unfold record_reader_short.l0
   repeat' first
   | (with_reducible exact ih0 _ _ _ _)
   | (with_reducible exact ih1 _ _ _ _ _)
   | (with_reducible exact LeO.refl _)
   | (with_reducible exact LeO.none _)
   | (with_reducible refine LeO.ite ?_ ?_)
   | (with_reducible refine LeO.bind ?_ (fun _=>?_))
   | exact ih0 _ _ _ _
   | exact ih1 _ _ _ _ _
   | exact LeO.none _
   | refine LeO.ite ?_ ?_
   | refine LeO.bind ?_ (fun _=>?_)
  ·intro y0 y1 y2 y3 y4
   unfold record_reader_short.j1
   repeat' first
   | (with_reducible exact ih0 _ _ _ _)
   | (with_reducible exact ih1 _ _ _ _ _)
   | (with_reducible exact LeO.refl _)
   | (with_reducible exact LeO.none _)
   | (with_reducible refine LeO.ite ?_ ?_)
   | (with_reducible refine LeO.bind ?_ (fun _=>?_))
   | exact ih0 _ _ _ _
   | exact ih1 _ _ _ _ _
   | exact LeO.none _
   | refine LeO.ite ?_ ?_
   | refine LeO.bind ?_ (fun _=>?_)
theorem record_reader_short.mono:∀ a0 a1 k,LeO (record_reader_short.f k a0 a1) (record_reader_short.f (k + 1) a0 a1):=by
 intro a0 a1 k
 obtain ⟨ih0,ih1⟩:=record_reader_short.mono_l k
 unfold record_reader_short.f
 repeat' first
   | (with_reducible exact ih0 _ _ _ _)
   | (with_reducible exact ih1 _ _ _ _ _)
   | (with_reducible exact LeO.refl _)
   | (with_reducible exact LeO.none _)
   | (with_reducible refine LeO.ite ?_ ?_)
   | (with_reducible refine LeO.bind ?_ (fun _=>?_))
   | exact ih0 _ _ _ _
   | exact ih1 _ _ _ _ _
   | exact LeO.none _
   | refine LeO.ite ?_ ?_
   | refine LeO.bind ?_ (fun _=>?_)
theorem record_reader_short.calls (k:Nat) (g:Nat) (s0_0:ByteArray) (s0_1:Bool) (r1:Int) (r2:ByteArray) (r3:Bool) (w0 w:World) (hI:IsS84 w0 w g s0_0 s0_1) (hB:Below w0.heap.size w0 w) (h:record_reader_short.f k s0_0 s0_1 = some (r1,r2,r3)) :
  Calls Tryz.prog 54 #[.pointer (some ⟨g,0,none⟩)] w fun e w'=>e = .returned (.int .i64 r1)∧IsS84 w0 w' g r2 r3∧Below w0.heap.size w0 w'∧KeepBut w w' g none:=by
 have HI0:=Aside0.mk hI
 have HK:=Aside0.mk (KeepBut.refl w g none)
 have HL:=Aside0.mk hB.size
 clear hI
 have HW0:=Aside0.mk hB.size
 have HB:=Aside0.mk hB
 clear hB
 have H:=h;clear h;unfold record_reader_short.f at H
 have H':=Aside0.mk H
 clear H
 go_enter Tryz.func54,Tryz.ntmps54
 go_wp2
 go_loopg [3,4] k (fun kq v3 v4 w'=>∃ (x3_1:Int) (x4_1:Int) (x1000_1:ByteArray),v3 = .int .i64 x3_1∧v4 = .int .i64 x4_1∧Aside0 (record_reader_short.l0 kq x3_1 x4_1 x1000_1 s0_1 = some (r1,r2,r3))∧Aside0 (kq≤k)∧Aside0 (IsS84 w0 w' g x1000_1 s0_1)∧Aside0 (KeepBut w w' g none)∧Aside0 (Below w0.heap.size w0 w'))
 case atStart=>exact ⟨(0),(0),(s0_0),rg_,rg_,H',⟨Nat.le_refl _⟩,⟨by repeat (first|(with_reducible first|exact HI0.out|apply IsS84.alloc|apply IsS84.drewN|apply IsS84.drew|apply IsS84.set_0|apply IsS84.set_1)|exact HI0.out)⟩,⟨kx_⟩,⟨by repeat (first|(with_reducible first|exact HB.out|apply below_alloc|apply pw_below_drewN|apply below_drew1|refine below_set ?_ (IsS84.ge HI0.out))|exact HB.out)⟩⟩
 case round =>
  clear H'
  obtain ⟨x3_1,x4_1,x1000_1,rfl,rfl,HA,HK1,HI0,HK,HB⟩:=hrel
  cases gk with
  | zero=>exact absurd HA.out (by simp [record_reader_short.l0])
  | succ k1 =>
   have H:=HA.out
   clear HA
   simp only [record_reader_short.l0] at H
   have HC2:=Aside0.mk H
   clear H
   go_upto_region 3 with (fail)
   go_cut [14] (fun v14 wc=>∃ (kq:Nat) (x14_1:Bool),v14 = .bool x14_1∧Aside0 (record_reader_short.j1 kq x3_1 x4_1 x14_1 x1000_1 s0_1 = some (r1,r2,r3))∧Aside0 (kq≤k1)∧Aside0 (IsS84 w0 wc g x1000_1 s0_1)∧Aside0 (KeepBut w wc g none)∧Aside0 (Below w0.heap.size w0 wc))
   case first =>
    have H:=HC2.out
    clear HC2
    by_cases c3:x4_1 < 63
    ·rw [if_pos c3] at H
     have c3b0:decide (x4_1 < 63) = true:=decide_eq_true c3
     clear c3
     (first|rw [c3b0]|(simp only [i64_w,i32_w];rw [c3b0])|skip)
     have H':=Aside0.mk H
     clear H
     obtain ⟨HGz4,hgz4⟩:=HI0.out
     have hcz4_0:=cellS84_0 HGz4
     have hcz4_1:=cellS84_1 HGz4
     have hfz4_0:=blk_frozen HGz4 0
     have hfz4_1:=blk_frozen HGz4 1
     clear HGz4 hgz4
     go_wp2
     go_meet
     case rel=>exact ⟨_,((x1000_1.toList != ([]:List UInt8))),rg_,H',⟨by have:=HK1.out;first|omega|exact Nat.le_refl _⟩,⟨by repeat (first|(with_reducible first|exact HI0.out|apply IsS84.alloc|apply IsS84.drewN|apply IsS84.drew|apply IsS84.set_0|apply IsS84.set_1)|exact HI0.out)⟩,⟨kx_⟩,⟨by repeat (first|(with_reducible first|exact HB.out|apply below_alloc|apply pw_below_drewN|apply below_drew1|refine below_set ?_ (IsS84.ge HI0.out))|exact HB.out)⟩⟩
    ·rw [if_neg c3] at H
     have c3b0:decide (x4_1 < 63) = false:=decide_eq_false c3
     clear c3
     (first|rw [c3b0]|(simp only [i64_w,i32_w];rw [c3b0])|skip)
     have H':=Aside0.mk H
     clear H
     go_wp2
     go_meet
     case rel=>exact ⟨_,(false),rg_,H',⟨by have:=HK1.out;first|omega|exact Nat.le_refl _⟩,⟨by repeat (first|(with_reducible first|exact HI0.out|apply IsS84.alloc|apply IsS84.drewN|apply IsS84.drew|apply IsS84.set_0|apply IsS84.set_1)|exact HI0.out)⟩,⟨kx_⟩,⟨by repeat (first|(with_reducible first|exact HB.out|apply below_alloc|apply pw_below_drewN|apply below_drew1|refine below_set ?_ (IsS84.ge HI0.out))|exact HB.out)⟩⟩
   case rest =>
    clear HC2
    obtain ⟨kq,x14_1,rfl,HA,HJ1,HI0,HK,HB⟩:=hcut
    cases kq with
    | zero=>exact absurd HA.out (by simp [record_reader_short.j1])
    | succ kj1 =>
     have H:=HA.out
     clear HA
     simp only [record_reader_short.j1] at H
     by_cases c5:x14_1 = true
     ·subst c5
      have H1:(if 0 < (x1000_1.size:Int) then (if 1≤(x1000_1.size:Int) then (if 0≤x4_1 then (if (bt x1000_1 0) < 128 then (if (bt x1000_1 0) = 0 then (if x4_1 > 0 then (some (0,x1000_1.extract 1 x1000_1.size,true)) else (if (Go.bits .or .i64 x3_1 (shl .i64 (wrap64 (Go.bits .and .u8 (bt x1000_1 0) 127)) x4_1)) < 0 then (some (0,x1000_1.extract 1 x1000_1.size,true)) else (some (Go.bits .or .i64 x3_1 (shl .i64 (wrap64 (Go.bits .and .u8 (bt x1000_1 0) 127)) x4_1),x1000_1.extract 1 x1000_1.size,s0_1)))) else (if (Go.bits .or .i64 x3_1 (shl .i64 (wrap64 (Go.bits .and .u8 (bt x1000_1 0) 127)) x4_1)) < 0 then (some (0,x1000_1.extract 1 x1000_1.size,true)) else (some (Go.bits .or .i64 x3_1 (shl .i64 (wrap64 (Go.bits .and .u8 (bt x1000_1 0) 127)) x4_1),x1000_1.extract 1 x1000_1.size,s0_1)))) else (record_reader_short.l0 kj1 (Go.bits .or .i64 x3_1 (shl .i64 (wrap64 (Go.bits .and .u8 (bt x1000_1 0) 127)) x4_1)) (wrap64 (x4_1 + 7)) (x1000_1.extract 1 x1000_1.size) s0_1)) else (none)) else (none)) else (none)) = some (r1,r2,r3):=by rw [if_pos rfl] at H;exact H
      clear H
      have H:=H1
      clear H1
      by_cases c6:0 < (x1000_1.size:Int)
      ·rw [if_pos c6] at H
       have c6b0:decide (0 < (x1000_1.size:Int)) = true:=decide_eq_true c6
       have c6b1:decide (0 < x1000_1.size) = true:=decide_eq_true (by omega)
       clear c6
       by_cases c8:1≤(x1000_1.size:Int)
       ·rw [if_pos c8] at H
        have c8b0:=eq_true c8
        have c8b1:decide (1≤(x1000_1.size:Int)) = true:=decide_eq_true c8
        clear c8
        by_cases c9:0≤x4_1
        ·rw [if_pos c9] at H
         have c9b0:=eq_true c9
         have c9b1:decide (0≤x4_1) = true:=decide_eq_true c9
         clear c9
         obtain ⟨ji10,hji10⟩:∃ j_:Int,(shl .i64 (wrap64 (Go.bits .and .u8 (bt x1000_1 0) 127)) x4_1) = j_:=⟨_,rfl⟩
         replace H:(if (bt x1000_1 0) < 128 then (if (bt x1000_1 0) = 0 then (if x4_1 > 0 then (some (0,x1000_1.extract 1 x1000_1.size,true)) else (if (Go.bits .or .i64 x3_1 (ji10)) < 0 then (some (0,x1000_1.extract 1 x1000_1.size,true)) else (some (Go.bits .or .i64 x3_1 (ji10),x1000_1.extract 1 x1000_1.size,s0_1)))) else (if (Go.bits .or .i64 x3_1 (ji10)) < 0 then (some (0,x1000_1.extract 1 x1000_1.size,true)) else (some (Go.bits .or .i64 x3_1 (ji10),x1000_1.extract 1 x1000_1.size,s0_1)))) else (record_reader_short.l0 kj1 (Go.bits .or .i64 x3_1 (ji10)) (wrap64 (x4_1 + 7)) (x1000_1.extract 1 x1000_1.size) s0_1)) = some (r1,r2,r3):=by first|(rw [hji10] at H;exact H)|(simp only [hji10] at H ⊢;exact H)
         have hji10_:(IntKind.i64.wrap ((wrap64 (Go.bits .and .u8 (bt x1000_1 0) 127)) * 2 ^ min x4_1.toNat 64)) = ji10:=hji10
         have hji10z:x4_1≤64→(IntKind.i64.wrap ((wrap64 (Go.bits .and .u8 (bt x1000_1 0) 127)) * 2 ^ x4_1.toNat)) = ji10:=shl_small hji10
         have hji10y:(wrap64 ((wrap64 (Go.bits .and .u8 (bt x1000_1 0) 127)) * 2 ^ min x4_1.toNat 64)) = ji10:=(i64_w _).symm.trans hji10_
         have hji10x:x4_1≤64→(wrap64 ((wrap64 (Go.bits .and .u8 (bt x1000_1 0) 127)) * 2 ^ x4_1.toNat)) = ji10:=fun h_=>(i64_w _).symm.trans (hji10z h_)
         by_cases c11:(bt x1000_1 0) < 128
         ·rw [if_pos c11] at H
          have c11b0:decide ((bt x1000_1 0) < 128) = true:=decide_eq_true c11
          clear c11
          by_cases c12:(bt x1000_1 0) = 0
          ·rw [if_pos c12] at H
           have c12b0:((bt x1000_1 0) == 0) = true:=beq_iff_eq.mpr c12
           have c12b1:((bt x1000_1 0) != 0) = false:=bne_eq_false_iff_eq.mpr c12
           clear c12
           by_cases c13:x4_1 > 0
           ·rw [if_pos c13] at H
            have c13b0:decide (0 < x4_1) = true:=decide_eq_true c13
            clear c13
            simp only [Option.some.injEq,Prod.mk.injEq] at H
            obtain ⟨rfl,rfl,rfl⟩:=H
            obtain ⟨HGz14,hgz14⟩:=HI0.out
            have hcz14_0:=cellS84_0 HGz14
            have hcz14_1:=cellS84_1 HGz14
            have hfz14_0:=blk_frozen HGz14 0
            have hfz14_1:=blk_frozen HGz14 1
            clear HGz14 hgz14
            have p7:0≤(0:Int):=(by omega)
            have q7:0 < x1000_1.size:=(by have:(0:Int) < (x1000_1.size:Int):=da_;omega)
            have hx7:∀ h:0 < x1000_1.size,((x1000_1[0]'h).toNat:Int) = bt x1000_1 0:=bt_at x1000_1 0
            clear p7
            have qi7:(0 < (x1000_1.size:Int)) = True:=eq_true (of_decide_eq_true (by first|(with_reducible assumption)|assumption))
            replace q7:=eq_true q7
            go_wp2
            go_ret
            exact ⟨by first|rfl|(simp [errW_none,errW_some]<;>rfl)|(simp only [← hji10];first|rfl|(simp [errW_none,errW_some]<;>rfl))|(simp [*,errW_none,errW_some]<;>rfl),by repeat (first|(with_reducible first|exact HI0.out|apply IsS84.alloc|apply IsS84.drewN|apply IsS84.drew|apply IsS84.set_0|apply IsS84.set_1)|exact HI0.out),by repeat (first|(with_reducible first|exact HB.out|apply below_alloc|apply pw_below_drewN|apply below_drew1|refine below_set ?_ (IsS84.ge HI0.out))|exact HB.out),kx_⟩
           ·rw [if_neg c13] at H
            have c13b0:decide (0 < x4_1) = false:=decide_eq_false c13
            clear c13
            by_cases c15:(Go.bits .or .i64 x3_1 (ji10)) < 0
            ·rw [if_pos c15] at H
             have c15b0:decide ((Go.bits .or .i64 x3_1 (ji10)) < 0) = true:=decide_eq_true c15
             clear c15
             simp only [Option.some.injEq,Prod.mk.injEq] at H
             obtain ⟨rfl,rfl,rfl⟩:=H
             obtain ⟨HGz16,hgz16⟩:=HI0.out
             have hcz16_0:=cellS84_0 HGz16
             have hcz16_1:=cellS84_1 HGz16
             have hfz16_0:=blk_frozen HGz16 0
             have hfz16_1:=blk_frozen HGz16 1
             clear HGz16 hgz16
             have p7:0≤(0:Int):=(by omega)
             have q7:0 < x1000_1.size:=(by have:(0:Int) < (x1000_1.size:Int):=da_;omega)
             have hx7:∀ h:0 < x1000_1.size,((x1000_1[0]'h).toNat:Int) = bt x1000_1 0:=bt_at x1000_1 0
             clear p7
             have qi7:(0 < (x1000_1.size:Int)) = True:=eq_true (of_decide_eq_true (by first|(with_reducible assumption)|assumption))
             replace q7:=eq_true q7
             go_wp2
             go_ret
             exact ⟨by first|rfl|(simp [errW_none,errW_some]<;>rfl)|(simp only [← hji10];first|rfl|(simp [errW_none,errW_some]<;>rfl))|(simp [*,errW_none,errW_some]<;>rfl),by repeat (first|(with_reducible first|exact HI0.out|apply IsS84.alloc|apply IsS84.drewN|apply IsS84.drew|apply IsS84.set_0|apply IsS84.set_1)|exact HI0.out),by repeat (first|(with_reducible first|exact HB.out|apply below_alloc|apply pw_below_drewN|apply below_drew1|refine below_set ?_ (IsS84.ge HI0.out))|exact HB.out),kx_⟩
            ·rw [if_neg c15] at H
             have c15b0:decide ((Go.bits .or .i64 x3_1 (ji10)) < 0) = false:=decide_eq_false c15
             clear c15
             simp only [Option.some.injEq,Prod.mk.injEq] at H
             obtain ⟨rfl,rfl,rfl⟩:=H
             obtain ⟨HGz17,hgz17⟩:=HI0.out
             have hcz17_0:=cellS84_0 HGz17
             have hcz17_1:=cellS84_1 HGz17
             have hfz17_0:=blk_frozen HGz17 0
             have hfz17_1:=blk_frozen HGz17 1
             clear HGz17 hgz17
             have p7:0≤(0:Int):=(by omega)
             have q7:0 < x1000_1.size:=(by have:(0:Int) < (x1000_1.size:Int):=da_;omega)
             have hx7:∀ h:0 < x1000_1.size,((x1000_1[0]'h).toNat:Int) = bt x1000_1 0:=bt_at x1000_1 0
             clear p7
             have qi7:(0 < (x1000_1.size:Int)) = True:=eq_true (of_decide_eq_true (by first|(with_reducible assumption)|assumption))
             replace q7:=eq_true q7
             go_wp2
             go_ret
             exact ⟨by first|rfl|(simp [errW_none,errW_some]<;>rfl)|(simp only [← hji10];first|rfl|(simp [errW_none,errW_some]<;>rfl))|(simp [*,errW_none,errW_some]<;>rfl),by repeat (first|(with_reducible first|exact HI0.out|apply IsS84.alloc|apply IsS84.drewN|apply IsS84.drew|apply IsS84.set_0|apply IsS84.set_1)|exact HI0.out),by repeat (first|(with_reducible first|exact HB.out|apply below_alloc|apply pw_below_drewN|apply below_drew1|refine below_set ?_ (IsS84.ge HI0.out))|exact HB.out),kx_⟩
          ·rw [if_neg c12] at H
           have c12b0:((bt x1000_1 0) == 0) = false:=beq_eq_false_iff_ne.mpr c12
           have c12b1:((bt x1000_1 0) != 0) = true:=bne_iff_ne.mpr c12
           by_cases c18:(Go.bits .or .i64 x3_1 (ji10)) < 0
           ·rw [if_pos c18] at H
            have c18b0:decide ((Go.bits .or .i64 x3_1 (ji10)) < 0) = true:=decide_eq_true c18
            clear c18
            simp only [Option.some.injEq,Prod.mk.injEq] at H
            obtain ⟨rfl,rfl,rfl⟩:=H
            obtain ⟨HGz19,hgz19⟩:=HI0.out
            have hcz19_0:=cellS84_0 HGz19
            have hcz19_1:=cellS84_1 HGz19
            have hfz19_0:=blk_frozen HGz19 0
            have hfz19_1:=blk_frozen HGz19 1
            clear HGz19 hgz19
            have p7:0≤(0:Int):=(by omega)
            have q7:0 < x1000_1.size:=(by have:(0:Int) < (x1000_1.size:Int):=da_;omega)
            have hx7:∀ h:0 < x1000_1.size,((x1000_1[0]'h).toNat:Int) = bt x1000_1 0:=bt_at x1000_1 0
            clear p7
            have qi7:(0 < (x1000_1.size:Int)) = True:=eq_true (of_decide_eq_true (by first|(with_reducible assumption)|assumption))
            replace q7:=eq_true q7
            go_wp2
            go_ret
            exact ⟨by first|rfl|(simp [errW_none,errW_some]<;>rfl)|(simp only [← hji10];first|rfl|(simp [errW_none,errW_some]<;>rfl))|(simp [*,errW_none,errW_some]<;>rfl),by repeat (first|(with_reducible first|exact HI0.out|apply IsS84.alloc|apply IsS84.drewN|apply IsS84.drew|apply IsS84.set_0|apply IsS84.set_1)|exact HI0.out),by repeat (first|(with_reducible first|exact HB.out|apply below_alloc|apply pw_below_drewN|apply below_drew1|refine below_set ?_ (IsS84.ge HI0.out))|exact HB.out),kx_⟩
           ·rw [if_neg c18] at H
            have c18b0:decide ((Go.bits .or .i64 x3_1 (ji10)) < 0) = false:=decide_eq_false c18
            clear c18
            simp only [Option.some.injEq,Prod.mk.injEq] at H
            obtain ⟨rfl,rfl,rfl⟩:=H
            obtain ⟨HGz20,hgz20⟩:=HI0.out
            have hcz20_0:=cellS84_0 HGz20
            have hcz20_1:=cellS84_1 HGz20
            have hfz20_0:=blk_frozen HGz20 0
            have hfz20_1:=blk_frozen HGz20 1
            clear HGz20 hgz20
            have p7:0≤(0:Int):=(by omega)
            have q7:0 < x1000_1.size:=(by have:(0:Int) < (x1000_1.size:Int):=da_;omega)
            have hx7:∀ h:0 < x1000_1.size,((x1000_1[0]'h).toNat:Int) = bt x1000_1 0:=bt_at x1000_1 0
            clear p7
            have qi7:(0 < (x1000_1.size:Int)) = True:=eq_true (of_decide_eq_true (by first|(with_reducible assumption)|assumption))
            replace q7:=eq_true q7
            go_wp2
            go_ret
            exact ⟨by first|rfl|(simp [errW_none,errW_some]<;>rfl)|(simp only [← hji10];first|rfl|(simp [errW_none,errW_some]<;>rfl))|(simp [*,errW_none,errW_some]<;>rfl),by repeat (first|(with_reducible first|exact HI0.out|apply IsS84.alloc|apply IsS84.drewN|apply IsS84.drew|apply IsS84.set_0|apply IsS84.set_1)|exact HI0.out),by repeat (first|(with_reducible first|exact HB.out|apply below_alloc|apply pw_below_drewN|apply below_drew1|refine below_set ?_ (IsS84.ge HI0.out))|exact HB.out),kx_⟩
         ·rw [if_neg c11] at H
          have c11b0:decide ((bt x1000_1 0) < 128) = false:=decide_eq_false c11
          clear c11
          have H':=Aside0.mk H
          clear H
          obtain ⟨HGz21,hgz21⟩:=HI0.out
          have hcz21_0:=cellS84_0 HGz21
          have hcz21_1:=cellS84_1 HGz21
          have hfz21_0:=blk_frozen HGz21 0
          have hfz21_1:=blk_frozen HGz21 1
          clear HGz21 hgz21
          have p7:0≤(0:Int):=(by omega)
          have q7:0 < x1000_1.size:=(by have:(0:Int) < (x1000_1.size:Int):=da_;omega)
          have hx7:∀ h:0 < x1000_1.size,((x1000_1[0]'h).toNat:Int) = bt x1000_1 0:=bt_at x1000_1 0
          clear p7
          have qi7:(0 < (x1000_1.size:Int)) = True:=eq_true (of_decide_eq_true (by first|(with_reducible assumption)|assumption))
          replace q7:=eq_true q7
          go_wp2
          go_roundg kj1
          case measure=>have:=HK1.out;have:=HJ1.out;omega
          case rel=>exact ⟨(Go.bits .or .i64 x3_1 (ji10)),(wrap64 (x4_1 + 7)),(x1000_1.extract 1 x1000_1.size),(by first|rfl|(simp;done)|(simp only [← hji10]<;>(first|rfl|simp))|(simp [*];done)),rg_,H',⟨by have:=HK1.out;have:=HJ1.out;omega⟩,⟨by repeat (first|(with_reducible first|exact HI0.out|apply IsS84.alloc|apply IsS84.drewN|apply IsS84.drew|apply IsS84.set_0|apply IsS84.set_1)|exact HI0.out)⟩,⟨kx_⟩,⟨by repeat (first|(with_reducible first|exact HB.out|apply below_alloc|apply pw_below_drewN|apply below_drew1|refine below_set ?_ (IsS84.ge HI0.out))|exact HB.out)⟩⟩
        ·rw [if_neg c9] at H
         exact absurd H sm_
       ·rw [if_neg c8] at H
        exact absurd H sm_
      ·rw [if_neg c6] at H
       exact absurd H sm_
     ·replace c5:=Bool.eq_false_iff.mpr c5
      subst c5
      have H1:(some (0,x1000_1,true)) = some (r1,r2,r3):=by rw [if_neg (show ¬ (false = true) by decide)] at H;exact H
      clear H
      have H:=H1
      clear H1
      simp only [Option.some.injEq,Prod.mk.injEq] at H
      obtain ⟨rfl,rfl,rfl⟩:=H
      obtain ⟨HGz22,hgz22⟩:=HI0.out
      have hcz22_0:=cellS84_0 HGz22
      have hcz22_1:=cellS84_1 HGz22
      have hfz22_0:=blk_frozen HGz22 0
      have hfz22_1:=blk_frozen HGz22 1
      clear HGz22 hgz22
      go_wp2
      go_ret
      exact ⟨rf_,by repeat (first|(with_reducible first|exact HI0.out|apply IsS84.alloc|apply IsS84.drewN|apply IsS84.drew|apply IsS84.set_0|apply IsS84.set_1)|exact HI0.out),by repeat (first|(with_reducible first|exact HB.out|apply below_alloc|apply pw_below_drewN|apply below_drew1|refine below_set ?_ (IsS84.ge HI0.out))|exact HB.out),kx_⟩
end Go.Proofs.YtcmbggahndfnnaaGreatDoor.Pr
namespace Go.Proofs.YtcmbggahndfnnaaGreatDoor.Pr
open Go.RowKit Go.Proofs.YtcmbggahndfnnaaGreatDoorW.PrintWords Go.Proofs.YtcmbggahndfnnaaGreatDoorW.PrintLast Go.Proofs.YtcmbggahndfnnaaGreatDoorW.PrintMore
attribute [local go_sem] max2_int min2_int max_two min_two max_three min_three max_four min_four
set_option maxHeartbeats 8000000
set_option maxRecDepth 100000
set_option linter.unusedVariables false
set_option linter.unusedSimpArgs false
def record_reader_count.f (k:Nat) (s0_0:ByteArray) (s0_1:Bool) (a1:Int):Option (Int × ByteArray × Bool):=(record_reader_short.f k s0_0 s0_1).bind fun bt249=>(if bt249.1 > a1 then (some (0,bt249.2.1,true)) else (some (bt249.1,bt249.2.1,bt249.2.2)))
theorem record_reader_count.mono:∀ a0 a1 a2 k,LeO (record_reader_count.f k a0 a1 a2) (record_reader_count.f (k + 1) a0 a1 a2):=by intro a0 a1 a2 k;unfold record_reader_count.f;have:=@record_reader_short.mono;exact mn_
theorem record_reader_count.calls (k:Nat) (g:Nat) (s0_0:ByteArray) (s0_1:Bool) (a1:Int) (r1:Int) (r2:ByteArray) (r3:Bool) (w0 w:World) (hI:IsS84 w0 w g s0_0 s0_1) (hB:Below w0.heap.size w0 w) (h:record_reader_count.f k s0_0 s0_1 a1 = some (r1,r2,r3)) :
  Calls Tryz.prog 55 #[.pointer (some ⟨g,0,none⟩),.int .i64 a1] w fun e w'=>e = .returned (.int .i64 r1)∧IsS84 w0 w' g r2 r3∧Below w0.heap.size w0 w'∧KeepBut w w' g none:=by
 have HI0:=Aside0.mk hI
 have HK:=Aside0.mk (KeepBut.refl w g none)
 have HL:=Aside0.mk hB.size
 clear hI
 have HW0:=Aside0.mk hB.size
 have HB:=Aside0.mk hB
 clear hB
 have H:=h;clear h;unfold record_reader_count.f at H
 obtain ⟨⟨t249,t250,t251⟩,A3,H⟩:=bn_ H
 dsimp only at H
 by_cases c4:t249 > a1
 ·rw [if_pos c4] at H
  have c4b0:decide (a1 < t249) = true:=decide_eq_true c4
  clear c4
  simp only [Option.some.injEq,Prod.mk.injEq] at H
  obtain ⟨rfl,rfl,rfl⟩:=H
  go_enter Tryz.func55,Tryz.ntmps55
  go_wp2_with (first|((with_reducible refine gate_callee (f:=54) rfl ?_);refine gm_ (some 7) Tryz.func54 #[.pointer (some ⟨g,0,none⟩)] ?_;(with_reducible refine (record_reader_short.calls k g s0_0 s0_1 t249 t250 t251 w0 _ ?side1 ?side2 A3.out).mono ?_);(case side1=>repeat (first|(with_reducible first|exact HI0.out|apply IsS84.alloc|apply IsS84.drewN|apply IsS84.drew|apply IsS84.set_0|apply IsS84.set_1)|exact HI0.out));(case side2=>repeat (first|(with_reducible first|exact HB.out|apply below_alloc|apply pw_below_drewN|apply below_drew1|refine below_set ?_ (IsS84.ge HI0.out))|exact HB.out));rintro e w5 ⟨rfl,hi,hb,hk⟩;refine ⟨_,rfl,?_⟩;replace HK:=Aside0.mk (KeepBut.trans (kx_) hk (.inl rfl));replace HI0:=Aside0.mk hi;replace HB:=Aside0.mk hb;(try clear hb);(try clear hk);(try clear hi);obtain ⟨HGz6,hgz6⟩:=HI0.out;have hcz6_0:=cellS84_0 HGz6;have hcz6_1:=cellS84_1 HGz6;have hfz6_0:=blk_frozen HGz6 0;have hfz6_1:=blk_frozen HGz6 1;clear HGz6 hgz6))
  go_ret
  exact ⟨rf_,by repeat (first|(with_reducible first|exact HI0.out|apply IsS84.alloc|apply IsS84.drewN|apply IsS84.drew|apply IsS84.set_0|apply IsS84.set_1)|exact HI0.out),by repeat (first|(with_reducible first|exact HB.out|apply below_alloc|apply pw_below_drewN|apply below_drew1|refine below_set ?_ (IsS84.ge HI0.out))|exact HB.out),kx_⟩
 ·rw [if_neg c4] at H
  have c4b0:decide (a1 < t249) = false:=decide_eq_false c4
  clear c4
  simp only [Option.some.injEq,Prod.mk.injEq] at H
  obtain ⟨rfl,rfl,rfl⟩:=H
  go_enter Tryz.func55,Tryz.ntmps55
  go_wp2_with (first|((with_reducible refine gate_callee (f:=54) rfl ?_);refine gm_ (some 7) Tryz.func54 #[.pointer (some ⟨g,0,none⟩)] ?_;(with_reducible refine (record_reader_short.calls k g s0_0 s0_1 t249 t250 t251 w0 _ ?side1 ?side2 A3.out).mono ?_);(case side1=>repeat (first|(with_reducible first|exact HI0.out|apply IsS84.alloc|apply IsS84.drewN|apply IsS84.drew|apply IsS84.set_0|apply IsS84.set_1)|exact HI0.out));(case side2=>repeat (first|(with_reducible first|exact HB.out|apply below_alloc|apply pw_below_drewN|apply below_drew1|refine below_set ?_ (IsS84.ge HI0.out))|exact HB.out));rintro e w7 ⟨rfl,hi,hb,hk⟩;refine ⟨_,rfl,?_⟩;replace HK:=Aside0.mk (KeepBut.trans (kx_) hk (.inl rfl));replace HI0:=Aside0.mk hi;replace HB:=Aside0.mk hb;(try clear hb);(try clear hk);(try clear hi)))
  go_ret
  exact ⟨rf_,by repeat (first|(with_reducible first|exact HI0.out|apply IsS84.alloc|apply IsS84.drewN|apply IsS84.drew|apply IsS84.set_0|apply IsS84.set_1)|exact HI0.out),by repeat (first|(with_reducible first|exact HB.out|apply below_alloc|apply pw_below_drewN|apply below_drew1|refine below_set ?_ (IsS84.ge HI0.out))|exact HB.out),kx_⟩
end Go.Proofs.YtcmbggahndfnnaaGreatDoor.Pr
namespace Go.Proofs.YtcmbggahndfnnaaGreatDoor.Pr
open Go.RowKit Go.Proofs.YtcmbggahndfnnaaGreatDoorW.PrintWords Go.Proofs.YtcmbggahndfnnaaGreatDoorW.PrintLast Go.Proofs.YtcmbggahndfnnaaGreatDoorW.PrintMore
attribute [local go_sem] max2_int min2_int max_two min_two max_three min_three max_four min_four
set_option maxHeartbeats 8000000
set_option maxRecDepth 100000
set_option linter.unusedVariables false
set_option linter.unusedSimpArgs false
def record_reader_bytes.f (k:Nat) (s0_0:ByteArray) (s0_1:Bool):Option (ByteArray × ByteArray × Bool):=(record_reader_short.f k s0_0 s0_1).bind fun bt252=>(if bt252.2.2 = true then (some ((⟨#[]⟩:ByteArray),bt252.2.1,true)) else (if bt252.1 > (bt252.2.1.size:Int) then (some ((⟨#[]⟩:ByteArray),bt252.2.1,true)) else (if 0≤bt252.1 then (if bt252.1≤(bt252.2.1.size:Int) then (some (bt252.2.1.extract 0 (bt252.1:Int).toNat,bt252.2.1.extract (bt252.1:Int).toNat bt252.2.1.size,bt252.2.2)) else (none)) else (none))))
theorem record_reader_bytes.mono:∀ a0 a1 k,LeO (record_reader_bytes.f k a0 a1) (record_reader_bytes.f (k + 1) a0 a1):=by intro a0 a1 k;unfold record_reader_bytes.f;have:=@record_reader_short.mono;exact mn_
theorem record_reader_bytes.calls (k:Nat) (g:Nat) (s0_0:ByteArray) (s0_1:Bool) (r1:ByteArray) (r2:ByteArray) (r3:Bool) (w0 w:World) (hI:IsS84 w0 w g s0_0 s0_1) (hB:Below w0.heap.size w0 w) (h:record_reader_bytes.f k s0_0 s0_1 = some (r1,r2,r3)) :
  Calls Tryz.prog 56 #[.pointer (some ⟨g,0,none⟩)] w fun e w'=>e = .returned (.string r1)∧IsS84 w0 w' g r2 r3∧Below w0.heap.size w0 w'∧KeepBut w w' g none:=by
 have HI0:=Aside0.mk hI
 have HK:=Aside0.mk (KeepBut.refl w g none)
 have HL:=Aside0.mk hB.size
 clear hI
 have HW0:=Aside0.mk hB.size
 have HB:=Aside0.mk hB
 clear hB
 have H:=h;clear h;unfold record_reader_bytes.f at H
 obtain ⟨⟨t252,t253,t254⟩,A2,H⟩:=bn_ H
 dsimp only at H
 by_cases c3:t254 = true
 ·subst c3
  have H1:(some ((⟨#[]⟩:ByteArray),t253,true)) = some (r1,r2,r3):=by rw [if_pos rfl] at H;exact H
  clear H
  have H:=H1
  clear H1
  simp only [Option.some.injEq,Prod.mk.injEq] at H
  obtain ⟨rfl,rfl,rfl⟩:=H
  go_enter Tryz.func56,Tryz.ntmps56
  go_wp2_with (first|((with_reducible refine gate_callee (f:=54) rfl ?_);refine gm_ (some 6) Tryz.func54 #[.pointer (some ⟨g,0,none⟩)] ?_;(with_reducible refine (record_reader_short.calls k g s0_0 s0_1 t252 t253 true w0 _ ?side1 ?side2 A2.out).mono ?_);(case side1=>repeat (first|(with_reducible first|exact HI0.out|apply IsS84.alloc|apply IsS84.drewN|apply IsS84.drew|apply IsS84.set_0|apply IsS84.set_1)|exact HI0.out));(case side2=>repeat (first|(with_reducible first|exact HB.out|apply below_alloc|apply pw_below_drewN|apply below_drew1|refine below_set ?_ (IsS84.ge HI0.out))|exact HB.out));rintro e w4 ⟨rfl,hi,hb,hk⟩;refine ⟨_,rfl,?_⟩;replace HK:=Aside0.mk (KeepBut.trans (kx_) hk (.inl rfl));replace HI0:=Aside0.mk hi;replace HB:=Aside0.mk hb;(try clear hb);(try clear hk);(try clear hi);obtain ⟨HGz5,hgz5⟩:=HI0.out;have hcz5_0:=cellS84_0 HGz5;have hcz5_1:=cellS84_1 HGz5;have hfz5_0:=blk_frozen HGz5 0;have hfz5_1:=blk_frozen HGz5 1;clear HGz5 hgz5))
  go_ret
  exact ⟨rf_,by repeat (first|(with_reducible first|exact HI0.out|apply IsS84.alloc|apply IsS84.drewN|apply IsS84.drew|apply IsS84.set_0|apply IsS84.set_1)|exact HI0.out),by repeat (first|(with_reducible first|exact HB.out|apply below_alloc|apply pw_below_drewN|apply below_drew1|refine below_set ?_ (IsS84.ge HI0.out))|exact HB.out),kx_⟩
 ·replace c3:=Bool.eq_false_iff.mpr c3
  subst c3
  have H1:(if t252 > (t253.size:Int) then (some ((⟨#[]⟩:ByteArray),t253,true)) else (if 0≤t252 then (if t252≤(t253.size:Int) then (some (t253.extract 0 (t252:Int).toNat,t253.extract (t252:Int).toNat t253.size,false)) else (none)) else (none))) = some (r1,r2,r3):=by rw [if_neg (show ¬ (false = true) by decide)] at H;exact H
  clear H
  have H:=H1
  clear H1
  by_cases c6:t252 > (t253.size:Int)
  ·rw [if_pos c6] at H
   have c6b0:decide ((t253.size:Int) < t252) = true:=decide_eq_true c6
   clear c6
   simp only [Option.some.injEq,Prod.mk.injEq] at H
   obtain ⟨rfl,rfl,rfl⟩:=H
   go_enter Tryz.func56,Tryz.ntmps56
   go_wp2_with (first|((with_reducible refine gate_callee (f:=54) rfl ?_);refine gm_ (some 6) Tryz.func54 #[.pointer (some ⟨g,0,none⟩)] ?_;(with_reducible refine (record_reader_short.calls k g s0_0 s0_1 t252 t253 false w0 _ ?side1 ?side2 A2.out).mono ?_);(case side1=>repeat (first|(with_reducible first|exact HI0.out|apply IsS84.alloc|apply IsS84.drewN|apply IsS84.drew|apply IsS84.set_0|apply IsS84.set_1)|exact HI0.out));(case side2=>repeat (first|(with_reducible first|exact HB.out|apply below_alloc|apply pw_below_drewN|apply below_drew1|refine below_set ?_ (IsS84.ge HI0.out))|exact HB.out));rintro e w7 ⟨rfl,hi,hb,hk⟩;refine ⟨_,rfl,?_⟩;replace HK:=Aside0.mk (KeepBut.trans (kx_) hk (.inl rfl));replace HI0:=Aside0.mk hi;replace HB:=Aside0.mk hb;(try clear hb);(try clear hk);(try clear hi);obtain ⟨HGz8,hgz8⟩:=HI0.out;have hcz8_0:=cellS84_0 HGz8;have hcz8_1:=cellS84_1 HGz8;have hfz8_0:=blk_frozen HGz8 0;have hfz8_1:=blk_frozen HGz8 1;clear HGz8 hgz8))
   go_ret
   exact ⟨rf_,by repeat (first|(with_reducible first|exact HI0.out|apply IsS84.alloc|apply IsS84.drewN|apply IsS84.drew|apply IsS84.set_0|apply IsS84.set_1)|exact HI0.out),by repeat (first|(with_reducible first|exact HB.out|apply below_alloc|apply pw_below_drewN|apply below_drew1|refine below_set ?_ (IsS84.ge HI0.out))|exact HB.out),kx_⟩
  ·rw [if_neg c6] at H
   have c6b0:decide ((t253.size:Int) < t252) = false:=decide_eq_false c6
   clear c6
   by_cases c9:0≤t252
   ·rw [if_pos c9] at H
    have c9b0:=eq_true c9
    have c9b1:decide (0≤t252) = true:=decide_eq_true c9
    clear c9
    by_cases c10:t252≤(t253.size:Int)
    ·rw [if_pos c10] at H
     have c10b0:=eq_true c10
     have c10b1:decide (t252≤(t253.size:Int)) = true:=decide_eq_true c10
     clear c10
     have c11b0:=eq_true (of_decide_eq_true (by first|(with_reducible assumption)|assumption):0≤t252)
     have c12b0:=eq_true (of_decide_eq_true (by first|(with_reducible assumption)|assumption):t252≤(t253.size:Int))
     simp only [Option.some.injEq,Prod.mk.injEq] at H
     obtain ⟨rfl,rfl,rfl⟩:=H
     go_enter Tryz.func56,Tryz.ntmps56
     go_wp2_with (first|((with_reducible refine gate_callee (f:=54) rfl ?_);refine gm_ (some 6) Tryz.func54 #[.pointer (some ⟨g,0,none⟩)] ?_;(with_reducible refine (record_reader_short.calls k g s0_0 s0_1 t252 t253 false w0 _ ?side1 ?side2 A2.out).mono ?_);(case side1=>repeat (first|(with_reducible first|exact HI0.out|apply IsS84.alloc|apply IsS84.drewN|apply IsS84.drew|apply IsS84.set_0|apply IsS84.set_1)|exact HI0.out));(case side2=>repeat (first|(with_reducible first|exact HB.out|apply below_alloc|apply pw_below_drewN|apply below_drew1|refine below_set ?_ (IsS84.ge HI0.out))|exact HB.out));rintro e w13 ⟨rfl,hi,hb,hk⟩;refine ⟨_,rfl,?_⟩;replace HK:=Aside0.mk (KeepBut.trans (kx_) hk (.inl rfl));replace HI0:=Aside0.mk hi;replace HB:=Aside0.mk hb;(try clear hb);(try clear hk);(try clear hi);obtain ⟨HGz14,hgz14⟩:=HI0.out;have hcz14_0:=cellS84_0 HGz14;have hcz14_1:=cellS84_1 HGz14;have hfz14_0:=blk_frozen HGz14 0;have hfz14_1:=blk_frozen HGz14 1;clear HGz14 hgz14))
     go_ret
     exact ⟨rf_,by repeat (first|(with_reducible first|exact HI0.out|apply IsS84.alloc|apply IsS84.drewN|apply IsS84.drew|apply IsS84.set_0|apply IsS84.set_1)|exact HI0.out),by repeat (first|(with_reducible first|exact HB.out|apply below_alloc|apply pw_below_drewN|apply below_drew1|refine below_set ?_ (IsS84.ge HI0.out))|exact HB.out),kx_⟩
    ·rw [if_neg c10] at H
     exact absurd H sm_
   ·rw [if_neg c9] at H
    exact absurd H sm_
end Go.Proofs.YtcmbggahndfnnaaGreatDoor.Pr
namespace Go.Proofs.YtcmbggahndfnnaaGreatDoor.Pr
set_option linter.unusedVariables false
set_option linter.unusedSimpArgs false
open Go.RowKit Go.Proofs.YtcmbggahndfnnaaGreatDoorW.PrintWords Go.Proofs.YtcmbggahndfnnaaGreatDoorW.PrintLast Go.Proofs.YtcmbggahndfnnaaGreatDoorW.PrintMore
def abi_NoEscape.f (a:ByteArray):Option (ByteArray × Bool):=some (a,false)
theorem nr_ {P:Program} {ops:Array Oper} {rest:List Oper} {o:Oper} {a:Act} {Q:Exit→Act→World→Prop} {w W:World} {s t1:ByteArray} {t2:Bool} {N:Tmp} (A:Aside0 (abi_NoEscape.f s = some (t1,t2)))
  (h:∀ g w1,IsS84 w w1 g t1 t2→Below w.heap.size w w1→Below W.heap.size W w1→wpList P ops Q rest (a.put o.dst (.pointer (some ⟨g,0,none⟩))) w1)
  (hd:o.dst = some N:=by rfl) (hgd:o.guard = none:=by rfl)
  (hrun:(execOp a.eval o).run P W = .ok (.value (.pointer (some ⟨W.heap.size,0,none⟩))) (W.alloc (.cells #[.string s,.bool false] 84 (0,0))):=by first|(go_simp;done)|(go_simp;rfl))
  (hb:Below w.heap.size w W:=by repeat (first|(with_reducible first|exact Aside0.out (by assumption)|apply below_alloc|apply pw_below_drewN|apply below_drew1|refine below_set ?_ (Aside0.out (by assumption)))|exact Aside0.out (by assumption))):wpList P ops Q (o :: rest) a W:=by
 obtain ⟨rfl,rfl⟩:=Prod.mk.inj (Option.some.inj A.out)
 exact box_event hgd hd hrun fun g hg w1 hbox k=>h g w1 ⟨hbox,by rw [hg];exact below_size hb⟩ (below_step hb k) k
end Go.Proofs.YtcmbggahndfnnaaGreatDoor.Pr
namespace Go.Proofs.YtcmbggahndfnnaaGreatDoor.Pr
open Go.RowKit Go.Proofs.YtcmbggahndfnnaaGreatDoorW.PrintWords Go.Proofs.YtcmbggahndfnnaaGreatDoorW.PrintLast Go.Proofs.YtcmbggahndfnnaaGreatDoorW.PrintMore
attribute [local go_sem] max2_int min2_int max_two min_two max_three min_three max_four min_four
set_option maxHeartbeats 8000000
set_option maxRecDepth 100000
set_option linter.unusedVariables false
set_option linter.unusedSimpArgs false
mutual
def record_Decode.l0:Nat→ByteArray→Int→Int→ByteArray→Bool→Int→Int→Int→List Int→Option (Int × Int × Int × List Int × List ByteArray × List ByteArray × Int)
 | 0,_,_,_,_,_,_,_,_,_=>none
 | k + 1,x0,x20,x21,x259000,x259001,x269000,x269001,x269002,x269003=>if x21 < x20 then ((record_reader_short.f k x259000 x259001).bind fun bt272=>(if (Go.bits .and .i64 bt272.1 1) = 1 then (if x269003.length < 17592186044416 then (record_Decode.l0 k x0 x20 (wrap64 (x21 + 1)) bt272.2.1 bt272.2.2 x269000 x269001 x269002 (x269003 ++ [wrap64 (Int.tdiv (wrap64 ((wrap64 (-bt272.1)) - 1)) 2)])) else (none)) else (if x269003.length < 17592186044416 then (record_Decode.l0 k x0 x20 (wrap64 (x21 + 1)) bt272.2.1 bt272.2.2 x269000 x269001 x269002 (x269003 ++ [wrap64 (Int.tdiv bt272.1 2)])) else (none)))) else ((record_reader_count.f k x259000 x259001 64).bind fun bt281=>(record_Decode.l1 k x0 bt281.1 0 bt281.2.1 bt281.2.2 x269000 x269001 x269002 x269003 ([]:List ByteArray)))
def record_Decode.l1:Nat→ByteArray→Int→Int→ByteArray→Bool→Int→Int→Int→List Int→List ByteArray→Option (Int × Int × Int × List Int × List ByteArray × List ByteArray × Int)
 | 0,_,_,_,_,_,_,_,_,_,_=>none
 | k + 1,x0,x40,x41,x259000,x259001,x269000,x269001,x269002,x269003,x269004=>if x41 < x40 then ((record_reader_bytes.f k x259000 x259001).bind fun bt284=>(if x269004.length < 8796093022208 then (record_Decode.l1 k x0 x40 (wrap64 (x41 + 1)) bt284.2.1 bt284.2.2 x269000 x269001 x269002 x269003 (x269004 ++ [bt284.1])) else (none))) else ((record_reader_count.f k x259000 x259001 16).bind fun bt290=>(record_Decode.l2 k x0 bt290.1 0 bt290.2.1 bt290.2.2 x269000 x269001 x269002 x269003 x269004 ([]:List ByteArray)))
def record_Decode.l2:Nat→ByteArray→Int→Int→ByteArray→Bool→Int→Int→Int→List Int→List ByteArray→List ByteArray→Option (Int × Int × Int × List Int × List ByteArray × List ByteArray × Int)
 | 0,_,_,_,_,_,_,_,_,_,_,_=>none
 | k + 1,x0,x52,x53,x259000,x259001,x269000,x269001,x269002,x269003,x269004,x269005=>if x53 < x52 then ((record_reader_bytes.f k x259000 x259001).bind fun bt293=>(if x269005.length < 8796093022208 then (record_Decode.l2 k x0 x52 (wrap64 (x53 + 1)) bt293.2.1 bt293.2.2 x269000 x269001 x269002 x269003 x269004 (x269005 ++ [bt293.1])) else (none))) else ((record_Encode.f k x269000 x269001 x269002 x269003 x269004 x269005).bind fun bt299=>(if x259001 = true then (some (0,0,0,([]:List Int),([]:List ByteArray),([]:List ByteArray),13)) else (if x259000.toList = ([]:List UInt8) then (if bt299.2 = 0 then (if bt299.1.toList = x0.toList then (some (x269000,x269001,x269002,x269003,x269004,x269005,0)) else (some (0,0,0,([]:List Int),([]:List ByteArray),([]:List ByteArray),13))) else (some (0,0,0,([]:List Int),([]:List ByteArray),([]:List ByteArray),13))) else (some (0,0,0,([]:List Int),([]:List ByteArray),([]:List ByteArray),13)))))
end
def record_Decode.f (k:Nat) (a0:ByteArray):Option (Int × Int × Int × List Int × List ByteArray × List ByteArray × Int):=(abi_NoEscape.f a0).bind fun bt256=>((record_reader_short.f k bt256.1 bt256.2).bind fun bt259=>((record_reader_short.f k bt259.2.1 bt259.2.2).bind fun bt262=>((record_reader_short.f k bt262.2.1 bt262.2.2).bind fun bt265=>((record_reader_count.f k bt265.2.1 bt265.2.2 64).bind fun bt269=>(record_Decode.l0 k a0 bt269.1 0 bt269.2.1 bt269.2.2 bt259.1 bt262.1 bt265.1 ([]:List Int))))))
theorem record_Decode.mono_l:∀ k,(∀ y0 y1 y2 y3 y4 y5 y6 y7 y8,LeO (record_Decode.l0 k y0 y1 y2 y3 y4 y5 y6 y7 y8) (record_Decode.l0 (k + 1) y0 y1 y2 y3 y4 y5 y6 y7 y8))∧(∀ y0 y1 y2 y3 y4 y5 y6 y7 y8 y9,LeO (record_Decode.l1 k y0 y1 y2 y3 y4 y5 y6 y7 y8 y9) (record_Decode.l1 (k + 1) y0 y1 y2 y3 y4 y5 y6 y7 y8 y9))∧(∀ y0 y1 y2 y3 y4 y5 y6 y7 y8 y9 y10,LeO (record_Decode.l2 k y0 y1 y2 y3 y4 y5 y6 y7 y8 y9 y10) (record_Decode.l2 (k + 1) y0 y1 y2 y3 y4 y5 y6 y7 y8 y9 y10))
 | 0=>⟨fun _ _ _ _ _ _ _ _ _ r h=>by simp [record_Decode.l0] at h,fun _ _ _ _ _ _ _ _ _ _ r h=>by simp [record_Decode.l1] at h,fun _ _ _ _ _ _ _ _ _ _ _ r h=>by simp [record_Decode.l2] at h⟩
 | k + 1=>by
  obtain ⟨ih0,ih1,ih2⟩:=record_Decode.mono_l k
  refine ⟨?_,?_,?_⟩
  ·intro y0 y1 y2 y3 y4 y5 y6 y7 y8
   unfold record_Decode.l0
   repeat' first
   | (with_reducible exact ih0 _ _ _ _ _ _ _ _ _)
   | (with_reducible exact ih1 _ _ _ _ _ _ _ _ _ _)
   | (with_reducible exact ih2 _ _ _ _ _ _ _ _ _ _ _)
   | (with_reducible exact record_Encode.mono _ _ _ _ _ _ _)
   | (with_reducible exact record_reader_bytes.mono _ _ _)
   | (with_reducible exact record_reader_count.mono _ _ _ _)
   | (with_reducible exact record_reader_short.mono _ _ _)
   | (with_reducible exact LeO.refl _)
   | (with_reducible exact LeO.none _)
   | (with_reducible refine LeO.ite ?_ ?_)
   | (with_reducible refine LeO.bind ?_ (fun _=>?_))
   | exact ih0 _ _ _ _ _ _ _ _ _
   | exact ih1 _ _ _ _ _ _ _ _ _ _
   | exact ih2 _ _ _ _ _ _ _ _ _ _ _
   | exact record_Encode.mono _ _ _ _ _ _ _
   | exact record_reader_bytes.mono _ _ _
   | exact record_reader_count.mono _ _ _ _
   | exact record_reader_short.mono _ _ _
   | exact LeO.none _
   | refine LeO.ite ?_ ?_
   | refine LeO.bind ?_ (fun _=>?_)
  ·intro y0 y1 y2 y3 y4 y5 y6 y7 y8 y9
   unfold record_Decode.l1
   repeat' first
   | (with_reducible exact ih0 _ _ _ _ _ _ _ _ _)
   | (with_reducible exact ih1 _ _ _ _ _ _ _ _ _ _)
   | (with_reducible exact ih2 _ _ _ _ _ _ _ _ _ _ _)
   | (with_reducible exact record_Encode.mono _ _ _ _ _ _ _)
   | (with_reducible exact record_reader_bytes.mono _ _ _)
   | (with_reducible exact record_reader_count.mono _ _ _ _)
   | (with_reducible exact record_reader_short.mono _ _ _)
   | (with_reducible exact LeO.refl _)
   | (with_reducible exact LeO.none _)
   | (with_reducible refine LeO.ite ?_ ?_)
   | (with_reducible refine LeO.bind ?_ (fun _=>?_))
   | exact ih0 _ _ _ _ _ _ _ _ _
   | exact ih1 _ _ _ _ _ _ _ _ _ _
   | exact ih2 _ _ _ _ _ _ _ _ _ _ _
   | exact record_Encode.mono _ _ _ _ _ _ _
   | exact record_reader_bytes.mono _ _ _
   | exact record_reader_count.mono _ _ _ _
   | exact record_reader_short.mono _ _ _
   | exact LeO.none _
   | refine LeO.ite ?_ ?_
   | refine LeO.bind ?_ (fun _=>?_)
  ·intro y0 y1 y2 y3 y4 y5 y6 y7 y8 y9 y10
   unfold record_Decode.l2
   repeat' first
   | (with_reducible exact ih0 _ _ _ _ _ _ _ _ _)
   | (with_reducible exact ih1 _ _ _ _ _ _ _ _ _ _)
   | (with_reducible exact ih2 _ _ _ _ _ _ _ _ _ _ _)
   | (with_reducible exact record_Encode.mono _ _ _ _ _ _ _)
   | (with_reducible exact record_reader_bytes.mono _ _ _)
   | (with_reducible exact record_reader_count.mono _ _ _ _)
   | (with_reducible exact record_reader_short.mono _ _ _)
   | (with_reducible exact LeO.refl _)
   | (with_reducible exact LeO.none _)
   | (with_reducible refine LeO.ite ?_ ?_)
   | (with_reducible refine LeO.bind ?_ (fun _=>?_))
   | exact ih0 _ _ _ _ _ _ _ _ _
   | exact ih1 _ _ _ _ _ _ _ _ _ _
   | exact ih2 _ _ _ _ _ _ _ _ _ _ _
   | exact record_Encode.mono _ _ _ _ _ _ _
   | exact record_reader_bytes.mono _ _ _
   | exact record_reader_count.mono _ _ _ _
   | exact record_reader_short.mono _ _ _
   | exact LeO.none _
   | refine LeO.ite ?_ ?_
   | refine LeO.bind ?_ (fun _=>?_)
theorem record_Decode.mono:∀ a0 k,LeO (record_Decode.f k a0) (record_Decode.f (k + 1) a0):=by
 intro a0 k
 obtain ⟨ih0,ih1,ih2⟩:=record_Decode.mono_l k
 unfold record_Decode.f
 repeat' first
   | (with_reducible exact ih0 _ _ _ _ _ _ _ _ _)
   | (with_reducible exact ih1 _ _ _ _ _ _ _ _ _ _)
   | (with_reducible exact ih2 _ _ _ _ _ _ _ _ _ _ _)
   | (with_reducible exact record_Encode.mono _ _ _ _ _ _ _)
   | (with_reducible exact record_reader_bytes.mono _ _ _)
   | (with_reducible exact record_reader_count.mono _ _ _ _)
   | (with_reducible exact record_reader_short.mono _ _ _)
   | (with_reducible exact LeO.refl _)
   | (with_reducible exact LeO.none _)
   | (with_reducible refine LeO.ite ?_ ?_)
   | (with_reducible refine LeO.bind ?_ (fun _=>?_))
   | exact ih0 _ _ _ _ _ _ _ _ _
   | exact ih1 _ _ _ _ _ _ _ _ _ _
   | exact ih2 _ _ _ _ _ _ _ _ _ _ _
   | exact record_Encode.mono _ _ _ _ _ _ _
   | exact record_reader_bytes.mono _ _ _
   | exact record_reader_count.mono _ _ _ _
   | exact record_reader_short.mono _ _ _
   | exact LeO.none _
   | refine LeO.ite ?_ ?_
   | refine LeO.bind ?_ (fun _=>?_)
def record_Decode.T12:Bool × List (List Nat × List Nat):=(true,[([],[]),([0],[0]),([],[]),([2],[2]),([3],[3]),([1,4,3],[1,4]),([0,1,2,3,4,5],[]),([6,5,5,0,1,2,3,4,5],[5,6])])
def record_Decode.B12:List Nat:=[0,1,0,4,12,31,63,127]
theorem record_Decode.tab12:rtab .any (opsOf Tryz.f15 12) = record_Decode.T12:=by kernel_rfl
theorem record_Decode.bits12:waitsOk record_Decode.T12.2 record_Decode.B12 = true:=by kernel_rfl
def record_Decode.T16:Bool × List (List Nat × List Nat):=(true,[([],[]),([0],[0]),([],[]),([2],[2]),([3],[3]),([1,4,3],[1,4]),([0,1,2,3,4,5],[]),([6,5,5,0,1,2,3,4,5],[5,6])])
def record_Decode.B16:List Nat:=[0,1,0,4,12,31,63,127]
theorem record_Decode.tab16:rtab .any (opsOf Tryz.f15 16) = record_Decode.T16:=by kernel_rfl
theorem record_Decode.bits16:waitsOk record_Decode.T16.2 record_Decode.B16 = true:=by kernel_rfl
theorem record_Decode.calls (k:Nat) (a0:ByteArray) (r1:Int) (r2:Int) (r3:Int) (r4:List Int) (r5:List ByteArray) (r6:List ByteArray) (r7:Int) (w:World) (hL:LaidW w) (h:record_Decode.f k a0 = some (r1,r2,r3,r4,r5,r6,r7)) :
  Calls Tryz.prog 15 #[.string a0] w fun e w'=>∃ v3_ v4_ v5_:Value,e = .returned (.tuple #[.agg #[.int .i64 r1,.int .i64 r2,.int .i64 r3,v3_,v4_,v5_],.int .i64 r7])∧Kd.R (Kd.int .i64) 3 w' w.heap.size (fun _=>True) v3_ r4∧Kd.R Kd.string 65 w' w.heap.size (fun _=>True) v4_ r5∧Kd.R Kd.string 9 w' w.heap.size (fun _=>True) v5_ r6∧Below w.heap.size w w':=by
 have hu26:=Tryz.underlying26
 have HB:=Aside0.mk (Below.refl w.heap.size w)
 have HLW:=Aside0.mk hL
 clear hL
 have H:=h;clear h;unfold record_Decode.f at H
 obtain ⟨⟨t256,t257⟩,A2,H⟩:=bn_ H
 dsimp only at H
 obtain ⟨⟨t259,t260,t261⟩,A3,H⟩:=bn_ H
 dsimp only at H
 obtain ⟨⟨t262,t263,t264⟩,A4,H⟩:=bn_ H
 dsimp only at H
 obtain ⟨⟨t265,t266,t267⟩,A5,H⟩:=bn_ H
 dsimp only at H
 obtain ⟨⟨t269,t270,t271⟩,A6,H⟩:=bn_ H
 dsimp only at H
 have H':=Aside0.mk H
 clear H
 go_enter Tryz.func15,Tryz.ntmps15
 go_wp2_with (first|((with_reducible refine gate_dst (N:=2) rfl ?_);refine bv_ #[.int .i64 0,.int .i64 0,.int .i64 0,.slice none 0 0,.slice none 0 0,.slice none 0 0] 26 ?_;clear HB;intro gb255 hg w7 BK255 GE255 hb HB;clear hb hg)|((with_reducible refine gate_dst (N:=11) rfl ?_);refine nr_ A2 ?_;intro g258 w8 hi hb hb2;have HI258:=Aside0.mk hi;have NB258_255:=Aside0.mk (IsS84.ne_blk hi (blk_below (g:=gb255) (o:=.cells #[.int .i64 0,.int .i64 0,.int .i64 0,.slice none 0 0,.slice none 0 0,.slice none 0 0] 26 (0,0)) bk_ hb2) de_);have NB255_258:=Aside0.mk (Ne.symm (IsS84.ne_blk hi (blk_below (g:=gb255) (o:=.cells #[.int .i64 0,.int .i64 0,.int .i64 0,.slice none 0 0,.slice none 0 0,.slice none 0 0] 26 (0,0)) bk_ hb2) de_));replace BK255:=Aside0.mk (blk_below (g:=gb255) (o:=.cells #[.int .i64 0,.int .i64 0,.int .i64 0,.slice none 0 0,.slice none 0 0,.slice none 0 0] 26 (0,0)) bk_ hb2);replace HB:=Aside0.mk hb;(try clear hb);(try clear hb2);(try clear hi))|((with_reducible refine gate_callee (f:=54) rfl ?_);refine gm_ (some 13) Tryz.func54 #[.pointer (some ⟨g258,0,none⟩)] ?_;(with_reducible refine (record_reader_short.calls k g258 t256 t257 t259 t260 t261 w _ ?side1 ?side2 A3.out).mono ?_);(case side1=>repeat (first|(with_reducible first|exact HI258.out|apply IsS84.alloc|apply IsS84.drewN|apply IsS84.drew|apply IsS84.set_0|apply IsS84.set_1|refine IsS84.far ?_ NB258_255.out _)|exact HI258.out));(case side2=>repeat (first|(with_reducible first|exact HB.out|apply below_alloc|apply pw_below_drewN|apply below_drew1|refine below_set ?_ (IsS84.ge HI258.out)|refine below_set ?_ GE255.out)|exact HB.out));rintro e w9 ⟨rfl,hi,hb,hk⟩;refine ⟨_,rfl,?_⟩;replace BK255:=Aside0.mk (KeepBut.blk hk (g':=gb255) (o:=.cells #[.int .i64 0,.int .i64 0,.int .i64 0,.slice none 0 0,.slice none 0 0,.slice none 0 0] 26 (0,0)) bk_ NB255_258.out sm_);replace HI258:=Aside0.mk hi;replace HB:=Aside0.mk hb;(try clear hb);(try clear hk);(try clear hi))|((with_reducible refine gate_callee (f:=54) rfl ?_);refine gm_ (some 15) Tryz.func54 #[.pointer (some ⟨g258,0,none⟩)] ?_;(with_reducible refine (record_reader_short.calls k g258 t260 t261 t262 t263 t264 w _ ?side1 ?side2 A4.out).mono ?_);(case side1=>repeat (first|(with_reducible first|exact HI258.out|apply IsS84.alloc|apply IsS84.drewN|apply IsS84.drew|apply IsS84.set_0|apply IsS84.set_1|refine IsS84.far ?_ NB258_255.out _)|exact HI258.out));(case side2=>repeat (first|(with_reducible first|exact HB.out|apply below_alloc|apply pw_below_drewN|apply below_drew1|refine below_set ?_ (IsS84.ge HI258.out)|refine below_set ?_ GE255.out)|exact HB.out));rintro e w10 ⟨rfl,hi,hb,hk⟩;refine ⟨_,rfl,?_⟩;replace BK255:=Aside0.mk (KeepBut.blk hk (g':=gb255) (o:=.cells #[.int .i64 0,.int .i64 0,.int .i64 0,.slice none 0 0,.slice none 0 0,.slice none 0 0] 26 (0,0)) bk_ NB255_258.out sm_);replace HI258:=Aside0.mk hi;replace HB:=Aside0.mk hb;(try clear hb);(try clear hk);(try clear hi))|((with_reducible refine gate_callee (f:=54) rfl ?_);refine gm_ (some 17) Tryz.func54 #[.pointer (some ⟨g258,0,none⟩)] ?_;(with_reducible refine (record_reader_short.calls k g258 t263 t264 t265 t266 t267 w _ ?side1 ?side2 A5.out).mono ?_);(case side1=>repeat (first|(with_reducible first|exact HI258.out|apply IsS84.alloc|apply IsS84.drewN|apply IsS84.drew|apply IsS84.set_0|apply IsS84.set_1|refine IsS84.far ?_ NB258_255.out _)|exact HI258.out));(case side2=>repeat (first|(with_reducible first|exact HB.out|apply below_alloc|apply pw_below_drewN|apply below_drew1|refine below_set ?_ (IsS84.ge HI258.out)|refine below_set ?_ GE255.out)|exact HB.out));rintro e w11 ⟨rfl,hi,hb,hk⟩;refine ⟨_,rfl,?_⟩;replace BK255:=Aside0.mk (KeepBut.blk hk (g':=gb255) (o:=.cells #[.int .i64 0,.int .i64 0,.int .i64 0,.slice none 0 0,.slice none 0 0,.slice none 0 0] 26 (0,0)) bk_ NB255_258.out sm_);replace HI258:=Aside0.mk hi;replace HB:=Aside0.mk hb;(try clear hb);(try clear hk);(try clear hi))|((with_reducible refine gate_dst (N:=5) rfl ?_);refine box_event ?hg (N:=5) ?hd (cs:=#[.int .i64 0,.int .i64 0,.int .i64 0,.slice none 0 0,.slice none 0 0,.slice none 0 0]) (t:=26) ?hr ?_;(case hd=>rfl);(case hg=>rfl);(case hr=>first|(go_simp;done)|(go_simp;rfl));intro gb268 hg w12 hbox hb;have BK268:=Aside0.mk hbox;have GE268:=Aside0.mk ((by rw [hg];exact (below_size (by repeat (first|(with_reducible first|exact HB.out|apply below_alloc|apply pw_below_drewN|apply below_drew1|refine below_set ?_ (IsS84.ge HI258.out)|refine below_set ?_ GE255.out)|exact HB.out))):w.heap.size≤gb268));have GE268:=Aside0.mk ((by rw [hg];exact (below_size (by repeat (first|(with_reducible first|exact HB.out|apply below_alloc|apply pw_below_drewN|apply below_drew1|refine below_set ?_ (IsS84.ge HI258.out)|refine below_set ?_ GE255.out)|exact HB.out))):w.heap.size≤gb268));have NB255_268:=nl_ BK255 hg;have NB268_255:=ng_ BK255 hg;have NB258_268:=Aside0.mk ((by rw [hg];exact Nat.ne_of_lt (IsS84.lt (show IsS84 w _ g258 t266 t267 from by repeat (first|(with_reducible first|exact HI258.out|apply IsS84.alloc|apply IsS84.drewN|apply IsS84.drew|apply IsS84.set_0|apply IsS84.set_1|refine IsS84.far ?_ NB258_255.out _)|exact HI258.out))):g258≠gb268));have NB268_258:=Aside0.mk ((by rw [hg];exact Nat.ne_of_gt (IsS84.lt (show IsS84 w _ g258 t266 t267 from by repeat (first|(with_reducible first|exact HI258.out|apply IsS84.alloc|apply IsS84.drewN|apply IsS84.drew|apply IsS84.set_0|apply IsS84.set_1|refine IsS84.far ?_ NB258_255.out _)|exact HI258.out))):gb268≠g258));replace BK255:=bb_ BK255 hb;replace HI258:=Aside0.mk (IsS84.below (by repeat (first|(with_reducible first|exact HI258.out|apply IsS84.alloc|apply IsS84.drewN|apply IsS84.drew|apply IsS84.set_0|apply IsS84.set_1|refine IsS84.far ?_ NB258_255.out _)|exact HI258.out)) hb);replace HB:=Aside0.mk (below_step (by repeat (first|(with_reducible first|exact HB.out|apply below_alloc|apply pw_below_drewN|apply below_drew1|refine below_set ?_ (IsS84.ge HI258.out)|refine below_set ?_ GE255.out)|exact HB.out)) hb);clear hb hbox hg;have hnb13:=NB268_255.out;have hnc13:=NB255_268.out;have hnb14:=NB268_258.out;have hnc14:=NB258_268.out;obtain ⟨hcz15_0,hcz15_1,hcz15_2,hcz15_3,hcz15_4,hcz15_5,hfz15_0,hfz15_1,hfz15_2,hfz15_3,hfz15_4,hfz15_5⟩:=c6_ BK268)|((with_reducible refine gate_callee (f:=55) rfl ?_);refine gm_ (some 20) Tryz.func55 #[.pointer (some ⟨g258,0,none⟩),.int .i64 64] ?_;(with_reducible refine (record_reader_count.calls k g258 t266 t267 64 t269 t270 t271 w _ ?side1 ?side2 A6.out).mono ?_);(case side1=>repeat (first|(with_reducible first|exact HI258.out|apply IsS84.alloc|apply IsS84.drewN|apply IsS84.drew|apply IsS84.set_0|apply IsS84.set_1|refine IsS84.far ?_ NB258_255.out _|refine IsS84.far ?_ NB258_268.out _)|exact HI258.out));(case side2=>repeat (first|(with_reducible first|exact HB.out|apply below_alloc|apply pw_below_drewN|apply below_drew1|refine below_set ?_ (IsS84.ge HI258.out)|refine below_set ?_ GE255.out|refine below_set ?_ GE268.out)|exact HB.out));rintro e w16 ⟨rfl,hi,hb,hk⟩;refine ⟨_,rfl,?_⟩;replace BK255:=Aside0.mk (KeepBut.blk hk (g':=gb255) (o:=.cells #[.int .i64 0,.int .i64 0,.int .i64 0,.slice none 0 0,.slice none 0 0,.slice none 0 0] 26 (0,0)) bk_ NB255_258.out sm_);replace BK268:=Aside0.mk (KeepBut.blk hk (g':=gb268) (o:=.cells #[.int .i64 t259,.int .i64 t262,.int .i64 t265,.slice none 0 0,.slice none 0 0,.slice none 0 0] 26 (0,0)) bk_ NB268_258.out sm_);replace HI258:=Aside0.mk hi;replace HB:=Aside0.mk hb;(try clear hb);(try clear hk);(try clear hi)))
 go_loopg [21] k (fun kq v21 w'=>∃ (x21_1:Int) (x259000_1:ByteArray) (x259001_1:Bool) (x269003_1:List Int) (u269003:Value),v21 = .int .i64 x21_1∧Aside0 (record_Decode.l0 kq a0 t269 x21_1 x259000_1 x259001_1 t259 t262 t265 x269003_1 = some (r1,r2,r3,r4,r5,r6,r7))∧Aside0 (kq≤k)∧Aside0 (Kd.R (Kd.int .i64) 3 w' w.heap.size (fun _=>True) u269003 x269003_1)∧Aside0 (w'.heap[gb255]? = some (.cells #[.int .i64 0,.int .i64 0,.int .i64 0,(.slice none 0 0),(.slice none 0 0),(.slice none 0 0)] 26 (0,0)))∧Aside0 (w'.heap[gb268]? = some (.cells #[.int .i64 t259,.int .i64 t262,.int .i64 t265,u269003,(.slice none 0 0),(.slice none 0 0)] 26 (0,0)))∧Aside0 (IsS84 w w' g258 x259000_1 x259001_1)∧Aside0 (Below w.heap.size w w'))
 case atStart=>exact ⟨(0),(t270),(t271),(([]:List Int)),(.slice none 0 0),rg_,H',⟨Nat.le_refl _⟩,⟨by first|exact Kd.R_nil _ _ _ _ _|exact Kd.N_nil _ _ _ _ _|exact Kd.V_nil _ _ _ _ _|exact Kd.Q_nil _ _ _ _ _|exact Kd.S_nil _ _ _ _ _⟩,⟨bk_⟩,⟨bk_⟩,⟨by repeat (first|(with_reducible first|exact HI258.out|apply IsS84.alloc|apply IsS84.drewN|apply IsS84.drew|apply IsS84.set_0|apply IsS84.set_1|refine IsS84.far ?_ NB258_255.out _|refine IsS84.far ?_ NB258_268.out _)|exact HI258.out)⟩,⟨by repeat (first|(with_reducible first|exact HB.out|apply below_alloc|apply pw_below_drewN|apply below_drew1|refine below_set ?_ (IsS84.ge HI258.out)|refine below_set ?_ GE255.out|refine below_set ?_ GE268.out)|exact HB.out)⟩⟩
 case round =>
  clear H'
  try clear hcz15_0
  try clear hcz15_1
  try clear hcz15_2
  try clear hcz15_3
  try clear hcz15_4
  try clear hcz15_5
  try clear hfz15_0
  try clear hfz15_1
  try clear hfz15_2
  try clear hfz15_3
  try clear hfz15_4
  try clear hfz15_5
  obtain ⟨x21_1,x259000_1,x259001_1,x269003_1,u269003,rfl,HA,HK1,HO_269003,BK255,BK268,HI258,HB⟩:=hrel
  cases gk with
  | zero=>exact absurd HA.out (by simp [record_Decode.l0])
  | succ k1 =>
   have H:=HA.out
   clear HA
   simp only [record_Decode.l0] at H
   by_cases c17:x21_1 < t269
   ·rw [if_pos c17] at H
    have c17b0:decide (x21_1 < t269) = true:=decide_eq_true c17
    clear c17
    obtain ⟨⟨t272,t273,t274⟩,A18,H⟩:=bn_ H
    dsimp only at H
    by_cases c19:(Go.bits .and .i64 t272 1) = 1
    ·rw [if_pos c19] at H
     have c19b0:((Go.bits .and .i64 t272 1) == 1) = true:=beq_iff_eq.mpr c19
     have c19b1:((Go.bits .and .i64 t272 1) != 1) = false:=bne_eq_false_iff_eq.mpr c19
     clear c19
     by_cases c20:x269003_1.length < 17592186044416
     ·rw [if_pos c20] at H
      have LMc20:=Aside0.mk c20
      clear c20
      obtain ⟨y275,hy275⟩:∃ y_:List Int,y_ = (x269003_1 ++ [wrap64 (Int.tdiv (wrap64 ((wrap64 (-t272)) - 1)) 2)]):=⟨_,rfl⟩
      replace H:(record_Decode.l0 k1 a0 t269 (wrap64 (x21_1 + 1)) t273 t274 t259 t262 t265 y275) = some (r1,r2,r3,r4,r5,r6,r7):=by first|(rw [hy275];with_reducible exact H)|(have H2_:=(Option.bind_some _ _).symm.trans H;rw [hy275];with_reducible exact H2_)|(have H2_:=(Option.bind_some _ _).symm.trans H;with_reducible exact H2_)|with_reducible exact H|(rw [hy275];exact H)|exact H
      have Ny275:=Aside0.mk hy275
      clear hy275
      have H':=Aside0.mk H
      clear H
      go_wp2_with (first|((with_reducible refine gate_callee (f:=54) rfl ?_);refine gm_ (some 24) Tryz.func54 #[.pointer (some ⟨g258,0,none⟩)] ?_;(with_reducible refine (record_reader_short.calls k1 g258 x259000_1 x259001_1 t272 t273 t274 w _ ?side1 ?side2 A18.out).mono ?_);(case side1=>repeat (first|(with_reducible first|exact HI258.out|apply IsS84.alloc|apply IsS84.drewN|apply IsS84.drew|apply IsS84.set_0|apply IsS84.set_1|refine IsS84.far ?_ NB258_255.out _|refine IsS84.far ?_ NB258_268.out _)|exact HI258.out));(case side2=>repeat (first|(with_reducible first|exact HB.out|apply below_alloc|apply pw_below_drewN|apply below_drew1|refine below_set ?_ (IsS84.ge HI258.out)|refine below_set ?_ GE255.out|refine below_set ?_ GE268.out)|exact HB.out));rintro e w21 ⟨rfl,hi,hb,hk⟩;refine ⟨_,rfl,?_⟩;replace HO_269003:=Aside0.mk (Kd.R_mono (Kd.R_keep (IsS84.apart (show IsS84 w _ g258 x259000_1 x259001_1 from by repeat (first|(with_reducible first|exact HI258.out|apply IsS84.alloc|apply IsS84.drewN|apply IsS84.drew|apply IsS84.set_0|apply IsS84.set_1|refine IsS84.far ?_ NB258_255.out _|refine IsS84.far ?_ NB258_268.out _)|exact HI258.out)) (by (with_reducible repeat (first|apply Kd.R_alloc|apply Kd.R_drewN|apply Kd.R_drew));exact HO_269003.out) de_) hk (fun _ h=>h.2)) (fun _ h=>h.1));replace BK255:=Aside0.mk (KeepBut.blk hk (g':=gb255) (o:=.cells #[.int .i64 0,.int .i64 0,.int .i64 0,.slice none 0 0,.slice none 0 0,.slice none 0 0] 26 (0,0)) bk_ NB255_258.out sm_);replace BK268:=Aside0.mk (KeepBut.blk hk (g':=gb268) (o:=.cells #[.int .i64 t259,.int .i64 t262,.int .i64 t265,u269003,.slice none 0 0,.slice none 0 0] 26 (0,0)) bk_ NB268_258.out sm_);replace HI258:=Aside0.mk hi;replace HB:=Aside0.mk hb;(try clear hb);(try clear hk);(try clear hi);have hnb22:=NB268_255.out;have hnc22:=NB255_268.out;have hnb23:=NB268_258.out;have hnc23:=NB258_268.out;obtain ⟨hcz24_0,hcz24_1,hcz24_2,hcz24_3,hcz24_4,hcz24_5,hfz24_0,hfz24_1,hfz24_2,hfz24_3,hfz24_4,hfz24_5⟩:=c6_ BK268)|((with_reducible refine gate_builtin (b:=.append) (xs:=#[.tmp 32,.tmp 35]) rfl ?_);at_builtin;refine Kd.R_append (Kd.int .i64) (w0:=w) w.heap.size rfl (.tmp 32) (.tmp 35) 22 3 (.int .i64 0) 8 rfl Tryz.underlying22 info3 rfl de_ (by omega) u269003 x269003_1 (wrap64 (Int.tdiv (wrap64 ((wrap64 (-t272)) - 1)) 2)) [.int .i64 (wrap64 (Int.tdiv (wrap64 ((wrap64 (-t272)) - 1)) 2))] (fun _=>True) (fun _=>False) rfl rfl ?aP (fun _ hk=>hk.elim) ?aF ?aO ?aB ?aS ?aL ?_;(case aP=>exact rfl);(case aB=>exact (by repeat (first|(with_reducible first|exact HB.out|apply below_alloc|apply pw_below_drewN|apply below_drew1|refine below_set ?_ (IsS84.ge HI258.out)|refine below_set ?_ GE255.out|refine below_set ?_ GE268.out)|exact HB.out)));(case aF=>exact (fun _ _=>trivial));(case aO=>exact (by (with_reducible repeat (first|apply Kd.R_alloc|apply Kd.R_drewN|apply Kd.R_drew));exact HO_269003.out));(case aS=>exact (below_size (by repeat (first|(with_reducible first|exact HB.out|apply below_alloc|apply pw_below_drewN|apply below_drew1|refine below_set ?_ (IsS84.ge HI258.out)|refine below_set ?_ GE255.out|refine below_set ?_ GE268.out)|exact HB.out))));(case aL=>have:=LMc20.out;omega);intro v276 w25 ho hb hg hat;rw [← Ny275.out] at ho;have HO277:=Aside0.mk ho;replace BK255:=Aside0.mk (blk_grown (g:=gb255) (o:=.cells #[.int .i64 0,.int .i64 0,.int .i64 0,.slice none 0 0,.slice none 0 0,.slice none 0 0] 26 (0,0)) bk_ hg (Kd.R_ne HO_269003.out BK255.out de_));replace BK268:=Aside0.mk (blk_grown (g:=gb268) (o:=.cells #[.int .i64 t259,.int .i64 t262,.int .i64 t265,u269003,.slice none 0 0,.slice none 0 0] 26 (0,0)) bk_ hg (Kd.R_ne HO_269003.out BK268.out de_));replace HI258:=Aside0.mk (IsS84.grown (by repeat (first|(with_reducible first|exact HI258.out|apply IsS84.alloc|apply IsS84.drewN|apply IsS84.drew|apply IsS84.set_0|apply IsS84.set_1|refine IsS84.far ?_ NB258_255.out _|refine IsS84.far ?_ NB258_268.out _)|exact HI258.out)) hg (IsS84.own_ne HI258.out HO_269003.out de_));replace HB:=Aside0.mk hb;clear HO_269003;clear ho hb hg hat;obtain ⟨Ao26,co26,eo26⟩:=Kd.R_slice HO277.out;subst eo26;obtain ⟨hcz27_0,hcz27_1,hcz27_2,hcz27_3,hcz27_4,hcz27_5,hfz27_0,hfz27_1,hfz27_2,hfz27_3,hfz27_4,hfz27_5⟩:=c6_ BK268))
      go_roundg k1
      case measure=>have:=HK1.out;omega
      case rel=>exact ⟨(wrap64 (x21_1 + 1)),(t273),(t274),(y275),(.slice Ao26 y275.length co26),rg_,H',⟨by have:=HK1.out;omega⟩,⟨by (with_reducible repeat (first|apply Kd.R_alloc|apply Kd.R_drewN|apply Kd.R_drew));exact Kd.R_mono (Kd.R_far (p:=⟨gb268,3,none⟩) (Kd.R_types HO277.out BK268.out de_) (fun _ hk=>hk.2) (.slice Ao26 y275.length co26)) (fun _ hk=>trivial)⟩,⟨bk_⟩,⟨bk_⟩,⟨by repeat (first|(with_reducible first|exact HI258.out|apply IsS84.alloc|apply IsS84.drewN|apply IsS84.drew|apply IsS84.set_0|apply IsS84.set_1|refine IsS84.far ?_ NB258_255.out _|refine IsS84.far ?_ NB258_268.out _)|exact HI258.out)⟩,⟨by repeat (first|(with_reducible first|exact HB.out|apply below_alloc|apply pw_below_drewN|apply below_drew1|refine below_set ?_ (IsS84.ge HI258.out)|refine below_set ?_ GE255.out|refine below_set ?_ GE268.out)|exact HB.out)⟩⟩
     ·rw [if_neg c20] at H
      exact absurd H sm_
    ·rw [if_neg c19] at H
     have c19b0:((Go.bits .and .i64 t272 1) == 1) = false:=beq_eq_false_iff_ne.mpr c19
     have c19b1:((Go.bits .and .i64 t272 1) != 1) = true:=bne_iff_ne.mpr c19
     by_cases c28:x269003_1.length < 17592186044416
     ·rw [if_pos c28] at H
      have LMc28:=Aside0.mk c28
      clear c28
      obtain ⟨y278,hy278⟩:∃ y_:List Int,y_ = (x269003_1 ++ [wrap64 (Int.tdiv t272 2)]):=⟨_,rfl⟩
      replace H:(record_Decode.l0 k1 a0 t269 (wrap64 (x21_1 + 1)) t273 t274 t259 t262 t265 y278) = some (r1,r2,r3,r4,r5,r6,r7):=by first|(rw [hy278];with_reducible exact H)|(have H2_:=(Option.bind_some _ _).symm.trans H;rw [hy278];with_reducible exact H2_)|(have H2_:=(Option.bind_some _ _).symm.trans H;with_reducible exact H2_)|with_reducible exact H|(rw [hy278];exact H)|exact H
      have Ny278:=Aside0.mk hy278
      clear hy278
      have H':=Aside0.mk H
      clear H
      go_wp2_with (first|((with_reducible refine gate_callee (f:=54) rfl ?_);refine gm_ (some 24) Tryz.func54 #[.pointer (some ⟨g258,0,none⟩)] ?_;(with_reducible refine (record_reader_short.calls k1 g258 x259000_1 x259001_1 t272 t273 t274 w _ ?side1 ?side2 A18.out).mono ?_);(case side1=>repeat (first|(with_reducible first|exact HI258.out|apply IsS84.alloc|apply IsS84.drewN|apply IsS84.drew|apply IsS84.set_0|apply IsS84.set_1|refine IsS84.far ?_ NB258_255.out _|refine IsS84.far ?_ NB258_268.out _)|exact HI258.out));(case side2=>repeat (first|(with_reducible first|exact HB.out|apply below_alloc|apply pw_below_drewN|apply below_drew1|refine below_set ?_ (IsS84.ge HI258.out)|refine below_set ?_ GE255.out|refine below_set ?_ GE268.out)|exact HB.out));rintro e w29 ⟨rfl,hi,hb,hk⟩;refine ⟨_,rfl,?_⟩;replace HO_269003:=Aside0.mk (Kd.R_mono (Kd.R_keep (IsS84.apart (show IsS84 w _ g258 x259000_1 x259001_1 from by repeat (first|(with_reducible first|exact HI258.out|apply IsS84.alloc|apply IsS84.drewN|apply IsS84.drew|apply IsS84.set_0|apply IsS84.set_1|refine IsS84.far ?_ NB258_255.out _|refine IsS84.far ?_ NB258_268.out _)|exact HI258.out)) (by (with_reducible repeat (first|apply Kd.R_alloc|apply Kd.R_drewN|apply Kd.R_drew));exact HO_269003.out) de_) hk (fun _ h=>h.2)) (fun _ h=>h.1));replace BK255:=Aside0.mk (KeepBut.blk hk (g':=gb255) (o:=.cells #[.int .i64 0,.int .i64 0,.int .i64 0,.slice none 0 0,.slice none 0 0,.slice none 0 0] 26 (0,0)) bk_ NB255_258.out sm_);replace BK268:=Aside0.mk (KeepBut.blk hk (g':=gb268) (o:=.cells #[.int .i64 t259,.int .i64 t262,.int .i64 t265,u269003,.slice none 0 0,.slice none 0 0] 26 (0,0)) bk_ NB268_258.out sm_);replace HI258:=Aside0.mk hi;replace HB:=Aside0.mk hb;(try clear hb);(try clear hk);(try clear hi);have hnb30:=NB268_255.out;have hnc30:=NB255_268.out;have hnb31:=NB268_258.out;have hnc31:=NB258_268.out;obtain ⟨hcz32_0,hcz32_1,hcz32_2,hcz32_3,hcz32_4,hcz32_5,hfz32_0,hfz32_1,hfz32_2,hfz32_3,hfz32_4,hfz32_5⟩:=c6_ BK268)|((with_reducible refine gate_builtin (b:=.append) (xs:=#[.tmp 32,.tmp 35]) rfl ?_);at_builtin;refine Kd.R_append (Kd.int .i64) (w0:=w) w.heap.size rfl (.tmp 32) (.tmp 35) 22 3 (.int .i64 0) 8 rfl Tryz.underlying22 info3 rfl de_ (by omega) u269003 x269003_1 (wrap64 (Int.tdiv t272 2)) [.int .i64 (wrap64 (Int.tdiv t272 2))] (fun _=>True) (fun _=>False) rfl rfl ?aP (fun _ hk=>hk.elim) ?aF ?aO ?aB ?aS ?aL ?_;(case aP=>exact rfl);(case aB=>exact (by repeat (first|(with_reducible first|exact HB.out|apply below_alloc|apply pw_below_drewN|apply below_drew1|refine below_set ?_ (IsS84.ge HI258.out)|refine below_set ?_ GE255.out|refine below_set ?_ GE268.out)|exact HB.out)));(case aF=>exact (fun _ _=>trivial));(case aO=>exact (by (with_reducible repeat (first|apply Kd.R_alloc|apply Kd.R_drewN|apply Kd.R_drew));exact HO_269003.out));(case aS=>exact (below_size (by repeat (first|(with_reducible first|exact HB.out|apply below_alloc|apply pw_below_drewN|apply below_drew1|refine below_set ?_ (IsS84.ge HI258.out)|refine below_set ?_ GE255.out|refine below_set ?_ GE268.out)|exact HB.out))));(case aL=>have:=LMc28.out;omega);intro v279 w33 ho hb hg hat;rw [← Ny278.out] at ho;have HO280:=Aside0.mk ho;replace BK255:=Aside0.mk (blk_grown (g:=gb255) (o:=.cells #[.int .i64 0,.int .i64 0,.int .i64 0,.slice none 0 0,.slice none 0 0,.slice none 0 0] 26 (0,0)) bk_ hg (Kd.R_ne HO_269003.out BK255.out de_));replace BK268:=Aside0.mk (blk_grown (g:=gb268) (o:=.cells #[.int .i64 t259,.int .i64 t262,.int .i64 t265,u269003,.slice none 0 0,.slice none 0 0] 26 (0,0)) bk_ hg (Kd.R_ne HO_269003.out BK268.out de_));replace HI258:=Aside0.mk (IsS84.grown (by repeat (first|(with_reducible first|exact HI258.out|apply IsS84.alloc|apply IsS84.drewN|apply IsS84.drew|apply IsS84.set_0|apply IsS84.set_1|refine IsS84.far ?_ NB258_255.out _|refine IsS84.far ?_ NB258_268.out _)|exact HI258.out)) hg (IsS84.own_ne HI258.out HO_269003.out de_));replace HB:=Aside0.mk hb;clear HO_269003;clear ho hb hg hat;obtain ⟨Ao34,co34,eo34⟩:=Kd.R_slice HO280.out;subst eo34;obtain ⟨hcz35_0,hcz35_1,hcz35_2,hcz35_3,hcz35_4,hcz35_5,hfz35_0,hfz35_1,hfz35_2,hfz35_3,hfz35_4,hfz35_5⟩:=c6_ BK268))
      go_roundg k1
      case measure=>have:=HK1.out;omega
      case rel=>exact ⟨(wrap64 (x21_1 + 1)),(t273),(t274),(y278),(.slice Ao34 y278.length co34),rg_,H',⟨by have:=HK1.out;omega⟩,⟨by (with_reducible repeat (first|apply Kd.R_alloc|apply Kd.R_drewN|apply Kd.R_drew));exact Kd.R_mono (Kd.R_far (p:=⟨gb268,3,none⟩) (Kd.R_types HO280.out BK268.out de_) (fun _ hk=>hk.2) (.slice Ao34 y278.length co34)) (fun _ hk=>trivial)⟩,⟨bk_⟩,⟨bk_⟩,⟨by repeat (first|(with_reducible first|exact HI258.out|apply IsS84.alloc|apply IsS84.drewN|apply IsS84.drew|apply IsS84.set_0|apply IsS84.set_1|refine IsS84.far ?_ NB258_255.out _|refine IsS84.far ?_ NB258_268.out _)|exact HI258.out)⟩,⟨by repeat (first|(with_reducible first|exact HB.out|apply below_alloc|apply pw_below_drewN|apply below_drew1|refine below_set ?_ (IsS84.ge HI258.out)|refine below_set ?_ GE255.out|refine below_set ?_ GE268.out)|exact HB.out)⟩⟩
     ·rw [if_neg c28] at H
      exact absurd H sm_
   ·rw [if_neg c17] at H
    have c17b0:decide (x21_1 < t269) = false:=decide_eq_false c17
    clear c17
    obtain ⟨⟨t281,t282,t283⟩,A36,H⟩:=bn_ H
    dsimp only at H
    have H':=Aside0.mk H
    clear H
    go_wp2_with (first|((with_reducible refine gate_callee (f:=55) rfl ?_);refine gm_ (some 40) Tryz.func55 #[.pointer (some ⟨g258,0,none⟩),.int .i64 64] ?_;(with_reducible refine (record_reader_count.calls k1 g258 x259000_1 x259001_1 64 t281 t282 t283 w _ ?side1 ?side2 A36.out).mono ?_);(case side1=>repeat (first|(with_reducible first|exact HI258.out|apply IsS84.alloc|apply IsS84.drewN|apply IsS84.drew|apply IsS84.set_0|apply IsS84.set_1|refine IsS84.far ?_ NB258_255.out _|refine IsS84.far ?_ NB258_268.out _)|exact HI258.out));(case side2=>repeat (first|(with_reducible first|exact HB.out|apply below_alloc|apply pw_below_drewN|apply below_drew1|refine below_set ?_ (IsS84.ge HI258.out)|refine below_set ?_ GE255.out|refine below_set ?_ GE268.out)|exact HB.out));rintro e w37 ⟨rfl,hi,hb,hk⟩;refine ⟨_,rfl,?_⟩;replace HO_269003:=Aside0.mk (Kd.R_mono (Kd.R_keep (IsS84.apart (show IsS84 w _ g258 x259000_1 x259001_1 from by repeat (first|(with_reducible first|exact HI258.out|apply IsS84.alloc|apply IsS84.drewN|apply IsS84.drew|apply IsS84.set_0|apply IsS84.set_1|refine IsS84.far ?_ NB258_255.out _|refine IsS84.far ?_ NB258_268.out _)|exact HI258.out)) (by (with_reducible repeat (first|apply Kd.R_alloc|apply Kd.R_drewN|apply Kd.R_drew));exact HO_269003.out) de_) hk (fun _ h=>h.2)) (fun _ h=>h.1));replace BK255:=Aside0.mk (KeepBut.blk hk (g':=gb255) (o:=.cells #[.int .i64 0,.int .i64 0,.int .i64 0,.slice none 0 0,.slice none 0 0,.slice none 0 0] 26 (0,0)) bk_ NB255_258.out sm_);replace BK268:=Aside0.mk (KeepBut.blk hk (g':=gb268) (o:=.cells #[.int .i64 t259,.int .i64 t262,.int .i64 t265,u269003,.slice none 0 0,.slice none 0 0] 26 (0,0)) bk_ NB268_258.out sm_);replace HI258:=Aside0.mk hi;replace HB:=Aside0.mk hb;(try clear hb);(try clear hk);(try clear hi)))
    go_loopg [41] k1 (fun kq v41 w'=>∃ (x41_2:Int) (x259000_2:ByteArray) (x259001_2:Bool) (x269004_2:List ByteArray) (u269004:Value),v41 = .int .i64 x41_2∧Aside0 (record_Decode.l1 kq a0 t281 x41_2 x259000_2 x259001_2 t259 t262 t265 x269003_1 x269004_2 = some (r1,r2,r3,r4,r5,r6,r7))∧Aside0 (kq≤k1)∧Aside0 (Kd.R (Kd.int .i64) 3 w' w.heap.size (fun _=>True) u269003 x269003_1)∧Aside0 (Kd.R Kd.string 65 w' w.heap.size (fun _=>True) u269004 x269004_2)∧Aside0 (w'.heap[gb255]? = some (.cells #[.int .i64 0,.int .i64 0,.int .i64 0,(.slice none 0 0),(.slice none 0 0),(.slice none 0 0)] 26 (0,0)))∧Aside0 (w'.heap[gb268]? = some (.cells #[.int .i64 t259,.int .i64 t262,.int .i64 t265,u269003,u269004,(.slice none 0 0)] 26 (0,0)))∧Aside0 (IsS84 w w' g258 x259000_2 x259001_2)∧Aside0 (Below w.heap.size w w'))
    case atStart=>exact ⟨(0),(t282),(t283),(([]:List ByteArray)),(.slice none 0 0),rg_,H',⟨Nat.le_refl _⟩,⟨by (with_reducible repeat (first|apply Kd.R_alloc|apply Kd.R_drewN|apply Kd.R_drew));exact HO_269003.out⟩,⟨by first|exact Kd.R_nil _ _ _ _ _|exact Kd.N_nil _ _ _ _ _|exact Kd.V_nil _ _ _ _ _|exact Kd.Q_nil _ _ _ _ _|exact Kd.S_nil _ _ _ _ _⟩,⟨bk_⟩,⟨bk_⟩,⟨by repeat (first|(with_reducible first|exact HI258.out|apply IsS84.alloc|apply IsS84.drewN|apply IsS84.drew|apply IsS84.set_0|apply IsS84.set_1|refine IsS84.far ?_ NB258_255.out _|refine IsS84.far ?_ NB258_268.out _)|exact HI258.out)⟩,⟨by repeat (first|(with_reducible first|exact HB.out|apply below_alloc|apply pw_below_drewN|apply below_drew1|refine below_set ?_ (IsS84.ge HI258.out)|refine below_set ?_ GE255.out|refine below_set ?_ GE268.out)|exact HB.out)⟩⟩
    case round =>
     clear H'
     try clear c17
     try clear c17b0
     try clear hcz15_0
     try clear hcz15_1
     try clear hcz15_2
     try clear hcz15_3
     try clear hcz15_4
     try clear hcz15_5
     try clear hfz15_0
     try clear hfz15_1
     try clear hfz15_2
     try clear hfz15_3
     try clear hfz15_4
     try clear hfz15_5
     obtain ⟨x41_2,x259000_2,x259001_2,x269004_2,u269004,rfl,HA,HK2,HO_269003,HO_269004,BK255,BK268,HI258,HB⟩:=hrel
     cases gk with
     | zero=>exact absurd HA.out (by simp [record_Decode.l1])
     | succ k2 =>
      have H:=HA.out
      clear HA
      simp only [record_Decode.l1] at H
      by_cases c38:x41_2 < t281
      ·rw [if_pos c38] at H
       have c38b0:decide (x41_2 < t281) = true:=decide_eq_true c38
       clear c38
       obtain ⟨⟨t284,t285,t286⟩,A39,H⟩:=bn_ H
       dsimp only at H
       by_cases c40:x269004_2.length < 8796093022208
       ·rw [if_pos c40] at H
        have LMc40:=Aside0.mk c40
        clear c40
        obtain ⟨y287,hy287⟩:∃ y_:List ByteArray,y_ = (x269004_2 ++ [t284]):=⟨_,rfl⟩
        replace H:(record_Decode.l1 k2 a0 t281 (wrap64 (x41_2 + 1)) t285 t286 t259 t262 t265 x269003_1 y287) = some (r1,r2,r3,r4,r5,r6,r7):=by first|(rw [hy287];with_reducible exact H)|(have H2_:=(Option.bind_some _ _).symm.trans H;rw [hy287];with_reducible exact H2_)|(have H2_:=(Option.bind_some _ _).symm.trans H;with_reducible exact H2_)|with_reducible exact H|(rw [hy287];exact H)|exact H
        have Ny287:=Aside0.mk hy287
        clear hy287
        have H':=Aside0.mk H
        clear H
        try go_wp2
        replace HO_269003:=Aside0.mk (Kd.R_drew HO_269003.out)
        replace HO_269004:=Aside0.mk (Kd.R_drew HO_269004.out)
        replace BK255:=dr_ BK255
        replace BK268:=dr_ BK268
        replace HI258:=Aside0.mk (IsS84.drew HI258.out)
        replace HB:=db_ HB
        refine start_ (n:=8) (S:=fun w'=>w'.cell? ⟨gb268,0,none⟩ = some (.int .i64 t259)∧w'.cell? ⟨gb268,1,none⟩ = some (.int .i64 t262)∧w'.cell? ⟨gb268,2,none⟩ = some (.int .i64 t265)∧w'.cell? ⟨gb268,3,none⟩ = some (u269003)∧w'.cell? ⟨gb268,4,none⟩ = some (u269004)∧w'.cell? ⟨gb268,5,none⟩ = some (.slice none 0 0)) (ds:=[7]) #[false,false,false,false,false,false,false,false] kr_ rfl rfl hc_ (fun hHeld=>?_);refine with_tabW record_Decode.tab12 record_Decode.bits12 (fun HT_ HW_=>?_)
        generalize wr.drew = w41 at HO_269003 HO_269004 BK255 BK268 HI258 HB hHeld ⊢
        refine pu_ 0 (some 43) #[true,false,false,false,false,false,false,false] ?_
        refine pu_ 2 (some 45) #[true,false,true,false,false,false,false,false] ?_
        refine tk_ 1 (some 44) #[true,true,true,false,false,false,false,false] hHeld ?_
        refine oc_ 3 (some 46) #[true,true,true,true,false,false,false,false] Tryz.func56 #[.pointer (some ⟨g258,0,none⟩)] (fun K hK=>?_)
        with_reducible refine (record_reader_bytes.calls k2 g258 x259000_2 x259001_2 t284 t285 t286 w _ ?side1 ?side2 A39.out).mono ?_
        (case side1=>repeat (first|(with_reducible first|exact HI258.out|apply IsS84.alloc|apply IsS84.drewN|apply IsS84.drew|apply IsS84.set_0|apply IsS84.set_1|refine IsS84.far ?_ NB258_255.out _|refine IsS84.far ?_ NB258_268.out _)|exact HI258.out))
        (case side2=>repeat (first|(with_reducible first|exact HB.out|apply below_alloc|apply pw_below_drewN|apply below_drew1|refine below_set ?_ (IsS84.ge HI258.out)|refine below_set ?_ GE255.out|refine below_set ?_ GE268.out)|exact HB.out))
        rintro e w42 ⟨rfl,hi,hb,hk⟩
        refine ⟨_,rfl,?_⟩
        replace HO_269003:=Aside0.mk (Kd.R_mono (Kd.R_keep (IsS84.apart (show IsS84 w _ g258 x259000_2 x259001_2 from by repeat (first|(with_reducible first|exact HI258.out|apply IsS84.alloc|apply IsS84.drewN|apply IsS84.drew|apply IsS84.set_0|apply IsS84.set_1|refine IsS84.far ?_ NB258_255.out _|refine IsS84.far ?_ NB258_268.out _)|exact HI258.out)) (by (with_reducible repeat (first|apply Kd.R_alloc|apply Kd.R_drewN|apply Kd.R_drew));exact HO_269003.out) de_) hk (fun _ h=>h.2)) (fun _ h=>h.1))
        replace HO_269004:=Aside0.mk (Kd.R_mono (Kd.R_keep (IsS84.apart (show IsS84 w _ g258 x259000_2 x259001_2 from by repeat (first|(with_reducible first|exact HI258.out|apply IsS84.alloc|apply IsS84.drewN|apply IsS84.drew|apply IsS84.set_0|apply IsS84.set_1|refine IsS84.far ?_ NB258_255.out _|refine IsS84.far ?_ NB258_268.out _)|exact HI258.out)) (by (with_reducible repeat (first|apply Kd.R_alloc|apply Kd.R_drewN|apply Kd.R_drew));exact HO_269004.out) de_) hk (fun _ h=>h.2)) (fun _ h=>h.1))
        replace BK255:=Aside0.mk (KeepBut.blk hk (g':=gb255) (o:=.cells #[.int .i64 0,.int .i64 0,.int .i64 0,.slice none 0 0,.slice none 0 0,.slice none 0 0] 26 (0,0)) bk_ NB255_258.out sm_)
        replace BK268:=Aside0.mk (KeepBut.blk hk (g':=gb268) (o:=.cells #[.int .i64 t259,.int .i64 t262,.int .i64 t265,u269003,u269004,.slice none 0 0] 26 (0,0)) bk_ NB268_258.out sm_)
        replace HI258:=Aside0.mk hi
        replace HB:=Aside0.mk hb
        (try clear hb)
        (try clear hk)
        (try clear hi)
        refine hk_ hK (fun hHeld=>?_);clear hK K
        refine one_ (i:=4) (N:=some 47) #[true,true,true,true,true,false,false,false] rfl rfl (one_of HT_.out kr_) de_ (fun K hK=>?_)
        refine value_ (w1:=?_) (v:=?_) (by rfl) rfl ?_ ?_
        rotate_left 2
        ·go_simp
         constructor
         ·rfl
         ·rfl
        refine hK.out _ _ ⟨(blk_cell (blk_alloc BK268.out _) 0).trans rfl,(blk_cell (blk_alloc BK268.out _) 1).trans rfl,(blk_cell (blk_alloc BK268.out _) 2).trans rfl,(blk_cell (blk_alloc BK268.out _) 3).trans rfl,(blk_cell (blk_alloc BK268.out _) 4).trans rfl,(blk_cell (blk_alloc BK268.out _) 5).trans rfl⟩ (fun hHeld=>?_)
        clear hK K
        refine norm_ (a':=?_) ?_ ?_
        rotate_left
        ·show Act.put _ (some 47) _ = _
         simp only [Act.put,List.setIfInBounds_toArray,List.set_cons_zero,List.set_cons_succ,i64_w,i32_w]
         rfl
        refine one_ (i:=5) (N:=some 48) #[true,true,true,true,true,true,false,false] rfl rfl (one_of HT_.out kr_) de_ (fun K hK=>?_)
        refine Kd.R_append_step Kd.string (w0:=w) w.heap.size (by rfl) (.tmp 44) (.tmp 47) 23 65 (.string ⟨#[]⟩) 16 rfl Tryz.underlying23 info65 rfl de_ (by omega) u269004 x269004_2 t284 [.string t284] (fun _=>True) (fun _=>False) rfl rfl ?aP (fun _ hk=>hk.elim) ?aF ?aO ?aB ?aS ?aL ?_
        (case aP=>exact rfl)
        (case aB=>exact (by repeat (first|(with_reducible first|exact HB.out|apply below_alloc|apply pw_below_drewN|apply below_drew1|refine below_set ?_ (IsS84.ge HI258.out)|refine below_set ?_ GE255.out|refine below_set ?_ GE268.out)|exact HB.out)))
        (case aF=>exact (fun _ _=>trivial))
        (case aO=>exact (by (with_reducible repeat (first|apply Kd.R_alloc|apply Kd.R_drewN|apply Kd.R_drew));exact HO_269004.out))
        (case aS=>exact (below_size (by repeat (first|(with_reducible first|exact HB.out|apply below_alloc|apply pw_below_drewN|apply below_drew1|refine below_set ?_ (IsS84.ge HI258.out)|refine below_set ?_ GE255.out|refine below_set ?_ GE268.out)|exact HB.out))))
        (case aL=>have:=LMc40.out;omega)
        intro v288 w43 ho hb hg hat
        rw [← Ny287.out] at ho
        have HO289:=Aside0.mk ho
        replace HO_269003:=Aside0.mk (Kd.R_over' (by (with_reducible repeat (first|apply Kd.R_alloc|apply Kd.R_drewN|apply Kd.R_drew));exact HO_269003.out) (Kd.R_typed (by (with_reducible repeat (first|apply Kd.R_alloc|apply Kd.R_drewN|apply Kd.R_drew));exact HO_269004.out)) de_ hg)
        replace BK255:=Aside0.mk (blk_grown (g:=gb255) (o:=.cells #[.int .i64 0,.int .i64 0,.int .i64 0,.slice none 0 0,.slice none 0 0,.slice none 0 0] 26 (0,0)) bk_ hg (Kd.R_ne HO_269004.out BK255.out de_))
        replace BK268:=Aside0.mk (blk_grown (g:=gb268) (o:=.cells #[.int .i64 t259,.int .i64 t262,.int .i64 t265,u269003,u269004,.slice none 0 0] 26 (0,0)) bk_ hg (Kd.R_ne HO_269004.out BK268.out de_))
        replace HI258:=Aside0.mk (IsS84.grown (by repeat (first|(with_reducible first|exact HI258.out|apply IsS84.alloc|apply IsS84.drewN|apply IsS84.drew|apply IsS84.set_0|apply IsS84.set_1|refine IsS84.far ?_ NB258_255.out _|refine IsS84.far ?_ NB258_268.out _)|exact HI258.out)) hg (IsS84.own_ne HI258.out HO_269004.out de_))
        replace HB:=Aside0.mk hb
        clear HO_269004
        clear ho hb hg hat
        obtain ⟨Ao44,co44,eo44⟩:=Kd.R_slice HO289.out
        (first|subst eo44|(injection eo44 with f1_ f2_ f3_;have f4_:=f1_.symm;have f5_:=f3_.symm;clear f1_ f2_ f3_;subst f4_;subst f5_))
        refine hk_ hK (fun hHeld=>?_);clear hK K
        refine pu_ 6 (some 49) #[true,true,true,true,true,true,true,false] ?_
        refine last_ (i:=7) (N:=none) #[true,true,true,true,true,true,true,true] rfl rfl (one_of HT_.out kr_) de_ (fun K hK=>?_)
        have hs45:w43.cell? ⟨gb268,4,none⟩ = some (u269004):=(blk_cell BK268.out 4).trans rfl
        have hfs45:=blk_frozen BK268.out 4
        have hns45_0:=NB255_268.out
        have hms45_0:=NB268_255.out
        refine skip_ (w1:=?_) (by rfl) rfl ?_ ?_
        rotate_left
        ·go_simp
         rfl
        refine hK.out _ _ ?_
        clear hK K
        refine done_ (done_of HT_.out kr_) ?_
        try go_wp2
        go_roundg k2
        case measure=>have:=HK1.out;have:=HK2.out;omega
        case rel=>exact ⟨(wrap64 (x41_2 + 1)),(t285),(t286),(y287),(.slice Ao44 y287.length co44),rg_,H',⟨by have:=HK1.out;have:=HK2.out;omega⟩,⟨by (with_reducible repeat (first|apply Kd.R_alloc|apply Kd.R_drewN|apply Kd.R_drew));exact Kd.R_mono (Kd.R_far (p:=⟨gb268,4,none⟩) (Kd.R_types HO_269003.out BK268.out de_) (fun _ hk=>hk.2) (.slice Ao44 y287.length co44)) (fun _ hk=>trivial)⟩,⟨by (with_reducible repeat (first|apply Kd.R_alloc|apply Kd.R_drewN|apply Kd.R_drew));exact Kd.R_mono (Kd.R_far (p:=⟨gb268,4,none⟩) (Kd.R_types HO289.out BK268.out de_) (fun _ hk=>hk.2) (.slice Ao44 y287.length co44)) (fun _ hk=>trivial)⟩,⟨bk_⟩,⟨bk_⟩,⟨by repeat (first|(with_reducible first|exact HI258.out|apply IsS84.alloc|apply IsS84.drewN|apply IsS84.drew|apply IsS84.set_0|apply IsS84.set_1|refine IsS84.far ?_ NB258_255.out _|refine IsS84.far ?_ NB258_268.out _)|exact HI258.out)⟩,⟨by repeat (first|(with_reducible first|exact HB.out|apply below_alloc|apply pw_below_drewN|apply below_drew1|refine below_set ?_ (IsS84.ge HI258.out)|refine below_set ?_ GE255.out|refine below_set ?_ GE268.out)|exact HB.out)⟩⟩
       ·rw [if_neg c40] at H
        exact absurd H sm_
      ·rw [if_neg c38] at H
       have c38b0:decide (x41_2 < t281) = false:=decide_eq_false c38
       clear c38
       obtain ⟨⟨t290,t291,t292⟩,A46,H⟩:=bn_ H
       dsimp only at H
       have H':=Aside0.mk H
       clear H
       go_wp2_with (first|((with_reducible refine gate_callee (f:=55) rfl ?_);refine gm_ (some 52) Tryz.func55 #[.pointer (some ⟨g258,0,none⟩),.int .i64 16] ?_;(with_reducible refine (record_reader_count.calls k2 g258 x259000_2 x259001_2 16 t290 t291 t292 w _ ?side1 ?side2 A46.out).mono ?_);(case side1=>repeat (first|(with_reducible first|exact HI258.out|apply IsS84.alloc|apply IsS84.drewN|apply IsS84.drew|apply IsS84.set_0|apply IsS84.set_1|refine IsS84.far ?_ NB258_255.out _|refine IsS84.far ?_ NB258_268.out _)|exact HI258.out));(case side2=>repeat (first|(with_reducible first|exact HB.out|apply below_alloc|apply pw_below_drewN|apply below_drew1|refine below_set ?_ (IsS84.ge HI258.out)|refine below_set ?_ GE255.out|refine below_set ?_ GE268.out)|exact HB.out));rintro e w47 ⟨rfl,hi,hb,hk⟩;refine ⟨_,rfl,?_⟩;replace HO_269003:=Aside0.mk (Kd.R_mono (Kd.R_keep (IsS84.apart (show IsS84 w _ g258 x259000_2 x259001_2 from by repeat (first|(with_reducible first|exact HI258.out|apply IsS84.alloc|apply IsS84.drewN|apply IsS84.drew|apply IsS84.set_0|apply IsS84.set_1|refine IsS84.far ?_ NB258_255.out _|refine IsS84.far ?_ NB258_268.out _)|exact HI258.out)) (by (with_reducible repeat (first|apply Kd.R_alloc|apply Kd.R_drewN|apply Kd.R_drew));exact HO_269003.out) de_) hk (fun _ h=>h.2)) (fun _ h=>h.1));replace HO_269004:=Aside0.mk (Kd.R_mono (Kd.R_keep (IsS84.apart (show IsS84 w _ g258 x259000_2 x259001_2 from by repeat (first|(with_reducible first|exact HI258.out|apply IsS84.alloc|apply IsS84.drewN|apply IsS84.drew|apply IsS84.set_0|apply IsS84.set_1|refine IsS84.far ?_ NB258_255.out _|refine IsS84.far ?_ NB258_268.out _)|exact HI258.out)) (by (with_reducible repeat (first|apply Kd.R_alloc|apply Kd.R_drewN|apply Kd.R_drew));exact HO_269004.out) de_) hk (fun _ h=>h.2)) (fun _ h=>h.1));replace BK255:=Aside0.mk (KeepBut.blk hk (g':=gb255) (o:=.cells #[.int .i64 0,.int .i64 0,.int .i64 0,.slice none 0 0,.slice none 0 0,.slice none 0 0] 26 (0,0)) bk_ NB255_258.out sm_);replace BK268:=Aside0.mk (KeepBut.blk hk (g':=gb268) (o:=.cells #[.int .i64 t259,.int .i64 t262,.int .i64 t265,u269003,u269004,.slice none 0 0] 26 (0,0)) bk_ NB268_258.out sm_);replace HI258:=Aside0.mk hi;replace HB:=Aside0.mk hb;(try clear hb);(try clear hk);(try clear hi)))
       go_loopg [53] k2 (fun kq v53 w'=>∃ (x53_3:Int) (x259000_3:ByteArray) (x259001_3:Bool) (x269005_3:List ByteArray) (u269005:Value),v53 = .int .i64 x53_3∧Aside0 (record_Decode.l2 kq a0 t290 x53_3 x259000_3 x259001_3 t259 t262 t265 x269003_1 x269004_2 x269005_3 = some (r1,r2,r3,r4,r5,r6,r7))∧Aside0 (kq≤k2)∧Aside0 (Kd.R (Kd.int .i64) 3 w' w.heap.size (fun _=>True) u269003 x269003_1)∧Aside0 (Kd.R Kd.string 65 w' w.heap.size (fun _=>True) u269004 x269004_2)∧Aside0 (Kd.R Kd.string 9 w' w.heap.size (fun _=>True) u269005 x269005_3)∧Aside0 (w'.heap[gb255]? = some (.cells #[.int .i64 0,.int .i64 0,.int .i64 0,(.slice none 0 0),(.slice none 0 0),(.slice none 0 0)] 26 (0,0)))∧Aside0 (w'.heap[gb268]? = some (.cells #[.int .i64 t259,.int .i64 t262,.int .i64 t265,u269003,u269004,u269005] 26 (0,0)))∧Aside0 (IsS84 w w' g258 x259000_3 x259001_3)∧Aside0 (Below w.heap.size w w'))
       case atStart=>exact ⟨(0),(t291),(t292),(([]:List ByteArray)),(.slice none 0 0),rg_,H',⟨Nat.le_refl _⟩,⟨by (with_reducible repeat (first|apply Kd.R_alloc|apply Kd.R_drewN|apply Kd.R_drew));exact HO_269003.out⟩,⟨by (with_reducible repeat (first|apply Kd.R_alloc|apply Kd.R_drewN|apply Kd.R_drew));exact HO_269004.out⟩,⟨by first|exact Kd.R_nil _ _ _ _ _|exact Kd.N_nil _ _ _ _ _|exact Kd.V_nil _ _ _ _ _|exact Kd.Q_nil _ _ _ _ _|exact Kd.S_nil _ _ _ _ _⟩,⟨bk_⟩,⟨bk_⟩,⟨by repeat (first|(with_reducible first|exact HI258.out|apply IsS84.alloc|apply IsS84.drewN|apply IsS84.drew|apply IsS84.set_0|apply IsS84.set_1|refine IsS84.far ?_ NB258_255.out _|refine IsS84.far ?_ NB258_268.out _)|exact HI258.out)⟩,⟨by repeat (first|(with_reducible first|exact HB.out|apply below_alloc|apply pw_below_drewN|apply below_drew1|refine below_set ?_ (IsS84.ge HI258.out)|refine below_set ?_ GE255.out|refine below_set ?_ GE268.out)|exact HB.out)⟩⟩
       case round =>
        clear H'
        try clear c17
        try clear c17b0
        try clear c38
        try clear c38b0
        try clear hcz15_0
        try clear hcz15_1
        try clear hcz15_2
        try clear hcz15_3
        try clear hcz15_4
        try clear hcz15_5
        try clear hfz15_0
        try clear hfz15_1
        try clear hfz15_2
        try clear hfz15_3
        try clear hfz15_4
        try clear hfz15_5
        obtain ⟨x53_3,x259000_3,x259001_3,x269005_3,u269005,rfl,HA,HK3,HO_269003,HO_269004,HO_269005,BK255,BK268,HI258,HB⟩:=hrel
        cases gk with
        | zero=>exact absurd HA.out (by simp [record_Decode.l2])
        | succ k3 =>
         have H:=HA.out
         clear HA
         simp only [record_Decode.l2] at H
         by_cases c48:x53_3 < t290
         ·rw [if_pos c48] at H
          have c48b0:decide (x53_3 < t290) = true:=decide_eq_true c48
          clear c48
          obtain ⟨⟨t293,t294,t295⟩,A49,H⟩:=bn_ H
          dsimp only at H
          by_cases c50:x269005_3.length < 8796093022208
          ·rw [if_pos c50] at H
           have LMc50:=Aside0.mk c50
           clear c50
           obtain ⟨y296,hy296⟩:∃ y_:List ByteArray,y_ = (x269005_3 ++ [t293]):=⟨_,rfl⟩
           replace H:(record_Decode.l2 k3 a0 t290 (wrap64 (x53_3 + 1)) t294 t295 t259 t262 t265 x269003_1 x269004_2 y296) = some (r1,r2,r3,r4,r5,r6,r7):=by first|(rw [hy296];with_reducible exact H)|(have H2_:=(Option.bind_some _ _).symm.trans H;rw [hy296];with_reducible exact H2_)|(have H2_:=(Option.bind_some _ _).symm.trans H;with_reducible exact H2_)|with_reducible exact H|(rw [hy296];exact H)|exact H
           have Ny296:=Aside0.mk hy296
           clear hy296
           have H':=Aside0.mk H
           clear H
           try go_wp2
           replace HO_269003:=Aside0.mk (Kd.R_drew HO_269003.out)
           replace HO_269004:=Aside0.mk (Kd.R_drew HO_269004.out)
           replace HO_269005:=Aside0.mk (Kd.R_drew HO_269005.out)
           replace BK255:=dr_ BK255
           replace BK268:=dr_ BK268
           replace HI258:=Aside0.mk (IsS84.drew HI258.out)
           replace HB:=db_ HB
           refine start_ (n:=8) (S:=fun w'=>w'.cell? ⟨gb268,0,none⟩ = some (.int .i64 t259)∧w'.cell? ⟨gb268,1,none⟩ = some (.int .i64 t262)∧w'.cell? ⟨gb268,2,none⟩ = some (.int .i64 t265)∧w'.cell? ⟨gb268,3,none⟩ = some (u269003)∧w'.cell? ⟨gb268,4,none⟩ = some (u269004)∧w'.cell? ⟨gb268,5,none⟩ = some (u269005)) (ds:=[7]) #[false,false,false,false,false,false,false,false] kr_ rfl rfl hc_ (fun hHeld=>?_);refine with_tabW record_Decode.tab16 record_Decode.bits16 (fun HT_ HW_=>?_)
           generalize wr.drew = w51 at HO_269003 HO_269004 HO_269005 BK255 BK268 HI258 HB hHeld ⊢
           refine pu_ 0 (some 55) #[true,false,false,false,false,false,false,false] ?_
           refine pu_ 2 (some 57) #[true,false,true,false,false,false,false,false] ?_
           refine tk_ 1 (some 56) #[true,true,true,false,false,false,false,false] hHeld ?_
           refine oc_ 3 (some 58) #[true,true,true,true,false,false,false,false] Tryz.func56 #[.pointer (some ⟨g258,0,none⟩)] (fun K hK=>?_)
           with_reducible refine (record_reader_bytes.calls k3 g258 x259000_3 x259001_3 t293 t294 t295 w _ ?side1 ?side2 A49.out).mono ?_
           (case side1=>repeat (first|(with_reducible first|exact HI258.out|apply IsS84.alloc|apply IsS84.drewN|apply IsS84.drew|apply IsS84.set_0|apply IsS84.set_1|refine IsS84.far ?_ NB258_255.out _|refine IsS84.far ?_ NB258_268.out _)|exact HI258.out))
           (case side2=>repeat (first|(with_reducible first|exact HB.out|apply below_alloc|apply pw_below_drewN|apply below_drew1|refine below_set ?_ (IsS84.ge HI258.out)|refine below_set ?_ GE255.out|refine below_set ?_ GE268.out)|exact HB.out))
           rintro e w52 ⟨rfl,hi,hb,hk⟩
           refine ⟨_,rfl,?_⟩
           replace HO_269003:=Aside0.mk (Kd.R_mono (Kd.R_keep (IsS84.apart (show IsS84 w _ g258 x259000_3 x259001_3 from by repeat (first|(with_reducible first|exact HI258.out|apply IsS84.alloc|apply IsS84.drewN|apply IsS84.drew|apply IsS84.set_0|apply IsS84.set_1|refine IsS84.far ?_ NB258_255.out _|refine IsS84.far ?_ NB258_268.out _)|exact HI258.out)) (by (with_reducible repeat (first|apply Kd.R_alloc|apply Kd.R_drewN|apply Kd.R_drew));exact HO_269003.out) de_) hk (fun _ h=>h.2)) (fun _ h=>h.1))
           replace HO_269004:=Aside0.mk (Kd.R_mono (Kd.R_keep (IsS84.apart (show IsS84 w _ g258 x259000_3 x259001_3 from by repeat (first|(with_reducible first|exact HI258.out|apply IsS84.alloc|apply IsS84.drewN|apply IsS84.drew|apply IsS84.set_0|apply IsS84.set_1|refine IsS84.far ?_ NB258_255.out _|refine IsS84.far ?_ NB258_268.out _)|exact HI258.out)) (by (with_reducible repeat (first|apply Kd.R_alloc|apply Kd.R_drewN|apply Kd.R_drew));exact HO_269004.out) de_) hk (fun _ h=>h.2)) (fun _ h=>h.1))
           replace HO_269005:=Aside0.mk (Kd.R_mono (Kd.R_keep (IsS84.apart (show IsS84 w _ g258 x259000_3 x259001_3 from by repeat (first|(with_reducible first|exact HI258.out|apply IsS84.alloc|apply IsS84.drewN|apply IsS84.drew|apply IsS84.set_0|apply IsS84.set_1|refine IsS84.far ?_ NB258_255.out _|refine IsS84.far ?_ NB258_268.out _)|exact HI258.out)) (by (with_reducible repeat (first|apply Kd.R_alloc|apply Kd.R_drewN|apply Kd.R_drew));exact HO_269005.out) de_) hk (fun _ h=>h.2)) (fun _ h=>h.1))
           replace BK255:=Aside0.mk (KeepBut.blk hk (g':=gb255) (o:=.cells #[.int .i64 0,.int .i64 0,.int .i64 0,.slice none 0 0,.slice none 0 0,.slice none 0 0] 26 (0,0)) bk_ NB255_258.out sm_)
           replace BK268:=Aside0.mk (KeepBut.blk hk (g':=gb268) (o:=.cells #[.int .i64 t259,.int .i64 t262,.int .i64 t265,u269003,u269004,u269005] 26 (0,0)) bk_ NB268_258.out sm_)
           replace HI258:=Aside0.mk hi
           replace HB:=Aside0.mk hb
           (try clear hb)
           (try clear hk)
           (try clear hi)
           refine hk_ hK (fun hHeld=>?_);clear hK K
           refine one_ (i:=4) (N:=some 59) #[true,true,true,true,true,false,false,false] rfl rfl (one_of HT_.out kr_) de_ (fun K hK=>?_)
           refine value_ (w1:=?_) (v:=?_) (by rfl) rfl ?_ ?_
           rotate_left 2
           ·go_simp
            constructor
            ·rfl
            ·rfl
           refine hK.out _ _ ⟨(blk_cell (blk_alloc BK268.out _) 0).trans rfl,(blk_cell (blk_alloc BK268.out _) 1).trans rfl,(blk_cell (blk_alloc BK268.out _) 2).trans rfl,(blk_cell (blk_alloc BK268.out _) 3).trans rfl,(blk_cell (blk_alloc BK268.out _) 4).trans rfl,(blk_cell (blk_alloc BK268.out _) 5).trans rfl⟩ (fun hHeld=>?_)
           clear hK K
           refine norm_ (a':=?_) ?_ ?_
           rotate_left
           ·show Act.put _ (some 59) _ = _
            simp only [Act.put,List.setIfInBounds_toArray,List.set_cons_zero,List.set_cons_succ,i64_w,i32_w]
            rfl
           refine one_ (i:=5) (N:=some 60) #[true,true,true,true,true,true,false,false] rfl rfl (one_of HT_.out kr_) de_ (fun K hK=>?_)
           refine Kd.R_append_step Kd.string (w0:=w) w.heap.size (by rfl) (.tmp 56) (.tmp 59) 24 9 (.string ⟨#[]⟩) 16 rfl Tryz.underlying24 info9 rfl de_ (by omega) u269005 x269005_3 t293 [.string t293] (fun _=>True) (fun _=>False) rfl rfl ?aP (fun _ hk=>hk.elim) ?aF ?aO ?aB ?aS ?aL ?_
           (case aP=>exact rfl)
           (case aB=>exact (by repeat (first|(with_reducible first|exact HB.out|apply below_alloc|apply pw_below_drewN|apply below_drew1|refine below_set ?_ (IsS84.ge HI258.out)|refine below_set ?_ GE255.out|refine below_set ?_ GE268.out)|exact HB.out)))
           (case aF=>exact (fun _ _=>trivial))
           (case aO=>exact (by (with_reducible repeat (first|apply Kd.R_alloc|apply Kd.R_drewN|apply Kd.R_drew));exact HO_269005.out))
           (case aS=>exact (below_size (by repeat (first|(with_reducible first|exact HB.out|apply below_alloc|apply pw_below_drewN|apply below_drew1|refine below_set ?_ (IsS84.ge HI258.out)|refine below_set ?_ GE255.out|refine below_set ?_ GE268.out)|exact HB.out))))
           (case aL=>have:=LMc50.out;omega)
           intro v297 w53 ho hb hg hat
           rw [← Ny296.out] at ho
           have HO298:=Aside0.mk ho
           replace HO_269003:=Aside0.mk (Kd.R_over' (by (with_reducible repeat (first|apply Kd.R_alloc|apply Kd.R_drewN|apply Kd.R_drew));exact HO_269003.out) (Kd.R_typed (by (with_reducible repeat (first|apply Kd.R_alloc|apply Kd.R_drewN|apply Kd.R_drew));exact HO_269005.out)) de_ hg)
           replace HO_269004:=Aside0.mk (Kd.R_over' (by (with_reducible repeat (first|apply Kd.R_alloc|apply Kd.R_drewN|apply Kd.R_drew));exact HO_269004.out) (Kd.R_typed (by (with_reducible repeat (first|apply Kd.R_alloc|apply Kd.R_drewN|apply Kd.R_drew));exact HO_269005.out)) de_ hg)
           replace BK255:=Aside0.mk (blk_grown (g:=gb255) (o:=.cells #[.int .i64 0,.int .i64 0,.int .i64 0,.slice none 0 0,.slice none 0 0,.slice none 0 0] 26 (0,0)) bk_ hg (Kd.R_ne HO_269005.out BK255.out de_))
           replace BK268:=Aside0.mk (blk_grown (g:=gb268) (o:=.cells #[.int .i64 t259,.int .i64 t262,.int .i64 t265,u269003,u269004,u269005] 26 (0,0)) bk_ hg (Kd.R_ne HO_269005.out BK268.out de_))
           replace HI258:=Aside0.mk (IsS84.grown (by repeat (first|(with_reducible first|exact HI258.out|apply IsS84.alloc|apply IsS84.drewN|apply IsS84.drew|apply IsS84.set_0|apply IsS84.set_1|refine IsS84.far ?_ NB258_255.out _|refine IsS84.far ?_ NB258_268.out _)|exact HI258.out)) hg (IsS84.own_ne HI258.out HO_269005.out de_))
           replace HB:=Aside0.mk hb
           clear HO_269005
           clear ho hb hg hat
           obtain ⟨Ao54,co54,eo54⟩:=Kd.R_slice HO298.out
           (first|subst eo54|(injection eo54 with f1_ f2_ f3_;have f4_:=f1_.symm;have f5_:=f3_.symm;clear f1_ f2_ f3_;subst f4_;subst f5_))
           refine hk_ hK (fun hHeld=>?_);clear hK K
           refine pu_ 6 (some 61) #[true,true,true,true,true,true,true,false] ?_
           refine last_ (i:=7) (N:=none) #[true,true,true,true,true,true,true,true] rfl rfl (one_of HT_.out kr_) de_ (fun K hK=>?_)
           have hs55:w53.cell? ⟨gb268,5,none⟩ = some (u269005):=(blk_cell BK268.out 5).trans rfl
           have hfs55:=blk_frozen BK268.out 5
           have hns55_0:=NB255_268.out
           have hms55_0:=NB268_255.out
           refine skip_ (w1:=?_) (by rfl) rfl ?_ ?_
           rotate_left
           ·go_simp
            rfl
           refine hK.out _ _ ?_
           clear hK K
           refine done_ (done_of HT_.out kr_) ?_
           try go_wp2
           go_roundg k3
           case measure=>have:=HK1.out;have:=HK2.out;have:=HK3.out;omega
           case rel=>exact ⟨(wrap64 (x53_3 + 1)),(t294),(t295),(y296),(.slice Ao54 y296.length co54),rg_,H',⟨by have:=HK1.out;have:=HK2.out;have:=HK3.out;omega⟩,⟨by (with_reducible repeat (first|apply Kd.R_alloc|apply Kd.R_drewN|apply Kd.R_drew));exact Kd.R_mono (Kd.R_far (p:=⟨gb268,5,none⟩) (Kd.R_types HO_269003.out BK268.out de_) (fun _ hk=>hk.2) (.slice Ao54 y296.length co54)) (fun _ hk=>trivial)⟩,⟨by (with_reducible repeat (first|apply Kd.R_alloc|apply Kd.R_drewN|apply Kd.R_drew));exact Kd.R_mono (Kd.R_far (p:=⟨gb268,5,none⟩) (Kd.R_types HO_269004.out BK268.out de_) (fun _ hk=>hk.2) (.slice Ao54 y296.length co54)) (fun _ hk=>trivial)⟩,⟨by (with_reducible repeat (first|apply Kd.R_alloc|apply Kd.R_drewN|apply Kd.R_drew));exact Kd.R_mono (Kd.R_far (p:=⟨gb268,5,none⟩) (Kd.R_types HO298.out BK268.out de_) (fun _ hk=>hk.2) (.slice Ao54 y296.length co54)) (fun _ hk=>trivial)⟩,⟨bk_⟩,⟨bk_⟩,⟨by repeat (first|(with_reducible first|exact HI258.out|apply IsS84.alloc|apply IsS84.drewN|apply IsS84.drew|apply IsS84.set_0|apply IsS84.set_1|refine IsS84.far ?_ NB258_255.out _|refine IsS84.far ?_ NB258_268.out _)|exact HI258.out)⟩,⟨by repeat (first|(with_reducible first|exact HB.out|apply below_alloc|apply pw_below_drewN|apply below_drew1|refine below_set ?_ (IsS84.ge HI258.out)|refine below_set ?_ GE255.out|refine below_set ?_ GE268.out)|exact HB.out)⟩⟩
          ·rw [if_neg c50] at H
           exact absurd H sm_
         ·rw [if_neg c48] at H
          have c48b0:decide (x53_3 < t290) = false:=decide_eq_false c48
          clear c48
          obtain ⟨⟨t299,t300⟩,A56,H⟩:=bn_ H
          dsimp only at H
          by_cases c57:x259001_3 = true
          ·subst c57
           have H1:(some (0,0,0,([]:List Int),([]:List ByteArray),([]:List ByteArray),13)) = some (r1,r2,r3,r4,r5,r6,r7):=by rw [if_pos rfl] at H;exact H
           clear H
           have H:=H1
           clear H1
           simp only [Option.some.injEq,Prod.mk.injEq] at H
           obtain ⟨rfl,rfl,rfl,rfl,rfl,rfl,rfl⟩:=H
           have hnb58:=NB268_255.out
           have hnc58:=NB255_268.out
           have hnb59:=NB268_258.out
           have hnc59:=NB258_268.out
           obtain ⟨hcz60_0,hcz60_1,hcz60_2,hcz60_3,hcz60_4,hcz60_5,hfz60_0,hfz60_1,hfz60_2,hfz60_3,hfz60_4,hfz60_5⟩:=c6_ BK268
           obtain ⟨Ao61,co61,eo61⟩:=Kd.R_slice HO_269003.out
           subst eo61
           obtain ⟨Ao62,co62,eo62⟩:=Kd.R_slice HO_269004.out
           subst eo62
           obtain ⟨Ao63,co63,eo63⟩:=Kd.R_slice HO_269005.out
           subst eo63
           go_wp2_with (first|((with_reducible refine gate_callee (f:=12) rfl ?_);refine gm_ (some 65) Tryz.func12 #[.agg #[.int .i64 t259,.int .i64 t262,.int .i64 t265,.slice Ao61 x269003_1.length co61,.slice Ao62 x269004_2.length co62,.slice Ao63 x269005_3.length co63]] ?_;(with_reducible refine (record_Encode.calls k3 t259 t262 t265 _ _ x269003_1 _ _ x269004_2 _ _ x269005_3 t299 t300 _ ?side1 ?side2 ?side3 ?side4 ?side5 ?side6 ?side7 A56.out).mono ?_);(case side1=>exact cx_ ((Kd.R_reads' HO_269003.out).2.2));(case side2=>exact (Kd.R_reads' HO_269003.out).2.1);(case side3=>exact cx_ ((Kd.R_reads' HO_269004.out).2.2));(case side4=>exact (Kd.R_reads' HO_269004.out).2.1);(case side5=>exact cx_ ((Kd.R_reads' HO_269005.out).2.2));(case side6=>exact (Kd.R_reads' HO_269005.out).2.1);(case side7=>exact HLW.out.below (by repeat (first|(with_reducible first|exact HB.out|apply below_alloc|apply pw_below_drewN|apply below_drew1|refine below_set ?_ (IsS84.ge HI258.out)|refine below_set ?_ GE255.out|refine below_set ?_ GE268.out)|exact HB.out)));rintro e w64 ⟨rfl,hb⟩;refine ⟨_,rfl,?_⟩;replace HO_269003:=rb_ HO_269003 hb;replace HO_269004:=rb_ HO_269004 hb;replace HO_269005:=rb_ HO_269005 hb;replace BK255:=bb_ BK255 hb;replace BK268:=bb_ BK268 hb;replace HI258:=Aside0.mk (IsS84.below (by repeat (first|(with_reducible first|exact HI258.out|apply IsS84.alloc|apply IsS84.drewN|apply IsS84.drew|apply IsS84.set_0|apply IsS84.set_1|refine IsS84.far ?_ NB258_255.out _|refine IsS84.far ?_ NB258_268.out _)|exact HI258.out)) hb);replace HB:=Aside0.mk (below_step (by repeat (first|(with_reducible first|exact HB.out|apply below_alloc|apply pw_below_drewN|apply below_drew1|refine below_set ?_ (IsS84.ge HI258.out)|refine below_set ?_ GE255.out|refine below_set ?_ GE268.out)|exact HB.out)) hb);(try clear hb);obtain ⟨HGz65,hgz65⟩:=HI258.out;have hcz65_0:=cellS84_0 HGz65;have hcz65_1:=cellS84_1 HGz65;have hfz65_0:=blk_frozen HGz65 0;have hfz65_1:=blk_frozen HGz65 1;clear HGz65 hgz65;have hnb66:=NB255_258.out;have hnc66:=NB258_255.out;obtain ⟨hcz67_0,hcz67_1,hcz67_2,hcz67_3,hcz67_4,hcz67_5,hfz67_0,hfz67_1,hfz67_2,hfz67_3,hfz67_4,hfz67_5⟩:=c6_ BK255))
           refine bodyPost_ret (results_ct rfl _ _ gb255 26 #[.int .i64 0,.int .i64 0,.int .i64 0,.slice none 0 0,.slice none 0 0,.slice none 0 0] (0,0) _ rfl bk_ Tryz.underlying26 rfl kr_) rfl ?_
           exact ⟨_,_,_,rf_,by first|exact Kd.R_nil _ _ _ _ _|exact Kd.N_nil _ _ _ _ _|exact Kd.V_nil _ _ _ _ _|exact Kd.Q_nil _ _ _ _ _|exact Kd.S_nil _ _ _ _ _,by first|exact Kd.R_nil _ _ _ _ _|exact Kd.N_nil _ _ _ _ _|exact Kd.V_nil _ _ _ _ _|exact Kd.Q_nil _ _ _ _ _|exact Kd.S_nil _ _ _ _ _,by first|exact Kd.R_nil _ _ _ _ _|exact Kd.N_nil _ _ _ _ _|exact Kd.V_nil _ _ _ _ _|exact Kd.Q_nil _ _ _ _ _|exact Kd.S_nil _ _ _ _ _,by repeat (first|(with_reducible first|exact HB.out|apply below_alloc|apply pw_below_drewN|apply below_drew1|refine below_set ?_ (IsS84.ge HI258.out)|refine below_set ?_ GE255.out|refine below_set ?_ GE268.out)|exact HB.out)⟩
          ·replace c57:=Bool.eq_false_iff.mpr c57
           subst c57
           have H1:(if x259000_3.toList = ([]:List UInt8) then (if t300 = 0 then (if t299.toList = a0.toList then (some (t259,t262,t265,x269003_1,x269004_2,x269005_3,0)) else (some (0,0,0,([]:List Int),([]:List ByteArray),([]:List ByteArray),13))) else (some (0,0,0,([]:List Int),([]:List ByteArray),([]:List ByteArray),13))) else (some (0,0,0,([]:List Int),([]:List ByteArray),([]:List ByteArray),13))) = some (r1,r2,r3,r4,r5,r6,r7):=by rw [if_neg (show ¬ (false = true) by decide)] at H;exact H
           clear H
           have H:=H1
           clear H1
           by_cases c68:x259000_3.toList = ([]:List UInt8)
           ·rw [if_pos c68] at H
            have c68b0:(x259000_3.toList == ([]:List UInt8)) = true:=beq_iff_eq.mpr c68
            have c68b1:(x259000_3.toList != ([]:List UInt8)) = false:=bne_eq_false_iff_eq.mpr c68
            clear c68
            by_cases c69:t300 = 0
            ·rw [if_pos c69] at H
             have c69b0:(t300 == 0) = true:=beq_iff_eq.mpr c69
             have c69b1:(t300 != 0) = false:=bne_eq_false_iff_eq.mpr c69
             clear c69
             by_cases c70:t299.toList = a0.toList
             ·rw [if_pos c70] at H
              have c70b0:(t299.toList == a0.toList) = true:=beq_iff_eq.mpr c70
              have c70b1:(t299.toList != a0.toList) = false:=bne_eq_false_iff_eq.mpr c70
              clear c70
              simp only [Option.some.injEq,Prod.mk.injEq] at H
              obtain ⟨rfl,rfl,rfl,rfl,rfl,rfl,rfl⟩:=H
              have hnb71:=NB268_255.out
              have hnc71:=NB255_268.out
              have hnb72:=NB268_258.out
              have hnc72:=NB258_268.out
              obtain ⟨hcz73_0,hcz73_1,hcz73_2,hcz73_3,hcz73_4,hcz73_5,hfz73_0,hfz73_1,hfz73_2,hfz73_3,hfz73_4,hfz73_5⟩:=c6_ BK268
              obtain ⟨Ao74,co74,eo74⟩:=Kd.R_slice HO_269003.out
              subst eo74
              obtain ⟨Ao75,co75,eo75⟩:=Kd.R_slice HO_269004.out
              subst eo75
              obtain ⟨Ao76,co76,eo76⟩:=Kd.R_slice HO_269005.out
              subst eo76
              go_wp2_with (first|((with_reducible refine gate_callee (f:=12) rfl ?_);refine gm_ (some 65) Tryz.func12 #[.agg #[.int .i64 t259,.int .i64 t262,.int .i64 t265,.slice Ao74 x269003_1.length co74,.slice Ao75 x269004_2.length co75,.slice Ao76 x269005_3.length co76]] ?_;(with_reducible refine (record_Encode.calls k3 t259 t262 t265 _ _ x269003_1 _ _ x269004_2 _ _ x269005_3 t299 t300 _ ?side1 ?side2 ?side3 ?side4 ?side5 ?side6 ?side7 A56.out).mono ?_);(case side1=>exact cx_ ((Kd.R_reads' HO_269003.out).2.2));(case side2=>exact (Kd.R_reads' HO_269003.out).2.1);(case side3=>exact cx_ ((Kd.R_reads' HO_269004.out).2.2));(case side4=>exact (Kd.R_reads' HO_269004.out).2.1);(case side5=>exact cx_ ((Kd.R_reads' HO_269005.out).2.2));(case side6=>exact (Kd.R_reads' HO_269005.out).2.1);(case side7=>exact HLW.out.below (by repeat (first|(with_reducible first|exact HB.out|apply below_alloc|apply pw_below_drewN|apply below_drew1|refine below_set ?_ (IsS84.ge HI258.out)|refine below_set ?_ GE255.out|refine below_set ?_ GE268.out)|exact HB.out)));rintro e w77 ⟨rfl,hb⟩;refine ⟨_,rfl,?_⟩;replace HO_269003:=rb_ HO_269003 hb;replace HO_269004:=rb_ HO_269004 hb;replace HO_269005:=rb_ HO_269005 hb;replace BK255:=bb_ BK255 hb;replace BK268:=bb_ BK268 hb;replace HI258:=Aside0.mk (IsS84.below (by repeat (first|(with_reducible first|exact HI258.out|apply IsS84.alloc|apply IsS84.drewN|apply IsS84.drew|apply IsS84.set_0|apply IsS84.set_1|refine IsS84.far ?_ NB258_255.out _|refine IsS84.far ?_ NB258_268.out _)|exact HI258.out)) hb);replace HB:=Aside0.mk (below_step (by repeat (first|(with_reducible first|exact HB.out|apply below_alloc|apply pw_below_drewN|apply below_drew1|refine below_set ?_ (IsS84.ge HI258.out)|refine below_set ?_ GE255.out|refine below_set ?_ GE268.out)|exact HB.out)) hb);(try clear hb);obtain ⟨HGz78,hgz78⟩:=HI258.out;have hcz78_0:=cellS84_0 HGz78;have hcz78_1:=cellS84_1 HGz78;have hfz78_0:=blk_frozen HGz78 0;have hfz78_1:=blk_frozen HGz78 1;clear HGz78 hgz78;obtain ⟨hcz79_0,hcz79_1,hcz79_2,hcz79_3,hcz79_4,hcz79_5,hfz79_0,hfz79_1,hfz79_2,hfz79_3,hfz79_4,hfz79_5⟩:=c6_ BK268;have hnb80:=NB255_258.out;have hnc80:=NB258_255.out;obtain ⟨hcz81_0,hcz81_1,hcz81_2,hcz81_3,hcz81_4,hcz81_5,hfz81_0,hfz81_1,hfz81_2,hfz81_3,hfz81_4,hfz81_5⟩:=c6_ BK255))
              refine bodyPost_ret (results_ct rfl _ _ gb255 26 #[.int .i64 t259,.int .i64 t262,.int .i64 t265,.slice Ao74 x269003_1.length co74,.slice Ao75 x269004_2.length co75,.slice Ao76 x269005_3.length co76] (0,0) _ rfl bk_ Tryz.underlying26 rfl kr_) rfl ?_
              exact ⟨_,_,_,rf_,by (with_reducible repeat (first|apply Kd.R_alloc|apply Kd.R_drewN|apply Kd.R_drew));exact Kd.R_mono (Kd.R_far (p:=⟨gb255,5,none⟩) (Kd.R_far (p:=⟨gb255,4,none⟩) (Kd.R_far (p:=⟨gb255,3,none⟩) (Kd.R_far (p:=⟨gb255,2,none⟩) (Kd.R_far (p:=⟨gb255,1,none⟩) (Kd.R_far (p:=⟨gb255,0,none⟩) (Kd.R_types HO_269003.out BK255.out de_) (fun _ hk=>hk.2) (.int .i64 t259)) (fun _ hk=>hk.2) (.int .i64 t262)) (fun _ hk=>hk.2) (.int .i64 t265)) (fun _ hk=>hk.2) (.slice Ao74 x269003_1.length co74)) (fun _ hk=>hk.2) (.slice Ao75 x269004_2.length co75)) (fun _ hk=>hk.2) (.slice Ao76 x269005_3.length co76)) (fun _ hk=>trivial),by (with_reducible repeat (first|apply Kd.R_alloc|apply Kd.R_drewN|apply Kd.R_drew));exact Kd.R_mono (Kd.R_far (p:=⟨gb255,5,none⟩) (Kd.R_far (p:=⟨gb255,4,none⟩) (Kd.R_far (p:=⟨gb255,3,none⟩) (Kd.R_far (p:=⟨gb255,2,none⟩) (Kd.R_far (p:=⟨gb255,1,none⟩) (Kd.R_far (p:=⟨gb255,0,none⟩) (Kd.R_types HO_269004.out BK255.out de_) (fun _ hk=>hk.2) (.int .i64 t259)) (fun _ hk=>hk.2) (.int .i64 t262)) (fun _ hk=>hk.2) (.int .i64 t265)) (fun _ hk=>hk.2) (.slice Ao74 x269003_1.length co74)) (fun _ hk=>hk.2) (.slice Ao75 x269004_2.length co75)) (fun _ hk=>hk.2) (.slice Ao76 x269005_3.length co76)) (fun _ hk=>trivial),by (with_reducible repeat (first|apply Kd.R_alloc|apply Kd.R_drewN|apply Kd.R_drew));exact Kd.R_mono (Kd.R_far (p:=⟨gb255,5,none⟩) (Kd.R_far (p:=⟨gb255,4,none⟩) (Kd.R_far (p:=⟨gb255,3,none⟩) (Kd.R_far (p:=⟨gb255,2,none⟩) (Kd.R_far (p:=⟨gb255,1,none⟩) (Kd.R_far (p:=⟨gb255,0,none⟩) (Kd.R_types HO_269005.out BK255.out de_) (fun _ hk=>hk.2) (.int .i64 t259)) (fun _ hk=>hk.2) (.int .i64 t262)) (fun _ hk=>hk.2) (.int .i64 t265)) (fun _ hk=>hk.2) (.slice Ao74 x269003_1.length co74)) (fun _ hk=>hk.2) (.slice Ao75 x269004_2.length co75)) (fun _ hk=>hk.2) (.slice Ao76 x269005_3.length co76)) (fun _ hk=>trivial),by repeat (first|(with_reducible first|exact HB.out|apply below_alloc|apply pw_below_drewN|apply below_drew1|refine below_set ?_ (IsS84.ge HI258.out)|refine below_set ?_ GE255.out|refine below_set ?_ GE268.out)|exact HB.out)⟩
             ·rw [if_neg c70] at H
              have c70b0:(t299.toList == a0.toList) = false:=beq_eq_false_iff_ne.mpr c70
              have c70b1:(t299.toList != a0.toList) = true:=bne_iff_ne.mpr c70
              simp only [Option.some.injEq,Prod.mk.injEq] at H
              obtain ⟨rfl,rfl,rfl,rfl,rfl,rfl,rfl⟩:=H
              have hnb82:=NB268_255.out
              have hnc82:=NB255_268.out
              have hnb83:=NB268_258.out
              have hnc83:=NB258_268.out
              obtain ⟨hcz84_0,hcz84_1,hcz84_2,hcz84_3,hcz84_4,hcz84_5,hfz84_0,hfz84_1,hfz84_2,hfz84_3,hfz84_4,hfz84_5⟩:=c6_ BK268
              obtain ⟨Ao85,co85,eo85⟩:=Kd.R_slice HO_269003.out
              subst eo85
              obtain ⟨Ao86,co86,eo86⟩:=Kd.R_slice HO_269004.out
              subst eo86
              obtain ⟨Ao87,co87,eo87⟩:=Kd.R_slice HO_269005.out
              subst eo87
              go_wp2_with (first|((with_reducible refine gate_callee (f:=12) rfl ?_);refine gm_ (some 65) Tryz.func12 #[.agg #[.int .i64 t259,.int .i64 t262,.int .i64 t265,.slice Ao85 x269003_1.length co85,.slice Ao86 x269004_2.length co86,.slice Ao87 x269005_3.length co87]] ?_;(with_reducible refine (record_Encode.calls k3 t259 t262 t265 _ _ x269003_1 _ _ x269004_2 _ _ x269005_3 t299 t300 _ ?side1 ?side2 ?side3 ?side4 ?side5 ?side6 ?side7 A56.out).mono ?_);(case side1=>exact cx_ ((Kd.R_reads' HO_269003.out).2.2));(case side2=>exact (Kd.R_reads' HO_269003.out).2.1);(case side3=>exact cx_ ((Kd.R_reads' HO_269004.out).2.2));(case side4=>exact (Kd.R_reads' HO_269004.out).2.1);(case side5=>exact cx_ ((Kd.R_reads' HO_269005.out).2.2));(case side6=>exact (Kd.R_reads' HO_269005.out).2.1);(case side7=>exact HLW.out.below (by repeat (first|(with_reducible first|exact HB.out|apply below_alloc|apply pw_below_drewN|apply below_drew1|refine below_set ?_ (IsS84.ge HI258.out)|refine below_set ?_ GE255.out|refine below_set ?_ GE268.out)|exact HB.out)));rintro e w88 ⟨rfl,hb⟩;refine ⟨_,rfl,?_⟩;replace HO_269003:=rb_ HO_269003 hb;replace HO_269004:=rb_ HO_269004 hb;replace HO_269005:=rb_ HO_269005 hb;replace BK255:=bb_ BK255 hb;replace BK268:=bb_ BK268 hb;replace HI258:=Aside0.mk (IsS84.below (by repeat (first|(with_reducible first|exact HI258.out|apply IsS84.alloc|apply IsS84.drewN|apply IsS84.drew|apply IsS84.set_0|apply IsS84.set_1|refine IsS84.far ?_ NB258_255.out _|refine IsS84.far ?_ NB258_268.out _)|exact HI258.out)) hb);replace HB:=Aside0.mk (below_step (by repeat (first|(with_reducible first|exact HB.out|apply below_alloc|apply pw_below_drewN|apply below_drew1|refine below_set ?_ (IsS84.ge HI258.out)|refine below_set ?_ GE255.out|refine below_set ?_ GE268.out)|exact HB.out)) hb);(try clear hb);obtain ⟨HGz89,hgz89⟩:=HI258.out;have hcz89_0:=cellS84_0 HGz89;have hcz89_1:=cellS84_1 HGz89;have hfz89_0:=blk_frozen HGz89 0;have hfz89_1:=blk_frozen HGz89 1;clear HGz89 hgz89;have hnb90:=NB255_258.out;have hnc90:=NB258_255.out;obtain ⟨hcz91_0,hcz91_1,hcz91_2,hcz91_3,hcz91_4,hcz91_5,hfz91_0,hfz91_1,hfz91_2,hfz91_3,hfz91_4,hfz91_5⟩:=c6_ BK255))
              refine bodyPost_ret (results_ct rfl _ _ gb255 26 #[.int .i64 0,.int .i64 0,.int .i64 0,.slice none 0 0,.slice none 0 0,.slice none 0 0] (0,0) _ rfl bk_ Tryz.underlying26 rfl kr_) rfl ?_
              exact ⟨_,_,_,rf_,by first|exact Kd.R_nil _ _ _ _ _|exact Kd.N_nil _ _ _ _ _|exact Kd.V_nil _ _ _ _ _|exact Kd.Q_nil _ _ _ _ _|exact Kd.S_nil _ _ _ _ _,by first|exact Kd.R_nil _ _ _ _ _|exact Kd.N_nil _ _ _ _ _|exact Kd.V_nil _ _ _ _ _|exact Kd.Q_nil _ _ _ _ _|exact Kd.S_nil _ _ _ _ _,by first|exact Kd.R_nil _ _ _ _ _|exact Kd.N_nil _ _ _ _ _|exact Kd.V_nil _ _ _ _ _|exact Kd.Q_nil _ _ _ _ _|exact Kd.S_nil _ _ _ _ _,by repeat (first|(with_reducible first|exact HB.out|apply below_alloc|apply pw_below_drewN|apply below_drew1|refine below_set ?_ (IsS84.ge HI258.out)|refine below_set ?_ GE255.out|refine below_set ?_ GE268.out)|exact HB.out)⟩
            ·rw [if_neg c69] at H
             have c69b0:(t300 == 0) = false:=beq_eq_false_iff_ne.mpr c69
             have c69b1:(t300 != 0) = true:=bne_iff_ne.mpr c69
             simp only [Option.some.injEq,Prod.mk.injEq] at H
             obtain ⟨rfl,rfl,rfl,rfl,rfl,rfl,rfl⟩:=H
             have hnb92:=NB268_255.out
             have hnc92:=NB255_268.out
             have hnb93:=NB268_258.out
             have hnc93:=NB258_268.out
             obtain ⟨hcz94_0,hcz94_1,hcz94_2,hcz94_3,hcz94_4,hcz94_5,hfz94_0,hfz94_1,hfz94_2,hfz94_3,hfz94_4,hfz94_5⟩:=c6_ BK268
             obtain ⟨Ao95,co95,eo95⟩:=Kd.R_slice HO_269003.out
             subst eo95
             obtain ⟨Ao96,co96,eo96⟩:=Kd.R_slice HO_269004.out
             subst eo96
             obtain ⟨Ao97,co97,eo97⟩:=Kd.R_slice HO_269005.out
             subst eo97
             go_wp2_with (first|((with_reducible refine gate_callee (f:=12) rfl ?_);refine gm_ (some 65) Tryz.func12 #[.agg #[.int .i64 t259,.int .i64 t262,.int .i64 t265,.slice Ao95 x269003_1.length co95,.slice Ao96 x269004_2.length co96,.slice Ao97 x269005_3.length co97]] ?_;(with_reducible refine (record_Encode.calls k3 t259 t262 t265 _ _ x269003_1 _ _ x269004_2 _ _ x269005_3 t299 t300 _ ?side1 ?side2 ?side3 ?side4 ?side5 ?side6 ?side7 A56.out).mono ?_);(case side1=>exact cx_ ((Kd.R_reads' HO_269003.out).2.2));(case side2=>exact (Kd.R_reads' HO_269003.out).2.1);(case side3=>exact cx_ ((Kd.R_reads' HO_269004.out).2.2));(case side4=>exact (Kd.R_reads' HO_269004.out).2.1);(case side5=>exact cx_ ((Kd.R_reads' HO_269005.out).2.2));(case side6=>exact (Kd.R_reads' HO_269005.out).2.1);(case side7=>exact HLW.out.below (by repeat (first|(with_reducible first|exact HB.out|apply below_alloc|apply pw_below_drewN|apply below_drew1|refine below_set ?_ (IsS84.ge HI258.out)|refine below_set ?_ GE255.out|refine below_set ?_ GE268.out)|exact HB.out)));rintro e w98 ⟨rfl,hb⟩;refine ⟨_,rfl,?_⟩;replace HO_269003:=rb_ HO_269003 hb;replace HO_269004:=rb_ HO_269004 hb;replace HO_269005:=rb_ HO_269005 hb;replace BK255:=bb_ BK255 hb;replace BK268:=bb_ BK268 hb;replace HI258:=Aside0.mk (IsS84.below (by repeat (first|(with_reducible first|exact HI258.out|apply IsS84.alloc|apply IsS84.drewN|apply IsS84.drew|apply IsS84.set_0|apply IsS84.set_1|refine IsS84.far ?_ NB258_255.out _|refine IsS84.far ?_ NB258_268.out _)|exact HI258.out)) hb);replace HB:=Aside0.mk (below_step (by repeat (first|(with_reducible first|exact HB.out|apply below_alloc|apply pw_below_drewN|apply below_drew1|refine below_set ?_ (IsS84.ge HI258.out)|refine below_set ?_ GE255.out|refine below_set ?_ GE268.out)|exact HB.out)) hb);(try clear hb);obtain ⟨HGz99,hgz99⟩:=HI258.out;have hcz99_0:=cellS84_0 HGz99;have hcz99_1:=cellS84_1 HGz99;have hfz99_0:=blk_frozen HGz99 0;have hfz99_1:=blk_frozen HGz99 1;clear HGz99 hgz99;have hnb100:=NB255_258.out;have hnc100:=NB258_255.out;obtain ⟨hcz101_0,hcz101_1,hcz101_2,hcz101_3,hcz101_4,hcz101_5,hfz101_0,hfz101_1,hfz101_2,hfz101_3,hfz101_4,hfz101_5⟩:=c6_ BK255))
             refine bodyPost_ret (results_ct rfl _ _ gb255 26 #[.int .i64 0,.int .i64 0,.int .i64 0,.slice none 0 0,.slice none 0 0,.slice none 0 0] (0,0) _ rfl bk_ Tryz.underlying26 rfl kr_) rfl ?_
             exact ⟨_,_,_,rf_,by first|exact Kd.R_nil _ _ _ _ _|exact Kd.N_nil _ _ _ _ _|exact Kd.V_nil _ _ _ _ _|exact Kd.Q_nil _ _ _ _ _|exact Kd.S_nil _ _ _ _ _,by first|exact Kd.R_nil _ _ _ _ _|exact Kd.N_nil _ _ _ _ _|exact Kd.V_nil _ _ _ _ _|exact Kd.Q_nil _ _ _ _ _|exact Kd.S_nil _ _ _ _ _,by first|exact Kd.R_nil _ _ _ _ _|exact Kd.N_nil _ _ _ _ _|exact Kd.V_nil _ _ _ _ _|exact Kd.Q_nil _ _ _ _ _|exact Kd.S_nil _ _ _ _ _,by repeat (first|(with_reducible first|exact HB.out|apply below_alloc|apply pw_below_drewN|apply below_drew1|refine below_set ?_ (IsS84.ge HI258.out)|refine below_set ?_ GE255.out|refine below_set ?_ GE268.out)|exact HB.out)⟩
           ·rw [if_neg c68] at H
            have c68b0:(x259000_3.toList == ([]:List UInt8)) = false:=beq_eq_false_iff_ne.mpr c68
            have c68b1:(x259000_3.toList != ([]:List UInt8)) = true:=bne_iff_ne.mpr c68
            simp only [Option.some.injEq,Prod.mk.injEq] at H
            obtain ⟨rfl,rfl,rfl,rfl,rfl,rfl,rfl⟩:=H
            have hnb102:=NB268_255.out
            have hnc102:=NB255_268.out
            have hnb103:=NB268_258.out
            have hnc103:=NB258_268.out
            obtain ⟨hcz104_0,hcz104_1,hcz104_2,hcz104_3,hcz104_4,hcz104_5,hfz104_0,hfz104_1,hfz104_2,hfz104_3,hfz104_4,hfz104_5⟩:=c6_ BK268
            obtain ⟨Ao105,co105,eo105⟩:=Kd.R_slice HO_269003.out
            subst eo105
            obtain ⟨Ao106,co106,eo106⟩:=Kd.R_slice HO_269004.out
            subst eo106
            obtain ⟨Ao107,co107,eo107⟩:=Kd.R_slice HO_269005.out
            subst eo107
            go_wp2_with (first|((with_reducible refine gate_callee (f:=12) rfl ?_);refine gm_ (some 65) Tryz.func12 #[.agg #[.int .i64 t259,.int .i64 t262,.int .i64 t265,.slice Ao105 x269003_1.length co105,.slice Ao106 x269004_2.length co106,.slice Ao107 x269005_3.length co107]] ?_;(with_reducible refine (record_Encode.calls k3 t259 t262 t265 _ _ x269003_1 _ _ x269004_2 _ _ x269005_3 t299 t300 _ ?side1 ?side2 ?side3 ?side4 ?side5 ?side6 ?side7 A56.out).mono ?_);(case side1=>exact cx_ ((Kd.R_reads' HO_269003.out).2.2));(case side2=>exact (Kd.R_reads' HO_269003.out).2.1);(case side3=>exact cx_ ((Kd.R_reads' HO_269004.out).2.2));(case side4=>exact (Kd.R_reads' HO_269004.out).2.1);(case side5=>exact cx_ ((Kd.R_reads' HO_269005.out).2.2));(case side6=>exact (Kd.R_reads' HO_269005.out).2.1);(case side7=>exact HLW.out.below (by repeat (first|(with_reducible first|exact HB.out|apply below_alloc|apply pw_below_drewN|apply below_drew1|refine below_set ?_ (IsS84.ge HI258.out)|refine below_set ?_ GE255.out|refine below_set ?_ GE268.out)|exact HB.out)));rintro e w108 ⟨rfl,hb⟩;refine ⟨_,rfl,?_⟩;replace HO_269003:=rb_ HO_269003 hb;replace HO_269004:=rb_ HO_269004 hb;replace HO_269005:=rb_ HO_269005 hb;replace BK255:=bb_ BK255 hb;replace BK268:=bb_ BK268 hb;replace HI258:=Aside0.mk (IsS84.below (by repeat (first|(with_reducible first|exact HI258.out|apply IsS84.alloc|apply IsS84.drewN|apply IsS84.drew|apply IsS84.set_0|apply IsS84.set_1|refine IsS84.far ?_ NB258_255.out _|refine IsS84.far ?_ NB258_268.out _)|exact HI258.out)) hb);replace HB:=Aside0.mk (below_step (by repeat (first|(with_reducible first|exact HB.out|apply below_alloc|apply pw_below_drewN|apply below_drew1|refine below_set ?_ (IsS84.ge HI258.out)|refine below_set ?_ GE255.out|refine below_set ?_ GE268.out)|exact HB.out)) hb);(try clear hb);obtain ⟨HGz109,hgz109⟩:=HI258.out;have hcz109_0:=cellS84_0 HGz109;have hcz109_1:=cellS84_1 HGz109;have hfz109_0:=blk_frozen HGz109 0;have hfz109_1:=blk_frozen HGz109 1;clear HGz109 hgz109;have hnb110:=NB255_258.out;have hnc110:=NB258_255.out;obtain ⟨hcz111_0,hcz111_1,hcz111_2,hcz111_3,hcz111_4,hcz111_5,hfz111_0,hfz111_1,hfz111_2,hfz111_3,hfz111_4,hfz111_5⟩:=c6_ BK255))
            refine bodyPost_ret (results_ct rfl _ _ gb255 26 #[.int .i64 0,.int .i64 0,.int .i64 0,.slice none 0 0,.slice none 0 0,.slice none 0 0] (0,0) _ rfl bk_ Tryz.underlying26 rfl kr_) rfl ?_
            exact ⟨_,_,_,rf_,by first|exact Kd.R_nil _ _ _ _ _|exact Kd.N_nil _ _ _ _ _|exact Kd.V_nil _ _ _ _ _|exact Kd.Q_nil _ _ _ _ _|exact Kd.S_nil _ _ _ _ _,by first|exact Kd.R_nil _ _ _ _ _|exact Kd.N_nil _ _ _ _ _|exact Kd.V_nil _ _ _ _ _|exact Kd.Q_nil _ _ _ _ _|exact Kd.S_nil _ _ _ _ _,by first|exact Kd.R_nil _ _ _ _ _|exact Kd.N_nil _ _ _ _ _|exact Kd.V_nil _ _ _ _ _|exact Kd.Q_nil _ _ _ _ _|exact Kd.S_nil _ _ _ _ _,by repeat (first|(with_reducible first|exact HB.out|apply below_alloc|apply pw_below_drewN|apply below_drew1|refine below_set ?_ (IsS84.ge HI258.out)|refine below_set ?_ GE255.out|refine below_set ?_ GE268.out)|exact HB.out)⟩
end Go.Proofs.YtcmbggahndfnnaaGreatDoor.Pr
namespace Go.Proofs.YtcmbggahndfnnaaGreatDoor.Pr
open Go.RowKit Go.Proofs.YtcmbggahndfnnaaGreatDoorW.PrintWords Go.Proofs.YtcmbggahndfnnaaGreatDoorW.PrintLast Go.Proofs.YtcmbggahndfnnaaGreatDoorW.PrintMore
attribute [local go_sem] max2_int min2_int max_two min_two max_three min_three max_four min_four
set_option maxHeartbeats 8000000
set_option maxRecDepth 100000
set_option linter.unusedVariables false
set_option linter.unusedSimpArgs false
mutual
def garboardref57_SameEvent.j0:Nat→Bool→Int→Int→Int→List Int→List ByteArray→List ByteArray→Int→Int→Int→List Int→List ByteArray→List ByteArray→Option (Bool)
 | 0,_,_,_,_,_,_,_,_,_,_,_,_,_=>none
 | k + 1,x53,x328000,x328001,x328002,x328003,x328004,x328005,x329000,x329001,x329002,x329003,x329004,x329005=>if x53 = true then (some false) else (garboardref57_SameEvent.l0 k 0 x328000 x328001 x328002 x328003 x328004 x328005 x329000 x329001 x329002 x329003 x329004 x329005)
def garboardref57_SameEvent.l0:Nat→Int→Int→Int→Int→List Int→List ByteArray→List ByteArray→Int→Int→Int→List Int→List ByteArray→List ByteArray→Option (Bool)
 | 0,_,_,_,_,_,_,_,_,_,_,_,_,_=>none
 | k + 1,x5,x328000,x328001,x328002,x328003,x328004,x328005,x329000,x329001,x329002,x329003,x329004,x329005=>if x5 < (x328003.length:Int) then (if 0≤x5 then (if x5 < (x329003.length:Int) then (if (rd x328003 x5) = (rd x329003 x5) then (garboardref57_SameEvent.l0 k (wrap64 (x5 + 1)) x328000 x328001 x328002 x328003 x328004 x328005 x329000 x329001 x329002 x329003 x329004 x329005) else (some false)) else (none)) else (none)) else (garboardref57_SameEvent.l1 k 0 x328000 x328001 x328002 x328003 x328004 x328005 x329000 x329001 x329002 x329003 x329004 x329005)
def garboardref57_SameEvent.l1:Nat→Int→Int→Int→Int→List Int→List ByteArray→List ByteArray→Int→Int→Int→List Int→List ByteArray→List ByteArray→Option (Bool)
 | 0,_,_,_,_,_,_,_,_,_,_,_,_,_=>none
 | k + 1,x6,x328000,x328001,x328002,x328003,x328004,x328005,x329000,x329001,x329002,x329003,x329004,x329005=>if x6 < (x328004.length:Int) then (if 0≤x6 then (if x6 < (x329004.length:Int) then (if (rdOf ByteArray.empty x328004 x6).toList = (rdOf ByteArray.empty x329004 x6).toList then (garboardref57_SameEvent.l1 k (wrap64 (x6 + 1)) x328000 x328001 x328002 x328003 x328004 x328005 x329000 x329001 x329002 x329003 x329004 x329005) else (some false)) else (none)) else (none)) else (garboardref57_SameEvent.l2 k 0 x328000 x328001 x328002 x328003 x328004 x328005 x329000 x329001 x329002 x329003 x329004 x329005)
def garboardref57_SameEvent.l2:Nat→Int→Int→Int→Int→List Int→List ByteArray→List ByteArray→Int→Int→Int→List Int→List ByteArray→List ByteArray→Option (Bool)
 | 0,_,_,_,_,_,_,_,_,_,_,_,_,_=>none
 | k + 1,x7,x328000,x328001,x328002,x328003,x328004,x328005,x329000,x329001,x329002,x329003,x329004,x329005=>if x7 < (x328005.length:Int) then (if 0≤x7 then (if x7 < (x329005.length:Int) then (if (rdOf ByteArray.empty x328005 x7).toList = (rdOf ByteArray.empty x329005 x7).toList then (garboardref57_SameEvent.l2 k (wrap64 (x7 + 1)) x328000 x328001 x328002 x328003 x328004 x328005 x329000 x329001 x329002 x329003 x329004 x329005) else (some false)) else (none)) else (none)) else (some true)
end
def garboardref57_SameEvent.f (k:Nat) (a0_0:Int) (a0_1:Int) (a0_2:Int) (l0_3:List Int) (l0_4:List ByteArray) (l0_5:List ByteArray) (a1_0:Int) (a1_1:Int) (a1_2:Int) (l1_3:List Int) (l1_4:List ByteArray) (l1_5:List ByteArray):Option (Bool):=if a0_0 = a1_0 then (if a0_1 = a1_1 then (if a0_2 = a1_2 then (if (l0_3.length:Int) = (l1_3.length:Int) then (if (l0_4.length:Int) = (l1_4.length:Int) then (garboardref57_SameEvent.j0 k ((l0_5.length:Int) != (l1_5.length:Int)) a0_0 a0_1 a0_2 l0_3 l0_4 l0_5 a1_0 a1_1 a1_2 l1_3 l1_4 l1_5) else (garboardref57_SameEvent.j0 k true a0_0 a0_1 a0_2 l0_3 l0_4 l0_5 a1_0 a1_1 a1_2 l1_3 l1_4 l1_5)) else (garboardref57_SameEvent.j0 k true a0_0 a0_1 a0_2 l0_3 l0_4 l0_5 a1_0 a1_1 a1_2 l1_3 l1_4 l1_5)) else (garboardref57_SameEvent.j0 k true a0_0 a0_1 a0_2 l0_3 l0_4 l0_5 a1_0 a1_1 a1_2 l1_3 l1_4 l1_5)) else (garboardref57_SameEvent.j0 k true a0_0 a0_1 a0_2 l0_3 l0_4 l0_5 a1_0 a1_1 a1_2 l1_3 l1_4 l1_5)) else (garboardref57_SameEvent.j0 k true a0_0 a0_1 a0_2 l0_3 l0_4 l0_5 a1_0 a1_1 a1_2 l1_3 l1_4 l1_5)
theorem garboardref57_SameEvent.mono_l:∀ k,(∀ y0 y1 y2 y3 y4 y5 y6 y7 y8 y9 y10 y11 y12,LeO (garboardref57_SameEvent.j0 k y0 y1 y2 y3 y4 y5 y6 y7 y8 y9 y10 y11 y12) (garboardref57_SameEvent.j0 (k + 1) y0 y1 y2 y3 y4 y5 y6 y7 y8 y9 y10 y11 y12))∧(∀ y0 y1 y2 y3 y4 y5 y6 y7 y8 y9 y10 y11 y12,LeO (garboardref57_SameEvent.l0 k y0 y1 y2 y3 y4 y5 y6 y7 y8 y9 y10 y11 y12) (garboardref57_SameEvent.l0 (k + 1) y0 y1 y2 y3 y4 y5 y6 y7 y8 y9 y10 y11 y12))∧(∀ y0 y1 y2 y3 y4 y5 y6 y7 y8 y9 y10 y11 y12,LeO (garboardref57_SameEvent.l1 k y0 y1 y2 y3 y4 y5 y6 y7 y8 y9 y10 y11 y12) (garboardref57_SameEvent.l1 (k + 1) y0 y1 y2 y3 y4 y5 y6 y7 y8 y9 y10 y11 y12))∧(∀ y0 y1 y2 y3 y4 y5 y6 y7 y8 y9 y10 y11 y12,LeO (garboardref57_SameEvent.l2 k y0 y1 y2 y3 y4 y5 y6 y7 y8 y9 y10 y11 y12) (garboardref57_SameEvent.l2 (k + 1) y0 y1 y2 y3 y4 y5 y6 y7 y8 y9 y10 y11 y12))
 | 0=>⟨fun _ _ _ _ _ _ _ _ _ _ _ _ _ r h=>by simp [garboardref57_SameEvent.j0] at h,fun _ _ _ _ _ _ _ _ _ _ _ _ _ r h=>by simp [garboardref57_SameEvent.l0] at h,fun _ _ _ _ _ _ _ _ _ _ _ _ _ r h=>by simp [garboardref57_SameEvent.l1] at h,fun _ _ _ _ _ _ _ _ _ _ _ _ _ r h=>by simp [garboardref57_SameEvent.l2] at h⟩
 | k + 1=>by
  obtain ⟨ih0,ih1,ih2,ih3⟩:=garboardref57_SameEvent.mono_l k
  refine ⟨?_,?_,?_,?_⟩
  ·intro y0 y1 y2 y3 y4 y5 y6 y7 y8 y9 y10 y11 y12
   unfold garboardref57_SameEvent.j0
   repeat' first
   | (with_reducible exact ih0 _ _ _ _ _ _ _ _ _ _ _ _ _)
   | (with_reducible exact ih1 _ _ _ _ _ _ _ _ _ _ _ _ _)
   | (with_reducible exact ih2 _ _ _ _ _ _ _ _ _ _ _ _ _)
   | (with_reducible exact ih3 _ _ _ _ _ _ _ _ _ _ _ _ _)
   | (with_reducible exact LeO.refl _)
   | (with_reducible exact LeO.none _)
   | (with_reducible refine LeO.ite ?_ ?_)
   | (with_reducible refine LeO.bind ?_ (fun _=>?_))
   | exact ih0 _ _ _ _ _ _ _ _ _ _ _ _ _
   | exact ih1 _ _ _ _ _ _ _ _ _ _ _ _ _
   | exact ih2 _ _ _ _ _ _ _ _ _ _ _ _ _
   | exact ih3 _ _ _ _ _ _ _ _ _ _ _ _ _
   | exact LeO.none _
   | refine LeO.ite ?_ ?_
   | refine LeO.bind ?_ (fun _=>?_)
  ·intro y0 y1 y2 y3 y4 y5 y6 y7 y8 y9 y10 y11 y12
   unfold garboardref57_SameEvent.l0
   repeat' first
   | (with_reducible exact ih0 _ _ _ _ _ _ _ _ _ _ _ _ _)
   | (with_reducible exact ih1 _ _ _ _ _ _ _ _ _ _ _ _ _)
   | (with_reducible exact ih2 _ _ _ _ _ _ _ _ _ _ _ _ _)
   | (with_reducible exact ih3 _ _ _ _ _ _ _ _ _ _ _ _ _)
   | (with_reducible exact LeO.refl _)
   | (with_reducible exact LeO.none _)
   | (with_reducible refine LeO.ite ?_ ?_)
   | (with_reducible refine LeO.bind ?_ (fun _=>?_))
   | exact ih0 _ _ _ _ _ _ _ _ _ _ _ _ _
   | exact ih1 _ _ _ _ _ _ _ _ _ _ _ _ _
   | exact ih2 _ _ _ _ _ _ _ _ _ _ _ _ _
   | exact ih3 _ _ _ _ _ _ _ _ _ _ _ _ _
   | exact LeO.none _
   | refine LeO.ite ?_ ?_
   | refine LeO.bind ?_ (fun _=>?_)
  ·intro y0 y1 y2 y3 y4 y5 y6 y7 y8 y9 y10 y11 y12
   unfold garboardref57_SameEvent.l1
   repeat' first
   | (with_reducible exact ih0 _ _ _ _ _ _ _ _ _ _ _ _ _)
   | (with_reducible exact ih1 _ _ _ _ _ _ _ _ _ _ _ _ _)
   | (with_reducible exact ih2 _ _ _ _ _ _ _ _ _ _ _ _ _)
   | (with_reducible exact ih3 _ _ _ _ _ _ _ _ _ _ _ _ _)
   | (with_reducible exact LeO.refl _)
   | (with_reducible exact LeO.none _)
   | (with_reducible refine LeO.ite ?_ ?_)
   | (with_reducible refine LeO.bind ?_ (fun _=>?_))
   | exact ih0 _ _ _ _ _ _ _ _ _ _ _ _ _
   | exact ih1 _ _ _ _ _ _ _ _ _ _ _ _ _
   | exact ih2 _ _ _ _ _ _ _ _ _ _ _ _ _
   | exact ih3 _ _ _ _ _ _ _ _ _ _ _ _ _
   | exact LeO.none _
   | refine LeO.ite ?_ ?_
   | refine LeO.bind ?_ (fun _=>?_)
  ·intro y0 y1 y2 y3 y4 y5 y6 y7 y8 y9 y10 y11 y12
   unfold garboardref57_SameEvent.l2
   repeat' first
   | (with_reducible exact ih0 _ _ _ _ _ _ _ _ _ _ _ _ _)
   | (with_reducible exact ih1 _ _ _ _ _ _ _ _ _ _ _ _ _)
   | (with_reducible exact ih2 _ _ _ _ _ _ _ _ _ _ _ _ _)
   | (with_reducible exact ih3 _ _ _ _ _ _ _ _ _ _ _ _ _)
   | (with_reducible exact LeO.refl _)
   | (with_reducible exact LeO.none _)
   | (with_reducible refine LeO.ite ?_ ?_)
   | (with_reducible refine LeO.bind ?_ (fun _=>?_))
   | exact ih0 _ _ _ _ _ _ _ _ _ _ _ _ _
   | exact ih1 _ _ _ _ _ _ _ _ _ _ _ _ _
   | exact ih2 _ _ _ _ _ _ _ _ _ _ _ _ _
   | exact ih3 _ _ _ _ _ _ _ _ _ _ _ _ _
   | exact LeO.none _
   | refine LeO.ite ?_ ?_
   | refine LeO.bind ?_ (fun _=>?_)
theorem garboardref57_SameEvent.mono:∀ a0 a1 a2 a3 a4 a5 a6 a7 a8 a9 a10 a11 k,LeO (garboardref57_SameEvent.f k a0 a1 a2 a3 a4 a5 a6 a7 a8 a9 a10 a11) (garboardref57_SameEvent.f (k + 1) a0 a1 a2 a3 a4 a5 a6 a7 a8 a9 a10 a11):=by
 intro a0 a1 a2 a3 a4 a5 a6 a7 a8 a9 a10 a11 k
 obtain ⟨ih0,ih1,ih2,ih3⟩:=garboardref57_SameEvent.mono_l k
 unfold garboardref57_SameEvent.f
 repeat' first
   | (with_reducible exact ih0 _ _ _ _ _ _ _ _ _ _ _ _ _)
   | (with_reducible exact ih1 _ _ _ _ _ _ _ _ _ _ _ _ _)
   | (with_reducible exact ih2 _ _ _ _ _ _ _ _ _ _ _ _ _)
   | (with_reducible exact ih3 _ _ _ _ _ _ _ _ _ _ _ _ _)
   | (with_reducible exact LeO.refl _)
   | (with_reducible exact LeO.none _)
   | (with_reducible refine LeO.ite ?_ ?_)
   | (with_reducible refine LeO.bind ?_ (fun _=>?_))
   | exact ih0 _ _ _ _ _ _ _ _ _ _ _ _ _
   | exact ih1 _ _ _ _ _ _ _ _ _ _ _ _ _
   | exact ih2 _ _ _ _ _ _ _ _ _ _ _ _ _
   | exact ih3 _ _ _ _ _ _ _ _ _ _ _ _ _
   | exact LeO.none _
   | refine LeO.ite ?_ ?_
   | refine LeO.bind ?_ (fun _=>?_)
theorem garboardref57_SameEvent.calls (k:Nat) (a0_0:Int) (a0_1:Int) (a0_2:Int) (A0_3:Option Addr) (c0_3:Nat) (l0_3:List Int) (A0_4:Option Addr) (c0_4:Nat) (l0_4:List ByteArray) (A0_5:Option Addr) (c0_5:Nat) (l0_5:List ByteArray) (a1_0:Int) (a1_1:Int) (a1_2:Int) (A1_3:Option Addr) (c1_3:Nat) (l1_3:List Int) (A1_4:Option Addr) (c1_4:Nat) (l1_4:List ByteArray) (A1_5:Option Addr) (c1_5:Nat) (l1_5:List ByteArray) (r:Bool) (w:World) (hr0_3:Kd.C (Kd.int .i64) w A0_3 l0_3.length l0_3) (hc0_3:l0_3.length≤c0_3) (hr0_4:Kd.C Kd.string w A0_4 l0_4.length l0_4) (hc0_4:l0_4.length≤c0_4) (hr0_5:Kd.C Kd.string w A0_5 l0_5.length l0_5) (hc0_5:l0_5.length≤c0_5) (hr1_3:Kd.C (Kd.int .i64) w A1_3 l1_3.length l1_3) (hc1_3:l1_3.length≤c1_3) (hr1_4:Kd.C Kd.string w A1_4 l1_4.length l1_4) (hc1_4:l1_4.length≤c1_4) (hr1_5:Kd.C Kd.string w A1_5 l1_5.length l1_5) (hc1_5:l1_5.length≤c1_5) (h:garboardref57_SameEvent.f k a0_0 a0_1 a0_2 l0_3 l0_4 l0_5 a1_0 a1_1 a1_2 l1_3 l1_4 l1_5 = some r) :
  Calls Tryz.prog 17 #[.agg #[.int .i64 a0_0,.int .i64 a0_1,.int .i64 a0_2,.slice A0_3 l0_3.length c0_3,.slice A0_4 l0_4.length c0_4,.slice A0_5 l0_5.length c0_5],.agg #[.int .i64 a1_0,.int .i64 a1_1,.int .i64 a1_2,.slice A1_3 l1_3.length c1_3,.slice A1_4 l1_4.length c1_4,.slice A1_5 l1_5.length c1_5]] w fun e w'=>e = .returned (.bool r)∧Below w.heap.size w w':=by
 have hu26:=Tryz.underlying26
 have HR0_3:=Aside0.mk hr0_3
 have HC0_3:=Aside0.mk hc0_3
 clear hr0_3 hc0_3
 have HR0_4:=Aside0.mk hr0_4
 have HC0_4:=Aside0.mk hc0_4
 clear hr0_4 hc0_4
 have HR0_5:=Aside0.mk hr0_5
 have HC0_5:=Aside0.mk hc0_5
 clear hr0_5 hc0_5
 have HR1_3:=Aside0.mk hr1_3
 have HC1_3:=Aside0.mk hc1_3
 clear hr1_3 hc1_3
 have HR1_4:=Aside0.mk hr1_4
 have HC1_4:=Aside0.mk hc1_4
 clear hr1_4 hc1_4
 have HR1_5:=Aside0.mk hr1_5
 have HC1_5:=Aside0.mk hc1_5
 clear hr1_5 hc1_5
 have HB:=Aside0.mk (Below.refl w.heap.size w)
 have H:=h;clear h;unfold garboardref57_SameEvent.f at H
 have HC3:=Aside0.mk H
 clear H
 go_enter Tryz.func17,Tryz.ntmps17
 go_upto_region 1 with (first|((with_reducible refine gate_dst (N:=2) rfl ?_);(try (refine gate_guard (by rfl) ?_;dsimp only));refine bv_ #[.int .i64 a0_0,.int .i64 a0_1,.int .i64 a0_2,.slice A0_3 l0_3.length c0_3,.slice A0_4 l0_4.length c0_4,.slice A0_5 l0_5.length c0_5] 26 ?_;clear HB;intro gb327 hg w4 BK327 GE327 hb HB;clear hb hg)|((with_reducible refine gate_dst (N:=3) rfl ?_);(try (refine gate_guard (by rfl) ?_;dsimp only));refine bv_ #[.int .i64 a1_0,.int .i64 a1_1,.int .i64 a1_2,.slice A1_3 l1_3.length c1_3,.slice A1_4 l1_4.length c1_4,.slice A1_5 l1_5.length c1_5] 26 ?_;clear HB;intro gb328 hg w5 BK328 GE328 hb HB;have x_:=ol_ BK327 hg hb;clear BK327;obtain ⟨BK327,NB327_328,NB328_327⟩:=x_;clear hb hg))
 repeat (go_quiet (first|((with_reducible refine gate_dst (N:=2) rfl ?_);(try (refine gate_guard (by rfl) ?_;dsimp only));refine bv_ #[.int .i64 a0_0,.int .i64 a0_1,.int .i64 a0_2,.slice A0_3 l0_3.length c0_3,.slice A0_4 l0_4.length c0_4,.slice A0_5 l0_5.length c0_5] 26 ?_;clear HB;intro gb327 hg w4 BK327 GE327 hb HB;clear hb hg)|((with_reducible refine gate_dst (N:=3) rfl ?_);(try (refine gate_guard (by rfl) ?_;dsimp only));refine bv_ #[.int .i64 a1_0,.int .i64 a1_1,.int .i64 a1_2,.slice A1_3 l1_3.length c1_3,.slice A1_4 l1_4.length c1_4,.slice A1_5 l1_5.length c1_5] 26 ?_;clear HB;intro gb328 hg w5 BK328 GE328 hb HB;have x_:=ol_ BK327 hg hb;clear BK327;obtain ⟨BK327,NB327_328,NB328_327⟩:=x_;clear hb hg));go_upto_region 1 with (first|((with_reducible refine gate_dst (N:=2) rfl ?_);(try (refine gate_guard (by rfl) ?_;dsimp only));refine bv_ #[.int .i64 a0_0,.int .i64 a0_1,.int .i64 a0_2,.slice A0_3 l0_3.length c0_3,.slice A0_4 l0_4.length c0_4,.slice A0_5 l0_5.length c0_5] 26 ?_;clear HB;intro gb327 hg w4 BK327 GE327 hb HB;clear hb hg)|((with_reducible refine gate_dst (N:=3) rfl ?_);(try (refine gate_guard (by rfl) ?_;dsimp only));refine bv_ #[.int .i64 a1_0,.int .i64 a1_1,.int .i64 a1_2,.slice A1_3 l1_3.length c1_3,.slice A1_4 l1_4.length c1_4,.slice A1_5 l1_5.length c1_5] 26 ?_;clear HB;intro gb328 hg w5 BK328 GE328 hb HB;have x_:=ol_ BK327 hg hb;clear BK327;obtain ⟨BK327,NB327_328,NB328_327⟩:=x_;clear hb hg)))
 (try simp only [Act.put,List.setIfInBounds_toArray,List.set_cons_zero,List.set_cons_succ])
 go_cut [53] (fun v53 wc=>∃ (kq:Nat) (x53_2:Bool),v53 = .bool x53_2∧Aside0 (garboardref57_SameEvent.j0 kq x53_2 a0_0 a0_1 a0_2 l0_3 l0_4 l0_5 a1_0 a1_1 a1_2 l1_3 l1_4 l1_5 = some r)∧Aside0 (kq≤k)∧Aside0 (wc.heap[gb327]? = some (.cells #[.int .i64 a0_0,.int .i64 a0_1,.int .i64 a0_2,(.slice A0_3 l0_3.length c0_3),(.slice A0_4 l0_4.length c0_4),(.slice A0_5 l0_5.length c0_5)] 26 (0,0)))∧Aside0 (wc.heap[gb328]? = some (.cells #[.int .i64 a1_0,.int .i64 a1_1,.int .i64 a1_2,(.slice A1_3 l1_3.length c1_3),(.slice A1_4 l1_4.length c1_4),(.slice A1_5 l1_5.length c1_5)] 26 (0,0)))∧Aside0 (Below w.heap.size w wc))
 case first =>
  have H:=HC3.out
  clear HC3
  by_cases c6:a0_0 = a1_0
  ·rw [if_pos c6] at H
   have c6b0:(a0_0 == a1_0) = true:=beq_iff_eq.mpr c6
   have c6b1:(a0_0 != a1_0) = false:=bne_eq_false_iff_eq.mpr c6
   clear c6
   (first|rw [c6b0]|(simp only [i64_w,i32_w];rw [c6b0])|skip)
   by_cases c7:a0_1 = a1_1
   ·rw [if_pos c7] at H
    have c7b0:(a0_1 == a1_1) = true:=beq_iff_eq.mpr c7
    have c7b1:(a0_1 != a1_1) = false:=bne_eq_false_iff_eq.mpr c7
    clear c7
    by_cases c8:a0_2 = a1_2
    ·rw [if_pos c8] at H
     have c8b0:(a0_2 == a1_2) = true:=beq_iff_eq.mpr c8
     have c8b1:(a0_2 != a1_2) = false:=bne_eq_false_iff_eq.mpr c8
     clear c8
     by_cases c9:(l0_3.length:Int) = (l1_3.length:Int)
     ·rw [if_pos c9] at H
      have c9b0:((l0_3.length:Int) == (l1_3.length:Int)) = true:=beq_iff_eq.mpr c9
      have c9b1:((l0_3.length:Int) != (l1_3.length:Int)) = false:=bne_eq_false_iff_eq.mpr c9
      have c9b2:(l0_3.length == l1_3.length) = true:=by first|simpa using c9|(simp at c9 ⊢;omega)
      clear c9
      by_cases c10:(l0_4.length:Int) = (l1_4.length:Int)
      ·rw [if_pos c10] at H
       have c10b0:((l0_4.length:Int) == (l1_4.length:Int)) = true:=beq_iff_eq.mpr c10
       have c10b1:((l0_4.length:Int) != (l1_4.length:Int)) = false:=bne_eq_false_iff_eq.mpr c10
       have c10b2:(l0_4.length == l1_4.length) = true:=by first|simpa using c10|(simp at c10 ⊢;omega)
       clear c10
       have H':=Aside0.mk H
       clear H
       have hnb11:=NB327_328.out
       have hnc11:=NB328_327.out
       obtain ⟨hcz12_0,hcz12_1,hcz12_2,hcz12_3,hcz12_4,hcz12_5,hfz12_0,hfz12_1,hfz12_2,hfz12_3,hfz12_4,hfz12_5⟩:=c6_ BK327
       obtain ⟨hcz13_0,hcz13_1,hcz13_2,hcz13_3,hcz13_4,hcz13_5,hfz13_0,hfz13_1,hfz13_2,hfz13_3,hfz13_4,hfz13_5⟩:=c6_ BK328
       go_wp2
       repeat (go_quiet (fail);try go_wp2)
       go_meet
       case rel=>exact ⟨_,(((l0_5.length:Int) != (l1_5.length:Int))),rg_,H',⟨by first|omega|exact Nat.le_refl _⟩,⟨bk_⟩,⟨bk_⟩,⟨bx_⟩⟩
      ·rw [if_neg c10] at H
       have c10b0:((l0_4.length:Int) == (l1_4.length:Int)) = false:=beq_eq_false_iff_ne.mpr c10
       have c10b1:((l0_4.length:Int) != (l1_4.length:Int)) = true:=bne_iff_ne.mpr c10
       have c10b2:(l0_4.length == l1_4.length) = false:=by first|simpa using c10|(simp at c10 ⊢;omega)
       have H':=Aside0.mk H
       clear H
       have hnb14:=NB327_328.out
       have hnc14:=NB328_327.out
       obtain ⟨hcz15_0,hcz15_1,hcz15_2,hcz15_3,hcz15_4,hcz15_5,hfz15_0,hfz15_1,hfz15_2,hfz15_3,hfz15_4,hfz15_5⟩:=c6_ BK327
       obtain ⟨hcz16_0,hcz16_1,hcz16_2,hcz16_3,hcz16_4,hcz16_5,hfz16_0,hfz16_1,hfz16_2,hfz16_3,hfz16_4,hfz16_5⟩:=c6_ BK328
       go_wp2
       repeat (go_quiet (fail);try go_wp2)
       go_meet
       case rel=>exact ⟨_,(true),rg_,H',⟨by first|omega|exact Nat.le_refl _⟩,⟨bk_⟩,⟨bk_⟩,⟨bx_⟩⟩
     ·rw [if_neg c9] at H
      have c9b0:((l0_3.length:Int) == (l1_3.length:Int)) = false:=beq_eq_false_iff_ne.mpr c9
      have c9b1:((l0_3.length:Int) != (l1_3.length:Int)) = true:=bne_iff_ne.mpr c9
      have c9b2:(l0_3.length == l1_3.length) = false:=by first|simpa using c9|(simp at c9 ⊢;omega)
      have H':=Aside0.mk H
      clear H
      have hnb17:=NB327_328.out
      have hnc17:=NB328_327.out
      obtain ⟨hcz18_0,hcz18_1,hcz18_2,hcz18_3,hcz18_4,hcz18_5,hfz18_0,hfz18_1,hfz18_2,hfz18_3,hfz18_4,hfz18_5⟩:=c6_ BK327
      obtain ⟨hcz19_0,hcz19_1,hcz19_2,hcz19_3,hcz19_4,hcz19_5,hfz19_0,hfz19_1,hfz19_2,hfz19_3,hfz19_4,hfz19_5⟩:=c6_ BK328
      go_wp2
      repeat (go_quiet (fail);try go_wp2)
      go_meet
      case rel=>exact ⟨_,(true),rg_,H',⟨by first|omega|exact Nat.le_refl _⟩,⟨bk_⟩,⟨bk_⟩,⟨bx_⟩⟩
    ·rw [if_neg c8] at H
     have c8b0:(a0_2 == a1_2) = false:=beq_eq_false_iff_ne.mpr c8
     have c8b1:(a0_2 != a1_2) = true:=bne_iff_ne.mpr c8
     have H':=Aside0.mk H
     clear H
     have hnb20:=NB327_328.out
     have hnc20:=NB328_327.out
     obtain ⟨hcz21_0,hcz21_1,hcz21_2,hcz21_3,hcz21_4,hcz21_5,hfz21_0,hfz21_1,hfz21_2,hfz21_3,hfz21_4,hfz21_5⟩:=c6_ BK327
     obtain ⟨hcz22_0,hcz22_1,hcz22_2,hcz22_3,hcz22_4,hcz22_5,hfz22_0,hfz22_1,hfz22_2,hfz22_3,hfz22_4,hfz22_5⟩:=c6_ BK328
     go_wp2
     repeat (go_quiet (fail);try go_wp2)
     go_meet
     case rel=>exact ⟨_,(true),rg_,H',⟨by first|omega|exact Nat.le_refl _⟩,⟨bk_⟩,⟨bk_⟩,⟨bx_⟩⟩
   ·rw [if_neg c7] at H
    have c7b0:(a0_1 == a1_1) = false:=beq_eq_false_iff_ne.mpr c7
    have c7b1:(a0_1 != a1_1) = true:=bne_iff_ne.mpr c7
    have H':=Aside0.mk H
    clear H
    have hnb23:=NB327_328.out
    have hnc23:=NB328_327.out
    obtain ⟨hcz24_0,hcz24_1,hcz24_2,hcz24_3,hcz24_4,hcz24_5,hfz24_0,hfz24_1,hfz24_2,hfz24_3,hfz24_4,hfz24_5⟩:=c6_ BK327
    obtain ⟨hcz25_0,hcz25_1,hcz25_2,hcz25_3,hcz25_4,hcz25_5,hfz25_0,hfz25_1,hfz25_2,hfz25_3,hfz25_4,hfz25_5⟩:=c6_ BK328
    go_wp2
    repeat (go_quiet (fail);try go_wp2)
    go_meet
    case rel=>exact ⟨_,(true),rg_,H',⟨by first|omega|exact Nat.le_refl _⟩,⟨bk_⟩,⟨bk_⟩,⟨bx_⟩⟩
  ·rw [if_neg c6] at H
   have c6b0:(a0_0 == a1_0) = false:=beq_eq_false_iff_ne.mpr c6
   have c6b1:(a0_0 != a1_0) = true:=bne_iff_ne.mpr c6
   (first|rw [c6b0]|(simp only [i64_w,i32_w];rw [c6b0])|skip)
   have H':=Aside0.mk H
   clear H
   have hnb26:=NB327_328.out
   have hnc26:=NB328_327.out
   obtain ⟨hcz27_0,hcz27_1,hcz27_2,hcz27_3,hcz27_4,hcz27_5,hfz27_0,hfz27_1,hfz27_2,hfz27_3,hfz27_4,hfz27_5⟩:=c6_ BK327
   obtain ⟨hcz28_0,hcz28_1,hcz28_2,hcz28_3,hcz28_4,hcz28_5,hfz28_0,hfz28_1,hfz28_2,hfz28_3,hfz28_4,hfz28_5⟩:=c6_ BK328
   go_wp2
   repeat (go_quiet (fail);try go_wp2)
   go_meet
   case rel=>exact ⟨_,(true),rg_,H',⟨by first|omega|exact Nat.le_refl _⟩,⟨bk_⟩,⟨bk_⟩,⟨bx_⟩⟩
 case rest =>
  clear HC3
  obtain ⟨kq,x53_2,rfl,HA,HJ2,BK327,BK328,HB⟩:=hcut
  cases kq with
  | zero=>exact absurd HA.out (by simp [garboardref57_SameEvent.j0])
  | succ kj2 =>
   have H:=HA.out
   clear HA
   simp only [garboardref57_SameEvent.j0] at H
   by_cases c29:x53_2 = true
   ·subst c29
    have H1:(some false) = some r:=by rw [if_pos rfl] at H;exact H
    clear H
    have H:=H1
    clear H1
    obtain rfl:=Option.some.inj H
    go_wp2
    repeat (go_quiet (fail);try go_wp2)
    go_ret
    exact ⟨rf_,bx_⟩
   ·replace c29:=Bool.eq_false_iff.mpr c29
    subst c29
    have H1:(garboardref57_SameEvent.l0 kj2 0 a0_0 a0_1 a0_2 l0_3 l0_4 l0_5 a1_0 a1_1 a1_2 l1_3 l1_4 l1_5) = some r:=by rw [if_neg (show ¬ (false = true) by decide)] at H;exact H
    clear H
    have H:=H1
    clear H1
    have H':=Aside0.mk H
    clear H
    go_wp2
    repeat (go_quiet (fail);try go_wp2)
    go_loopg [5] kj2 (fun kq v5 w'=>∃ (x5_2:Int),v5 = .int .i64 x5_2∧Aside0 (garboardref57_SameEvent.l0 kq x5_2 a0_0 a0_1 a0_2 l0_3 l0_4 l0_5 a1_0 a1_1 a1_2 l1_3 l1_4 l1_5 = some r)∧Aside0 (kq≤kj2)∧Aside0 (w'.heap[gb327]? = some (.cells #[.int .i64 a0_0,.int .i64 a0_1,.int .i64 a0_2,(.slice A0_3 l0_3.length c0_3),(.slice A0_4 l0_4.length c0_4),(.slice A0_5 l0_5.length c0_5)] 26 (0,0)))∧Aside0 (w'.heap[gb328]? = some (.cells #[.int .i64 a1_0,.int .i64 a1_1,.int .i64 a1_2,(.slice A1_3 l1_3.length c1_3),(.slice A1_4 l1_4.length c1_4),(.slice A1_5 l1_5.length c1_5)] 26 (0,0)))∧Aside0 (Below w.heap.size w w'))
    case atStart=>exact ⟨(0),rg_,H',⟨Nat.le_refl _⟩,⟨bk_⟩,⟨bk_⟩,⟨bx_⟩⟩
    case round =>
     clear H'
     try clear c29
     obtain ⟨x5_2,rfl,HA,HK2,BK327,BK328,HB⟩:=hrel
     cases gk with
     | zero=>exact absurd HA.out (by simp [garboardref57_SameEvent.l0])
     | succ k2 =>
      have H:=HA.out
      clear HA
      simp only [garboardref57_SameEvent.l0] at H
      by_cases c30:x5_2 < (l0_3.length:Int)
      ·rw [if_pos c30] at H
       have c30b0:decide (x5_2 < (l0_3.length:Int)) = true:=decide_eq_true c30
       clear c30
       by_cases c31:0≤x5_2
       ·rw [if_pos c31] at H
        have c31b0:decide (0≤x5_2) = true:=decide_eq_true c31
        clear c31
        by_cases c32:x5_2 < (l1_3.length:Int)
        ·rw [if_pos c32] at H
         have c32b0:decide (x5_2 < (l1_3.length:Int)) = true:=decide_eq_true c32
         clear c32
         by_cases c33:(rd l0_3 x5_2) = (rd l1_3 x5_2)
         ·rw [if_pos c33] at H
          have c33b0:((rd l0_3 x5_2) == (rd l1_3 x5_2)) = true:=beq_iff_eq.mpr c33
          have c33b1:((rd l0_3 x5_2) != (rd l1_3 x5_2)) = false:=bne_eq_false_iff_eq.mpr c33
          clear c33
          have H':=Aside0.mk H
          clear H
          have hnb34:=NB327_328.out
          have hnc34:=NB328_327.out
          obtain ⟨hcz35_0,hcz35_1,hcz35_2,hcz35_3,hcz35_4,hcz35_5,hfz35_0,hfz35_1,hfz35_2,hfz35_3,hfz35_4,hfz35_5⟩:=c6_ BK327
          have p329:0≤(x5_2:Int):=da_
          have q329:x5_2 < (l0_3.length:Int):=da_
          obtain ⟨ad329,e329,hx329_0⟩:=Kd.at_int HR0_3.out x5_2 p329 q329
          cases e329
          replace hx329_0:=(HB.out.cell (World.block_lt_of_cell? w _ hx329_0)).trans hx329_0
          replace p329:=eq_true p329
          replace q329:=eq_true q329
          obtain ⟨hcz36_0,hcz36_1,hcz36_2,hcz36_3,hcz36_4,hcz36_5,hfz36_0,hfz36_1,hfz36_2,hfz36_3,hfz36_4,hfz36_5⟩:=c6_ BK328
          have p330:0≤(x5_2:Int):=da_
          have q330:x5_2 < (l1_3.length:Int):=da_
          obtain ⟨ad330,e330,hx330_0⟩:=Kd.at_int HR1_3.out x5_2 p330 q330
          cases e330
          replace hx330_0:=(HB.out.cell (World.block_lt_of_cell? w _ hx330_0)).trans hx330_0
          replace p330:=eq_true p330
          replace q330:=eq_true q330
          go_wp2
          repeat (go_quiet (fail);try go_wp2)
          go_roundg k2
          case measure=>have:=HJ2.out;have:=HK2.out;omega
          case rel=>exact ⟨(wrap64 (x5_2 + 1)),rg_,H',⟨by have:=HJ2.out;have:=HK2.out;omega⟩,⟨bk_⟩,⟨bk_⟩,⟨bx_⟩⟩
         ·rw [if_neg c33] at H
          have c33b0:((rd l0_3 x5_2) == (rd l1_3 x5_2)) = false:=beq_eq_false_iff_ne.mpr c33
          have c33b1:((rd l0_3 x5_2) != (rd l1_3 x5_2)) = true:=bne_iff_ne.mpr c33
          obtain rfl:=Option.some.inj H
          have hnb37:=NB327_328.out
          have hnc37:=NB328_327.out
          obtain ⟨hcz38_0,hcz38_1,hcz38_2,hcz38_3,hcz38_4,hcz38_5,hfz38_0,hfz38_1,hfz38_2,hfz38_3,hfz38_4,hfz38_5⟩:=c6_ BK327
          have p329:0≤(x5_2:Int):=da_
          have q329:x5_2 < (l0_3.length:Int):=da_
          obtain ⟨ad329,e329,hx329_0⟩:=Kd.at_int HR0_3.out x5_2 p329 q329
          cases e329
          replace hx329_0:=(HB.out.cell (World.block_lt_of_cell? w _ hx329_0)).trans hx329_0
          replace p329:=eq_true p329
          replace q329:=eq_true q329
          obtain ⟨hcz39_0,hcz39_1,hcz39_2,hcz39_3,hcz39_4,hcz39_5,hfz39_0,hfz39_1,hfz39_2,hfz39_3,hfz39_4,hfz39_5⟩:=c6_ BK328
          have p330:0≤(x5_2:Int):=da_
          have q330:x5_2 < (l1_3.length:Int):=da_
          obtain ⟨ad330,e330,hx330_0⟩:=Kd.at_int HR1_3.out x5_2 p330 q330
          cases e330
          replace hx330_0:=(HB.out.cell (World.block_lt_of_cell? w _ hx330_0)).trans hx330_0
          replace p330:=eq_true p330
          replace q330:=eq_true q330
          go_wp2
          repeat (go_quiet (fail);try go_wp2)
          go_ret
          exact ⟨rf_,bx_⟩
        ·rw [if_neg c32] at H
         exact absurd H sm_
       ·rw [if_neg c31] at H
        exact absurd H sm_
      ·rw [if_neg c30] at H
       have c30b0:decide (x5_2 < (l0_3.length:Int)) = false:=decide_eq_false c30
       clear c30
       have H':=Aside0.mk H
       clear H
       have hnb40:=NB327_328.out
       have hnc40:=NB328_327.out
       obtain ⟨hcz41_0,hcz41_1,hcz41_2,hcz41_3,hcz41_4,hcz41_5,hfz41_0,hfz41_1,hfz41_2,hfz41_3,hfz41_4,hfz41_5⟩:=c6_ BK327
       go_wp2
       repeat (go_quiet (fail);try go_wp2)
       go_loopg [6] k2 (fun kq v6 w'=>∃ (x6_3:Int),v6 = .int .i64 x6_3∧Aside0 (garboardref57_SameEvent.l1 kq x6_3 a0_0 a0_1 a0_2 l0_3 l0_4 l0_5 a1_0 a1_1 a1_2 l1_3 l1_4 l1_5 = some r)∧Aside0 (kq≤k2)∧Aside0 (w'.heap[gb327]? = some (.cells #[.int .i64 a0_0,.int .i64 a0_1,.int .i64 a0_2,(.slice A0_3 l0_3.length c0_3),(.slice A0_4 l0_4.length c0_4),(.slice A0_5 l0_5.length c0_5)] 26 (0,0)))∧Aside0 (w'.heap[gb328]? = some (.cells #[.int .i64 a1_0,.int .i64 a1_1,.int .i64 a1_2,(.slice A1_3 l1_3.length c1_3),(.slice A1_4 l1_4.length c1_4),(.slice A1_5 l1_5.length c1_5)] 26 (0,0)))∧Aside0 (Below w.heap.size w w'))
       case atStart=>exact ⟨(0),rg_,H',⟨Nat.le_refl _⟩,⟨bk_⟩,⟨bk_⟩,⟨bx_⟩⟩
       case round =>
        clear H'
        try clear c29
        try clear c30
        try clear c30b0
        try clear hcz41_0
        try clear hcz41_1
        try clear hcz41_2
        try clear hcz41_3
        try clear hcz41_4
        try clear hcz41_5
        try clear hfz41_0
        try clear hfz41_1
        try clear hfz41_2
        try clear hfz41_3
        try clear hfz41_4
        try clear hfz41_5
        obtain ⟨x6_3,rfl,HA,HK3,BK327,BK328,HB⟩:=hrel
        cases gk with
        | zero=>exact absurd HA.out (by simp [garboardref57_SameEvent.l1])
        | succ k3 =>
         have H:=HA.out
         clear HA
         simp only [garboardref57_SameEvent.l1] at H
         by_cases c42:x6_3 < (l0_4.length:Int)
         ·rw [if_pos c42] at H
          have c42b0:decide (x6_3 < (l0_4.length:Int)) = true:=decide_eq_true c42
          clear c42
          by_cases c43:0≤x6_3
          ·rw [if_pos c43] at H
           have c43b0:decide (0≤x6_3) = true:=decide_eq_true c43
           clear c43
           by_cases c44:x6_3 < (l1_4.length:Int)
           ·rw [if_pos c44] at H
            have c44b0:decide (x6_3 < (l1_4.length:Int)) = true:=decide_eq_true c44
            clear c44
            by_cases c45:(rdOf ByteArray.empty l0_4 x6_3).toList = (rdOf ByteArray.empty l1_4 x6_3).toList
            ·rw [if_pos c45] at H
             have c45b0:((rdOf ByteArray.empty l0_4 x6_3).toList == (rdOf ByteArray.empty l1_4 x6_3).toList) = true:=beq_iff_eq.mpr c45
             have c45b1:((rdOf ByteArray.empty l0_4 x6_3).toList != (rdOf ByteArray.empty l1_4 x6_3).toList) = false:=bne_eq_false_iff_eq.mpr c45
             clear c45
             have H':=Aside0.mk H
             clear H
             have hnb46:=NB327_328.out
             have hnc46:=NB328_327.out
             obtain ⟨hcz47_0,hcz47_1,hcz47_2,hcz47_3,hcz47_4,hcz47_5,hfz47_0,hfz47_1,hfz47_2,hfz47_3,hfz47_4,hfz47_5⟩:=c6_ BK327
             have p331:0≤(x6_3:Int):=da_
             have q331:x6_3 < (l0_4.length:Int):=da_
             obtain ⟨ad331,e331,hx331_0⟩:=Kd.at_string HR0_4.out x6_3 p331 q331
             cases e331
             replace hx331_0:=(HB.out.cell (World.block_lt_of_cell? w _ hx331_0)).trans hx331_0
             replace p331:=eq_true p331
             replace q331:=eq_true q331
             obtain ⟨hcz48_0,hcz48_1,hcz48_2,hcz48_3,hcz48_4,hcz48_5,hfz48_0,hfz48_1,hfz48_2,hfz48_3,hfz48_4,hfz48_5⟩:=c6_ BK328
             have p332:0≤(x6_3:Int):=da_
             have q332:x6_3 < (l1_4.length:Int):=da_
             obtain ⟨ad332,e332,hx332_0⟩:=Kd.at_string HR1_4.out x6_3 p332 q332
             cases e332
             replace hx332_0:=(HB.out.cell (World.block_lt_of_cell? w _ hx332_0)).trans hx332_0
             replace p332:=eq_true p332
             replace q332:=eq_true q332
             go_wp2
             repeat (go_quiet (fail);try go_wp2)
             go_roundg k3
             case measure=>have:=HJ2.out;have:=HK2.out;have:=HK3.out;omega
             case rel=>exact ⟨(wrap64 (x6_3 + 1)),rg_,H',⟨by have:=HJ2.out;have:=HK2.out;have:=HK3.out;omega⟩,⟨bk_⟩,⟨bk_⟩,⟨bx_⟩⟩
            ·rw [if_neg c45] at H
             have c45b0:((rdOf ByteArray.empty l0_4 x6_3).toList == (rdOf ByteArray.empty l1_4 x6_3).toList) = false:=beq_eq_false_iff_ne.mpr c45
             have c45b1:((rdOf ByteArray.empty l0_4 x6_3).toList != (rdOf ByteArray.empty l1_4 x6_3).toList) = true:=bne_iff_ne.mpr c45
             obtain rfl:=Option.some.inj H
             have hnb49:=NB327_328.out
             have hnc49:=NB328_327.out
             obtain ⟨hcz50_0,hcz50_1,hcz50_2,hcz50_3,hcz50_4,hcz50_5,hfz50_0,hfz50_1,hfz50_2,hfz50_3,hfz50_4,hfz50_5⟩:=c6_ BK327
             have p331:0≤(x6_3:Int):=da_
             have q331:x6_3 < (l0_4.length:Int):=da_
             obtain ⟨ad331,e331,hx331_0⟩:=Kd.at_string HR0_4.out x6_3 p331 q331
             cases e331
             replace hx331_0:=(HB.out.cell (World.block_lt_of_cell? w _ hx331_0)).trans hx331_0
             replace p331:=eq_true p331
             replace q331:=eq_true q331
             obtain ⟨hcz51_0,hcz51_1,hcz51_2,hcz51_3,hcz51_4,hcz51_5,hfz51_0,hfz51_1,hfz51_2,hfz51_3,hfz51_4,hfz51_5⟩:=c6_ BK328
             have p332:0≤(x6_3:Int):=da_
             have q332:x6_3 < (l1_4.length:Int):=da_
             obtain ⟨ad332,e332,hx332_0⟩:=Kd.at_string HR1_4.out x6_3 p332 q332
             cases e332
             replace hx332_0:=(HB.out.cell (World.block_lt_of_cell? w _ hx332_0)).trans hx332_0
             replace p332:=eq_true p332
             replace q332:=eq_true q332
             go_wp2
             repeat (go_quiet (fail);try go_wp2)
             go_ret
             exact ⟨rf_,bx_⟩
           ·rw [if_neg c44] at H
            exact absurd H sm_
          ·rw [if_neg c43] at H
           exact absurd H sm_
         ·rw [if_neg c42] at H
          have c42b0:decide (x6_3 < (l0_4.length:Int)) = false:=decide_eq_false c42
          clear c42
          have H':=Aside0.mk H
          clear H
          have hnb52:=NB327_328.out
          have hnc52:=NB328_327.out
          obtain ⟨hcz53_0,hcz53_1,hcz53_2,hcz53_3,hcz53_4,hcz53_5,hfz53_0,hfz53_1,hfz53_2,hfz53_3,hfz53_4,hfz53_5⟩:=c6_ BK327
          go_wp2
          repeat (go_quiet (fail);try go_wp2)
          go_loopg [7] k3 (fun kq v7 w'=>∃ (x7_4:Int),v7 = .int .i64 x7_4∧Aside0 (garboardref57_SameEvent.l2 kq x7_4 a0_0 a0_1 a0_2 l0_3 l0_4 l0_5 a1_0 a1_1 a1_2 l1_3 l1_4 l1_5 = some r)∧Aside0 (kq≤k3)∧Aside0 (w'.heap[gb327]? = some (.cells #[.int .i64 a0_0,.int .i64 a0_1,.int .i64 a0_2,(.slice A0_3 l0_3.length c0_3),(.slice A0_4 l0_4.length c0_4),(.slice A0_5 l0_5.length c0_5)] 26 (0,0)))∧Aside0 (w'.heap[gb328]? = some (.cells #[.int .i64 a1_0,.int .i64 a1_1,.int .i64 a1_2,(.slice A1_3 l1_3.length c1_3),(.slice A1_4 l1_4.length c1_4),(.slice A1_5 l1_5.length c1_5)] 26 (0,0)))∧Aside0 (Below w.heap.size w w'))
          case atStart=>exact ⟨(0),rg_,H',⟨Nat.le_refl _⟩,⟨bk_⟩,⟨bk_⟩,⟨bx_⟩⟩
          case round =>
           clear H'
           try clear c29
           try clear c30
           try clear c30b0
           try clear c42
           try clear c42b0
           try clear hcz41_0
           try clear hcz41_1
           try clear hcz41_2
           try clear hcz41_3
           try clear hcz41_4
           try clear hcz41_5
           try clear hcz53_0
           try clear hcz53_1
           try clear hcz53_2
           try clear hcz53_3
           try clear hcz53_4
           try clear hcz53_5
           try clear hfz41_0
           try clear hfz41_1
           try clear hfz41_2
           try clear hfz41_3
           try clear hfz41_4
           try clear hfz41_5
           try clear hfz53_0
           try clear hfz53_1
           try clear hfz53_2
           try clear hfz53_3
           try clear hfz53_4
           try clear hfz53_5
           obtain ⟨x7_4,rfl,HA,HK4,BK327,BK328,HB⟩:=hrel
           cases gk with
           | zero=>exact absurd HA.out (by simp [garboardref57_SameEvent.l2])
           | succ k4 =>
            have H:=HA.out
            clear HA
            simp only [garboardref57_SameEvent.l2] at H
            by_cases c54:x7_4 < (l0_5.length:Int)
            ·rw [if_pos c54] at H
             have c54b0:decide (x7_4 < (l0_5.length:Int)) = true:=decide_eq_true c54
             clear c54
             by_cases c55:0≤x7_4
             ·rw [if_pos c55] at H
              have c55b0:decide (0≤x7_4) = true:=decide_eq_true c55
              clear c55
              by_cases c56:x7_4 < (l1_5.length:Int)
              ·rw [if_pos c56] at H
               have c56b0:decide (x7_4 < (l1_5.length:Int)) = true:=decide_eq_true c56
               clear c56
               by_cases c57:(rdOf ByteArray.empty l0_5 x7_4).toList = (rdOf ByteArray.empty l1_5 x7_4).toList
               ·rw [if_pos c57] at H
                have c57b0:((rdOf ByteArray.empty l0_5 x7_4).toList == (rdOf ByteArray.empty l1_5 x7_4).toList) = true:=beq_iff_eq.mpr c57
                have c57b1:((rdOf ByteArray.empty l0_5 x7_4).toList != (rdOf ByteArray.empty l1_5 x7_4).toList) = false:=bne_eq_false_iff_eq.mpr c57
                clear c57
                have H':=Aside0.mk H
                clear H
                have hnb58:=NB327_328.out
                have hnc58:=NB328_327.out
                obtain ⟨hcz59_0,hcz59_1,hcz59_2,hcz59_3,hcz59_4,hcz59_5,hfz59_0,hfz59_1,hfz59_2,hfz59_3,hfz59_4,hfz59_5⟩:=c6_ BK327
                have p333:0≤(x7_4:Int):=da_
                have q333:x7_4 < (l0_5.length:Int):=da_
                obtain ⟨ad333,e333,hx333_0⟩:=Kd.at_string HR0_5.out x7_4 p333 q333
                cases e333
                replace hx333_0:=(HB.out.cell (World.block_lt_of_cell? w _ hx333_0)).trans hx333_0
                replace p333:=eq_true p333
                replace q333:=eq_true q333
                obtain ⟨hcz60_0,hcz60_1,hcz60_2,hcz60_3,hcz60_4,hcz60_5,hfz60_0,hfz60_1,hfz60_2,hfz60_3,hfz60_4,hfz60_5⟩:=c6_ BK328
                have p334:0≤(x7_4:Int):=da_
                have q334:x7_4 < (l1_5.length:Int):=da_
                obtain ⟨ad334,e334,hx334_0⟩:=Kd.at_string HR1_5.out x7_4 p334 q334
                cases e334
                replace hx334_0:=(HB.out.cell (World.block_lt_of_cell? w _ hx334_0)).trans hx334_0
                replace p334:=eq_true p334
                replace q334:=eq_true q334
                go_wp2
                repeat (go_quiet (fail);try go_wp2)
                go_roundg k4
                case measure=>have:=HJ2.out;have:=HK2.out;have:=HK3.out;have:=HK4.out;omega
                case rel=>exact ⟨(wrap64 (x7_4 + 1)),rg_,H',⟨by have:=HJ2.out;have:=HK2.out;have:=HK3.out;have:=HK4.out;omega⟩,⟨bk_⟩,⟨bk_⟩,⟨bx_⟩⟩
               ·rw [if_neg c57] at H
                have c57b0:((rdOf ByteArray.empty l0_5 x7_4).toList == (rdOf ByteArray.empty l1_5 x7_4).toList) = false:=beq_eq_false_iff_ne.mpr c57
                have c57b1:((rdOf ByteArray.empty l0_5 x7_4).toList != (rdOf ByteArray.empty l1_5 x7_4).toList) = true:=bne_iff_ne.mpr c57
                obtain rfl:=Option.some.inj H
                have hnb61:=NB327_328.out
                have hnc61:=NB328_327.out
                obtain ⟨hcz62_0,hcz62_1,hcz62_2,hcz62_3,hcz62_4,hcz62_5,hfz62_0,hfz62_1,hfz62_2,hfz62_3,hfz62_4,hfz62_5⟩:=c6_ BK327
                have p333:0≤(x7_4:Int):=da_
                have q333:x7_4 < (l0_5.length:Int):=da_
                obtain ⟨ad333,e333,hx333_0⟩:=Kd.at_string HR0_5.out x7_4 p333 q333
                cases e333
                replace hx333_0:=(HB.out.cell (World.block_lt_of_cell? w _ hx333_0)).trans hx333_0
                replace p333:=eq_true p333
                replace q333:=eq_true q333
                obtain ⟨hcz63_0,hcz63_1,hcz63_2,hcz63_3,hcz63_4,hcz63_5,hfz63_0,hfz63_1,hfz63_2,hfz63_3,hfz63_4,hfz63_5⟩:=c6_ BK328
                have p334:0≤(x7_4:Int):=da_
                have q334:x7_4 < (l1_5.length:Int):=da_
                obtain ⟨ad334,e334,hx334_0⟩:=Kd.at_string HR1_5.out x7_4 p334 q334
                cases e334
                replace hx334_0:=(HB.out.cell (World.block_lt_of_cell? w _ hx334_0)).trans hx334_0
                replace p334:=eq_true p334
                replace q334:=eq_true q334
                go_wp2
                repeat (go_quiet (fail);try go_wp2)
                go_ret
                exact ⟨rf_,bx_⟩
              ·rw [if_neg c56] at H
               exact absurd H sm_
             ·rw [if_neg c55] at H
              exact absurd H sm_
            ·rw [if_neg c54] at H
             have c54b0:decide (x7_4 < (l0_5.length:Int)) = false:=decide_eq_false c54
             clear c54
             obtain rfl:=Option.some.inj H
             have hnb64:=NB327_328.out
             have hnc64:=NB328_327.out
             obtain ⟨hcz65_0,hcz65_1,hcz65_2,hcz65_3,hcz65_4,hcz65_5,hfz65_0,hfz65_1,hfz65_2,hfz65_3,hfz65_4,hfz65_5⟩:=c6_ BK327
             go_wp2
             repeat (go_quiet (fail);try go_wp2)
             go_ret
             exact ⟨rf_,bx_⟩
end Go.Proofs.YtcmbggahndfnnaaGreatDoor.Pr
namespace Go.Proofs.YtcmbggahndfnnaaGreatDoor.Pr
open Go.RowKit Go.Proofs.YtcmbggahndfnnaaGreatDoorW.PrintWords Go.Proofs.YtcmbggahndfnnaaGreatDoorW.PrintLast Go.Proofs.YtcmbggahndfnnaaGreatDoorW.PrintMore
attribute [local go_sem] max2_int min2_int max_two min_two max_three min_three max_four min_four
set_option maxHeartbeats 8000000
set_option maxRecDepth 100000
set_option linter.unusedVariables false
set_option linter.unusedSimpArgs false
def record_fits.f (k:Nat) (l0:List (S52)) (a1_0:Int) (a1_1:Int) (a1_2:Int) (l1_3:List Int) (l1_4:List ByteArray) (l1_5:List ByteArray):Option (ByteArray × Int):=(record_Encode.f k a1_0 a1_1 a1_2 l1_3 l1_4 l1_5).bind fun bt225=>(if bt225.2 = 0 then (if (l0.length:Int) > 0 then (if 0≤(wrap64 ((l0.length:Int) - 1)) then (if (wrap64 ((l0.length:Int) - 1)) < (l0.length:Int) then (if ((rd_T52 l0 (wrap64 ((l0.length:Int) - 1))).f0.f0) ≥ a1_0 then (some ((⟨#[]⟩:ByteArray),5)) else (if ((rd_T52 l0 (wrap64 ((l0.length:Int) - 1))).f0.f1) > a1_1 then (some ((⟨#[]⟩:ByteArray),5)) else (some (bt225.1,0)))) else (none)) else (none)) else (some (bt225.1,0))) else (some ((⟨#[]⟩:ByteArray),bt225.2)))
theorem record_fits.mono:∀ a0 a1 a2 a3 a4 a5 a6 k,LeO (record_fits.f k a0 a1 a2 a3 a4 a5 a6) (record_fits.f (k + 1) a0 a1 a2 a3 a4 a5 a6):=by intro a0 a1 a2 a3 a4 a5 a6 k;unfold record_fits.f;have:=@record_Encode.mono;exact mn_
theorem record_fits.calls (k:Nat) (A0:Option Addr) (c0:Nat) (l0:List (S52)) (a1_0:Int) (a1_1:Int) (a1_2:Int) (A1_3:Option Addr) (c1_3:Nat) (l1_3:List Int) (A1_4:Option Addr) (c1_4:Nat) (l1_4:List ByteArray) (A1_5:Option Addr) (c1_5:Nat) (l1_5:List ByteArray) (r1:ByteArray) (r2:Int) (w:World) (hr0:Kd.C k52 w A0 l0.length l0) (hc0:l0.length≤c0) (hr1_3:Kd.C (Kd.int .i64) w A1_3 l1_3.length l1_3) (hc1_3:l1_3.length≤c1_3) (hr1_4:Kd.C Kd.string w A1_4 l1_4.length l1_4) (hc1_4:l1_4.length≤c1_4) (hr1_5:Kd.C Kd.string w A1_5 l1_5.length l1_5) (hc1_5:l1_5.length≤c1_5) (hL:LaidW w) (h:record_fits.f k l0 a1_0 a1_1 a1_2 l1_3 l1_4 l1_5 = some (r1,r2)) :
  Calls Tryz.prog 60 #[.slice A0 l0.length c0,.agg #[.int .i64 a1_0,.int .i64 a1_1,.int .i64 a1_2,.slice A1_3 l1_3.length c1_3,.slice A1_4 l1_4.length c1_4,.slice A1_5 l1_5.length c1_5]] w fun e w'=>e = .returned (.tuple #[.string r1,.int .i64 r2])∧Below w.heap.size w w':=by
 have hu26:=Tryz.underlying26
 have HR0:=Aside0.mk hr0
 have HC0:=Aside0.mk hc0
 clear hr0 hc0
 have HR1_3:=Aside0.mk hr1_3
 have HC1_3:=Aside0.mk hc1_3
 clear hr1_3 hc1_3
 have HR1_4:=Aside0.mk hr1_4
 have HC1_4:=Aside0.mk hc1_4
 clear hr1_4 hc1_4
 have HR1_5:=Aside0.mk hr1_5
 have HC1_5:=Aside0.mk hc1_5
 clear hr1_5 hc1_5
 have HB:=Aside0.mk (Below.refl w.heap.size w)
 have HLW:=Aside0.mk hL
 clear hL
 have H:=h;clear h;unfold record_fits.f at H
 obtain ⟨⟨t225,t226⟩,A3,H⟩:=bn_ H
 dsimp only at H
 by_cases c4:t226 = 0
 ·rw [if_pos c4] at H
  have c4b0:(t226 == 0) = true:=beq_iff_eq.mpr c4
  have c4b1:(t226 != 0) = false:=bne_eq_false_iff_eq.mpr c4
  clear c4
  by_cases c5:(l0.length:Int) > 0
  ·rw [if_pos c5] at H
   have c5b0:decide (0 < (l0.length:Int)) = true:=decide_eq_true c5
   have c5b1:decide (0 < l0.length) = true:=decide_eq_true (by omega)
   clear c5
   obtain ⟨ji6,hji6⟩:∃ j_:Int,(wrap64 ((l0.length:Int) - 1)) = j_:=⟨_,rfl⟩
   replace H:(if 0≤(ji6) then (if (ji6) < (l0.length:Int) then (if ((rd_T52 l0 (ji6)).f0.f0) ≥ a1_0 then (some ((⟨#[]⟩:ByteArray),5)) else (if ((rd_T52 l0 (ji6)).f0.f1) > a1_1 then (some ((⟨#[]⟩:ByteArray),5)) else (some (t225,0)))) else (none)) else (none)) = some (r1,r2):=by first|(rw [hji6] at H;exact H)|(simp only [hji6] at H ⊢;exact H)
   (try rw [hji6] at A3)
   have hji6w:(IntKind.i64.wrap ((l0.length:Int) - 1)) = ji6:=(i64_w _).trans hji6
   by_cases c7:0≤(ji6)
   ·rw [if_pos c7] at H
    have c7b0:decide (0≤(ji6)) = true:=decide_eq_true c7
    clear c7
    by_cases c8:(ji6) < (l0.length:Int)
    ·rw [if_pos c8] at H
     have c8b0:decide ((ji6) < (l0.length:Int)) = true:=decide_eq_true c8
     clear c8
     by_cases c9:((rd_T52 l0 (ji6)).f0.f0) ≥ a1_0
     ·rw [if_pos c9] at H
      have c9b0:decide (a1_0≤((rd_T52 l0 (ji6)).f0.f0)) = true:=decide_eq_true c9
      clear c9
      simp only [Option.some.injEq,Prod.mk.injEq] at H
      obtain ⟨rfl,rfl⟩:=H
      go_enter Tryz.func60,Tryz.ntmps60
      go_wp2_with (first|((with_reducible refine gate_dst (N:=3) rfl ?_);refine bv_ #[.int .i64 a1_0,.int .i64 a1_1,.int .i64 a1_2,.slice A1_3 l1_3.length c1_3,.slice A1_4 l1_4.length c1_4,.slice A1_5 l1_5.length c1_5] 26 ?_;clear HB;intro gb224 hg w10 BK224 GE224 hb HB;clear hb hg;obtain ⟨hcz11_0,hcz11_1,hcz11_2,hcz11_3,hcz11_4,hcz11_5,hfz11_0,hfz11_1,hfz11_2,hfz11_3,hfz11_4,hfz11_5⟩:=c6_ BK224)|((with_reducible refine gate_callee (f:=12) rfl ?_);refine gm_ (some 11) Tryz.func12 #[.agg #[.int .i64 a1_0,.int .i64 a1_1,.int .i64 a1_2,.slice A1_3 l1_3.length c1_3,.slice A1_4 l1_4.length c1_4,.slice A1_5 l1_5.length c1_5]] ?_;(with_reducible refine (record_Encode.calls k a1_0 a1_1 a1_2 _ _ l1_3 _ _ l1_4 _ _ l1_5 t225 t226 _ ?side1 ?side2 ?side3 ?side4 ?side5 ?side6 ?side7 A3.out).mono ?_);(case side1=>exact cx_ (Kd.C_below HR1_3.out HB.out));(case side2=>exact HC1_3.out);(case side3=>exact cx_ (Kd.C_below HR1_4.out HB.out));(case side4=>exact HC1_4.out);(case side5=>exact cx_ (Kd.C_below HR1_5.out HB.out));(case side6=>exact HC1_5.out);(case side7=>exact HLW.out.below bx_);rintro e w12 ⟨rfl,hb⟩;refine ⟨_,rfl,?_⟩;replace BK224:=bb_ BK224 hb;replace HB:=bs_ hb;(try clear hb);have p227:0≤((ji6):Int):=da_;have q227:(ji6) < (l0.length:Int):=da_;obtain ⟨ad227,A227_3,c227_3,A227_4,c227_4,A227_5,c227_5,e227,hx227_0,hx227_1,hx227_2,hx227_3,hx227_4,hx227_5,hx227_6,hl227_3,hi227_3,hl227_4,hi227_4,hl227_5,hi227_5⟩:=at_T52 HR0.out (ji6) p227 q227;cases e227;replace hx227_0:=(HB.out.cell (World.block_lt_of_cell? w _ hx227_0)).trans hx227_0;replace hx227_1:=(HB.out.cell (World.block_lt_of_cell? w _ hx227_1)).trans hx227_1;replace hx227_2:=(HB.out.cell (World.block_lt_of_cell? w _ hx227_2)).trans hx227_2;replace hx227_3:=(HB.out.cell (World.block_lt_of_cell? w _ hx227_3)).trans hx227_3;replace hx227_4:=(HB.out.cell (World.block_lt_of_cell? w _ hx227_4)).trans hx227_4;replace hx227_5:=(HB.out.cell (World.block_lt_of_cell? w _ hx227_5)).trans hx227_5;replace hx227_6:=(HB.out.cell (World.block_lt_of_cell? w _ hx227_6)).trans hx227_6;have HR227_3:=Aside0.mk hi227_3;have HC227_3:=Aside0.mk hl227_3;clear hi227_3 hl227_3;have HR227_4:=Aside0.mk hi227_4;have HC227_4:=Aside0.mk hl227_4;clear hi227_4 hl227_4;have HR227_5:=Aside0.mk hi227_5;have HC227_5:=Aside0.mk hl227_5;clear hi227_5 hl227_5;replace p227:=eq_true p227;replace q227:=eq_true q227)|((with_reducible refine gate_dst (N:=8) rfl ?_);refine bv_ #[.int .i64 0,.int .i64 0,.int .i64 0,.slice none 0 0,.slice none 0 0,.slice none 0 0] 26 ?_;clear HB;intro gb228 hg w13 BK228 GE228 hb HB;have x_:=ol_ BK224 hg hb;clear BK224;obtain ⟨BK224,NB224_228,NB228_224⟩:=x_;clear hb hg;have hnb14:=NB228_224.out;have hnc14:=NB224_228.out;obtain ⟨hcz15_0,hcz15_1,hcz15_2,hcz15_3,hcz15_4,hcz15_5,hfz15_0,hfz15_1,hfz15_2,hfz15_3,hfz15_4,hfz15_5⟩:=c6_ BK228;obtain ⟨hcz16_0,hcz16_1,hcz16_2,hcz16_3,hcz16_4,hcz16_5,hfz16_0,hfz16_1,hfz16_2,hfz16_3,hfz16_4,hfz16_5⟩:=c6_ BK224))
      go_ret2
      exact ⟨by first|rfl|(simp [errW_none,errW_some]<;>rfl)|(simp only [← hji6];first|rfl|(simp [errW_none,errW_some]<;>rfl))|(simp [*,errW_none,errW_some]<;>rfl),bx_⟩
     ·rw [if_neg c9] at H
      have c9b0:decide (a1_0≤((rd_T52 l0 (ji6)).f0.f0)) = false:=decide_eq_false c9
      clear c9
      by_cases c17:((rd_T52 l0 (ji6)).f0.f1) > a1_1
      ·rw [if_pos c17] at H
       have c17b0:decide (a1_1 < ((rd_T52 l0 (ji6)).f0.f1)) = true:=decide_eq_true c17
       clear c17
       simp only [Option.some.injEq,Prod.mk.injEq] at H
       obtain ⟨rfl,rfl⟩:=H
       go_enter Tryz.func60,Tryz.ntmps60
       go_wp2_with (first|((with_reducible refine gate_dst (N:=3) rfl ?_);refine bv_ #[.int .i64 a1_0,.int .i64 a1_1,.int .i64 a1_2,.slice A1_3 l1_3.length c1_3,.slice A1_4 l1_4.length c1_4,.slice A1_5 l1_5.length c1_5] 26 ?_;clear HB;intro gb224 hg w18 BK224 GE224 hb HB;clear hb hg;obtain ⟨hcz19_0,hcz19_1,hcz19_2,hcz19_3,hcz19_4,hcz19_5,hfz19_0,hfz19_1,hfz19_2,hfz19_3,hfz19_4,hfz19_5⟩:=c6_ BK224)|((with_reducible refine gate_callee (f:=12) rfl ?_);refine gm_ (some 11) Tryz.func12 #[.agg #[.int .i64 a1_0,.int .i64 a1_1,.int .i64 a1_2,.slice A1_3 l1_3.length c1_3,.slice A1_4 l1_4.length c1_4,.slice A1_5 l1_5.length c1_5]] ?_;(with_reducible refine (record_Encode.calls k a1_0 a1_1 a1_2 _ _ l1_3 _ _ l1_4 _ _ l1_5 t225 t226 _ ?side1 ?side2 ?side3 ?side4 ?side5 ?side6 ?side7 A3.out).mono ?_);(case side1=>exact cx_ (Kd.C_below HR1_3.out HB.out));(case side2=>exact HC1_3.out);(case side3=>exact cx_ (Kd.C_below HR1_4.out HB.out));(case side4=>exact HC1_4.out);(case side5=>exact cx_ (Kd.C_below HR1_5.out HB.out));(case side6=>exact HC1_5.out);(case side7=>exact HLW.out.below bx_);rintro e w20 ⟨rfl,hb⟩;refine ⟨_,rfl,?_⟩;replace BK224:=bb_ BK224 hb;replace HB:=bs_ hb;(try clear hb);have p227:0≤((ji6):Int):=da_;have q227:(ji6) < (l0.length:Int):=da_;obtain ⟨ad227,A227_3,c227_3,A227_4,c227_4,A227_5,c227_5,e227,hx227_0,hx227_1,hx227_2,hx227_3,hx227_4,hx227_5,hx227_6,hl227_3,hi227_3,hl227_4,hi227_4,hl227_5,hi227_5⟩:=at_T52 HR0.out (ji6) p227 q227;cases e227;replace hx227_0:=(HB.out.cell (World.block_lt_of_cell? w _ hx227_0)).trans hx227_0;replace hx227_1:=(HB.out.cell (World.block_lt_of_cell? w _ hx227_1)).trans hx227_1;replace hx227_2:=(HB.out.cell (World.block_lt_of_cell? w _ hx227_2)).trans hx227_2;replace hx227_3:=(HB.out.cell (World.block_lt_of_cell? w _ hx227_3)).trans hx227_3;replace hx227_4:=(HB.out.cell (World.block_lt_of_cell? w _ hx227_4)).trans hx227_4;replace hx227_5:=(HB.out.cell (World.block_lt_of_cell? w _ hx227_5)).trans hx227_5;replace hx227_6:=(HB.out.cell (World.block_lt_of_cell? w _ hx227_6)).trans hx227_6;have HR227_3:=Aside0.mk hi227_3;have HC227_3:=Aside0.mk hl227_3;clear hi227_3 hl227_3;have HR227_4:=Aside0.mk hi227_4;have HC227_4:=Aside0.mk hl227_4;clear hi227_4 hl227_4;have HR227_5:=Aside0.mk hi227_5;have HC227_5:=Aside0.mk hl227_5;clear hi227_5 hl227_5;replace p227:=eq_true p227;replace q227:=eq_true q227)|((with_reducible refine gate_dst (N:=8) rfl ?_);refine bv_ #[.int .i64 0,.int .i64 0,.int .i64 0,.slice none 0 0,.slice none 0 0,.slice none 0 0] 26 ?_;clear HB;intro gb228 hg w21 BK228 GE228 hb HB;have x_:=ol_ BK224 hg hb;clear BK224;obtain ⟨BK224,NB224_228,NB228_224⟩:=x_;clear hb hg;have hnb22:=NB228_224.out;have hnc22:=NB224_228.out;obtain ⟨hcz23_0,hcz23_1,hcz23_2,hcz23_3,hcz23_4,hcz23_5,hfz23_0,hfz23_1,hfz23_2,hfz23_3,hfz23_4,hfz23_5⟩:=c6_ BK228;obtain ⟨hcz24_0,hcz24_1,hcz24_2,hcz24_3,hcz24_4,hcz24_5,hfz24_0,hfz24_1,hfz24_2,hfz24_3,hfz24_4,hfz24_5⟩:=c6_ BK224))
       go_ret2
       exact ⟨by first|rfl|(simp [errW_none,errW_some]<;>rfl)|(simp only [← hji6];first|rfl|(simp [errW_none,errW_some]<;>rfl))|(simp [*,errW_none,errW_some]<;>rfl),bx_⟩
      ·rw [if_neg c17] at H
       have c17b0:decide (a1_1 < ((rd_T52 l0 (ji6)).f0.f1)) = false:=decide_eq_false c17
       clear c17
       simp only [Option.some.injEq,Prod.mk.injEq] at H
       obtain ⟨rfl,rfl⟩:=H
       go_enter Tryz.func60,Tryz.ntmps60
       go_wp2_with (first|((with_reducible refine gate_dst (N:=3) rfl ?_);refine bv_ #[.int .i64 a1_0,.int .i64 a1_1,.int .i64 a1_2,.slice A1_3 l1_3.length c1_3,.slice A1_4 l1_4.length c1_4,.slice A1_5 l1_5.length c1_5] 26 ?_;clear HB;intro gb224 hg w25 BK224 GE224 hb HB;clear hb hg;obtain ⟨hcz26_0,hcz26_1,hcz26_2,hcz26_3,hcz26_4,hcz26_5,hfz26_0,hfz26_1,hfz26_2,hfz26_3,hfz26_4,hfz26_5⟩:=c6_ BK224)|((with_reducible refine gate_callee (f:=12) rfl ?_);refine gm_ (some 11) Tryz.func12 #[.agg #[.int .i64 a1_0,.int .i64 a1_1,.int .i64 a1_2,.slice A1_3 l1_3.length c1_3,.slice A1_4 l1_4.length c1_4,.slice A1_5 l1_5.length c1_5]] ?_;(with_reducible refine (record_Encode.calls k a1_0 a1_1 a1_2 _ _ l1_3 _ _ l1_4 _ _ l1_5 t225 t226 _ ?side1 ?side2 ?side3 ?side4 ?side5 ?side6 ?side7 A3.out).mono ?_);(case side1=>exact cx_ (Kd.C_below HR1_3.out HB.out));(case side2=>exact HC1_3.out);(case side3=>exact cx_ (Kd.C_below HR1_4.out HB.out));(case side4=>exact HC1_4.out);(case side5=>exact cx_ (Kd.C_below HR1_5.out HB.out));(case side6=>exact HC1_5.out);(case side7=>exact HLW.out.below bx_);rintro e w27 ⟨rfl,hb⟩;refine ⟨_,rfl,?_⟩;replace BK224:=bb_ BK224 hb;replace HB:=bs_ hb;(try clear hb);have p227:0≤((ji6):Int):=da_;have q227:(ji6) < (l0.length:Int):=da_;obtain ⟨ad227,A227_3,c227_3,A227_4,c227_4,A227_5,c227_5,e227,hx227_0,hx227_1,hx227_2,hx227_3,hx227_4,hx227_5,hx227_6,hl227_3,hi227_3,hl227_4,hi227_4,hl227_5,hi227_5⟩:=at_T52 HR0.out (ji6) p227 q227;cases e227;replace hx227_0:=(HB.out.cell (World.block_lt_of_cell? w _ hx227_0)).trans hx227_0;replace hx227_1:=(HB.out.cell (World.block_lt_of_cell? w _ hx227_1)).trans hx227_1;replace hx227_2:=(HB.out.cell (World.block_lt_of_cell? w _ hx227_2)).trans hx227_2;replace hx227_3:=(HB.out.cell (World.block_lt_of_cell? w _ hx227_3)).trans hx227_3;replace hx227_4:=(HB.out.cell (World.block_lt_of_cell? w _ hx227_4)).trans hx227_4;replace hx227_5:=(HB.out.cell (World.block_lt_of_cell? w _ hx227_5)).trans hx227_5;replace hx227_6:=(HB.out.cell (World.block_lt_of_cell? w _ hx227_6)).trans hx227_6;have HR227_3:=Aside0.mk hi227_3;have HC227_3:=Aside0.mk hl227_3;clear hi227_3 hl227_3;have HR227_4:=Aside0.mk hi227_4;have HC227_4:=Aside0.mk hl227_4;clear hi227_4 hl227_4;have HR227_5:=Aside0.mk hi227_5;have HC227_5:=Aside0.mk hl227_5;clear hi227_5 hl227_5;replace p227:=eq_true p227;replace q227:=eq_true q227)|((with_reducible refine gate_dst (N:=8) rfl ?_);refine bv_ #[.int .i64 0,.int .i64 0,.int .i64 0,.slice none 0 0,.slice none 0 0,.slice none 0 0] 26 ?_;clear HB;intro gb228 hg w28 BK228 GE228 hb HB;have x_:=ol_ BK224 hg hb;clear BK224;obtain ⟨BK224,NB224_228,NB228_224⟩:=x_;clear hb hg;have hnb29:=NB228_224.out;have hnc29:=NB224_228.out;obtain ⟨hcz30_0,hcz30_1,hcz30_2,hcz30_3,hcz30_4,hcz30_5,hfz30_0,hfz30_1,hfz30_2,hfz30_3,hfz30_4,hfz30_5⟩:=c6_ BK228;obtain ⟨hcz31_0,hcz31_1,hcz31_2,hcz31_3,hcz31_4,hcz31_5,hfz31_0,hfz31_1,hfz31_2,hfz31_3,hfz31_4,hfz31_5⟩:=c6_ BK224))
       go_ret2
       exact ⟨by first|rfl|(simp [errW_none,errW_some]<;>rfl)|(simp only [← hji6];first|rfl|(simp [errW_none,errW_some]<;>rfl))|(simp [*,errW_none,errW_some]<;>rfl),bx_⟩
    ·rw [if_neg c8] at H
     exact absurd H sm_
   ·rw [if_neg c7] at H
    exact absurd H sm_
  ·rw [if_neg c5] at H
   have c5b0:decide (0 < (l0.length:Int)) = false:=decide_eq_false c5
   have c5b1:decide (0 < l0.length) = false:=decide_eq_false (by omega)
   clear c5
   simp only [Option.some.injEq,Prod.mk.injEq] at H
   obtain ⟨rfl,rfl⟩:=H
   go_enter Tryz.func60,Tryz.ntmps60
   go_wp2_with (first|((with_reducible refine gate_dst (N:=3) rfl ?_);refine bv_ #[.int .i64 a1_0,.int .i64 a1_1,.int .i64 a1_2,.slice A1_3 l1_3.length c1_3,.slice A1_4 l1_4.length c1_4,.slice A1_5 l1_5.length c1_5] 26 ?_;clear HB;intro gb224 hg w32 BK224 GE224 hb HB;clear hb hg;obtain ⟨hcz33_0,hcz33_1,hcz33_2,hcz33_3,hcz33_4,hcz33_5,hfz33_0,hfz33_1,hfz33_2,hfz33_3,hfz33_4,hfz33_5⟩:=c6_ BK224)|((with_reducible refine gate_callee (f:=12) rfl ?_);refine gm_ (some 11) Tryz.func12 #[.agg #[.int .i64 a1_0,.int .i64 a1_1,.int .i64 a1_2,.slice A1_3 l1_3.length c1_3,.slice A1_4 l1_4.length c1_4,.slice A1_5 l1_5.length c1_5]] ?_;(with_reducible refine (record_Encode.calls k a1_0 a1_1 a1_2 _ _ l1_3 _ _ l1_4 _ _ l1_5 t225 t226 _ ?side1 ?side2 ?side3 ?side4 ?side5 ?side6 ?side7 A3.out).mono ?_);(case side1=>exact cx_ (Kd.C_below HR1_3.out HB.out));(case side2=>exact HC1_3.out);(case side3=>exact cx_ (Kd.C_below HR1_4.out HB.out));(case side4=>exact HC1_4.out);(case side5=>exact cx_ (Kd.C_below HR1_5.out HB.out));(case side6=>exact HC1_5.out);(case side7=>exact HLW.out.below bx_);rintro e w34 ⟨rfl,hb⟩;refine ⟨_,rfl,?_⟩;replace BK224:=bb_ BK224 hb;replace HB:=bs_ hb;(try clear hb)))
   go_ret2
   exact ⟨rf_,bx_⟩
 ·rw [if_neg c4] at H
  have c4b0:(t226 == 0) = false:=beq_eq_false_iff_ne.mpr c4
  have c4b1:(t226 != 0) = true:=bne_iff_ne.mpr c4
  simp only [Option.some.injEq,Prod.mk.injEq] at H
  obtain ⟨rfl,rfl⟩:=H
  go_enter Tryz.func60,Tryz.ntmps60
  go_wp2_with (first|((with_reducible refine gate_dst (N:=3) rfl ?_);refine bv_ #[.int .i64 a1_0,.int .i64 a1_1,.int .i64 a1_2,.slice A1_3 l1_3.length c1_3,.slice A1_4 l1_4.length c1_4,.slice A1_5 l1_5.length c1_5] 26 ?_;clear HB;intro gb224 hg w35 BK224 GE224 hb HB;clear hb hg;obtain ⟨hcz36_0,hcz36_1,hcz36_2,hcz36_3,hcz36_4,hcz36_5,hfz36_0,hfz36_1,hfz36_2,hfz36_3,hfz36_4,hfz36_5⟩:=c6_ BK224)|((with_reducible refine gate_callee (f:=12) rfl ?_);refine gm_ (some 11) Tryz.func12 #[.agg #[.int .i64 a1_0,.int .i64 a1_1,.int .i64 a1_2,.slice A1_3 l1_3.length c1_3,.slice A1_4 l1_4.length c1_4,.slice A1_5 l1_5.length c1_5]] ?_;(with_reducible refine (record_Encode.calls k a1_0 a1_1 a1_2 _ _ l1_3 _ _ l1_4 _ _ l1_5 t225 t226 _ ?side1 ?side2 ?side3 ?side4 ?side5 ?side6 ?side7 A3.out).mono ?_);(case side1=>exact cx_ (Kd.C_below HR1_3.out HB.out));(case side2=>exact HC1_3.out);(case side3=>exact cx_ (Kd.C_below HR1_4.out HB.out));(case side4=>exact HC1_4.out);(case side5=>exact cx_ (Kd.C_below HR1_5.out HB.out));(case side6=>exact HC1_5.out);(case side7=>exact HLW.out.below bx_);rintro e w37 ⟨rfl,hb⟩;refine ⟨_,rfl,?_⟩;replace BK224:=bb_ BK224 hb;replace HB:=bs_ hb;(try clear hb)))
  go_ret2
  exact ⟨rf_,bx_⟩
end Go.Proofs.YtcmbggahndfnnaaGreatDoor.Pr
namespace Go.Proofs.YtcmbggahndfnnaaGreatDoor.Pr
open Go.RowKit Go.Proofs.YtcmbggahndfnnaaGreatDoorW.PrintWords Go.Proofs.YtcmbggahndfnnaaGreatDoorW.PrintLast Go.Proofs.YtcmbggahndfnnaaGreatDoorW.PrintMore
def rotr (x n:Int):Int:=Go.bits .or .u32 (shr .u32 x n) (shl .u32 x (32 - n))
def add32 (x y:Int):Int:=IntKind.u32.wrap (x + y)
def xor32 (x y:Int):Int:=Go.bits .xor .u32 x y
def and32 (x y:Int):Int:=Go.bits .and .u32 x y
def or32 (x y:Int):Int:=Go.bits .or .u32 x y
def shaK:List Int:=[0x428a2f98,0x71374491,0xb5c0fbcf,0xe9b5dba5,0x3956c25b,0x59f111f1,0x923f82a4,0xab1c5ed5,
    0xd807aa98,0x12835b01,0x243185be,0x550c7dc3,0x72be5d74,0x80deb1fe,0x9bdc06a7,0xc19bf174,
    0xe49b69c1,0xefbe4786,0x0fc19dc6,0x240ca1cc,0x2de92c6f,0x4a7484aa,0x5cb0a9dc,0x76f988da,
    0x983e5152,0xa831c66d,0xb00327c8,0xbf597fc7,0xc6e00bf3,0xd5a79147,0x06ca6351,0x14292967,
    0x27b70a85,0x2e1b2138,0x4d2c6dfc,0x53380d13,0x650a7354,0x766a0abb,0x81c2c92e,0x92722c85,
    0xa2bfe8a1,0xa81a664b,0xc24b8b70,0xc76c51a3,0xd192e819,0xd6990624,0xf40e3585,0x106aa070,
    0x19a4c116,0x1e376c08,0x2748774c,0x34b0bcb5,0x391c0cb3,0x4ed8aa4a,0x5b9cca4f,0x682e6ff3,
    0x748f82ee,0x78a5636f,0x84c87814,0x8cc70208,0x90befffa,0xa4506ceb,0xbef9a3f7,0xc67178f2]
structure H8 where
 a:Int
 b:Int
 c:Int
 d:Int
 e:Int
 f:Int
 g:Int
 h:Int
def H8.cells (s:H8):Array Value:=#[.int .u32 s.a,.int .u32 s.b,.int .u32 s.c,.int .u32 s.d,.int .u32 s.e,.int .u32 s.f,.int .u32 s.g,.int .u32 s.h]
def H8.list (s:H8):List Int:=[s.a,s.b,s.c,s.d,s.e,s.f,s.g,s.h]
def shaWord (p:ByteArray) (i:Nat):Int :=
 or32 (or32 (or32 (shl .u32 (bt p (4 * i)) 24) (shl .u32 (bt p (4 * i + 1)) 16)) (shl .u32 (bt p (4 * i + 2)) 8)) (bt p (4 * i + 3))
def shaNext (p:ByteArray) (l:List Int):Int :=
 if l.length < 16 then shaWord p l.length
 else
  let y:=rd l (l.length - 2)
  let x:=rd l (l.length - 15)
  add32 (add32 (add32 (xor32 (xor32 (rotr y 17) (rotr y 19)) (shr .u32 y 10)) (rd l (l.length - 7))) (xor32 (xor32 (rotr x 7) (rotr x 18)) (shr .u32 x 3))) (rd l (l.length - 16))
def shaSched (p:ByteArray):Nat→List Int
 | 0=>[]
 | n + 1=>shaSched p n ++ [shaNext p (shaSched p n)]
def shaT (s:H8) (k w:Int):Int :=
 add32 (add32 (add32 (add32 s.h (xor32 (xor32 (rotr s.e 6) (rotr s.e 11)) (rotr s.e 25))) (xor32 (and32 s.e s.f) (and32 (Go.bits .xor .u32 4294967295 s.e) s.g))) k) w
def shaU (s:H8):Int :=
 add32 (xor32 (xor32 (rotr s.a 2) (rotr s.a 13)) (rotr s.a 22)) (xor32 (xor32 (and32 s.a s.b) (and32 s.a s.c)) (and32 s.b s.c))
def shaRound (s:H8) (k w:Int):H8:=⟨add32 (shaT s k w) (shaU s),s.a,s.b,s.c,add32 s.d (shaT s k w),s.e,s.f,s.g⟩
def shaRounds (s:H8) (w:List Int):Nat→H8
 | 0=>s
 | n + 1=>shaRound (shaRounds s w n) (rd shaK n) (rd w n)
def H8.plus (s v:H8):H8:=⟨add32 v.a s.a,add32 v.b s.b,add32 v.c s.c,add32 v.d s.d,add32 v.e s.e,add32 v.f s.f,add32 v.g s.g,add32 v.h s.h⟩
def shaBlock (s:H8) (p:ByteArray):H8:=H8.plus s (shaRounds s (shaSched p 64) 64)
def shaInit:H8:=⟨0x6a09e667,0xbb67ae85,0x3c6ef372,0xa54ff53a,0x510e527f,0x9b05688c,0x1f83d9ab,0x5be0cd19⟩
theorem shaSched_length (p:ByteArray) (n:Nat):(shaSched p n).length = n:=by
 induction n with
 | zero=>rfl
 | succ n ih=>simp [shaSched,ih]
end Go.Proofs.YtcmbggahndfnnaaGreatDoor.Pr
namespace Go.Proofs.YtcmbggahndfnnaaGreatDoor.Pr
open Go.RowKit Go.Proofs.YtcmbggahndfnnaaGreatDoorW.PrintWords Go.Proofs.YtcmbggahndfnnaaGreatDoorW.PrintLast Go.Proofs.YtcmbggahndfnnaaGreatDoorW.PrintMore
attribute [local go_sem] max2_int min2_int max_two min_two max_three min_three max_four min_four
set_option maxHeartbeats 8000000
set_option maxRecDepth 100000
set_option linter.unusedVariables false
set_option linter.unusedSimpArgs false
def bits_RotateLeft32.f (a0:Int) (a1:Int):Option (Int):=if 0≤(Go.bits .and .u64 (IntKind.u64.wrap (a1)) 31) then (if 0≤(IntKind.u64.wrap (32 - (Go.bits .and .u64 (IntKind.u64.wrap (a1)) 31))) then (some (Go.bits .or .u32 (shl .u32 a0 (Go.bits .and .u64 (IntKind.u64.wrap (a1)) 31)) (shr .u32 a0 (IntKind.u64.wrap (32 - (Go.bits .and .u64 (IntKind.u64.wrap (a1)) 31)))))) else (none)) else (none)
end Go.Proofs.YtcmbggahndfnnaaGreatDoor.Pr
namespace Go.Proofs.YtcmbggahndfnnaaGreatDoor.Pr
open Go.RowKit Go.Proofs.YtcmbggahndfnnaaGreatDoorW.PrintWords Go.Proofs.YtcmbggahndfnnaaGreatDoorW.PrintLast Go.Proofs.YtcmbggahndfnnaaGreatDoorW.PrintMore
attribute [local go_sem] max2_int min2_int max_two min_two max_three min_three max_four min_four
set_option maxHeartbeats 8000000
set_option maxRecDepth 100000
set_option linter.unusedVariables false
set_option linter.unusedSimpArgs false
def record_rot.f (a0:Int) (a1:Int):Option (Int):=(bits_RotateLeft32.f a0 (wrap64 (-a1))).bind fun t229=>(some t229)
end Go.Proofs.YtcmbggahndfnnaaGreatDoor.Pr
namespace Go.Proofs.YtcmbggahndfnnaaGreatDoor.Pr
set_option linter.unusedVariables false
set_option linter.unusedSimpArgs false
open Go.RowKit Go.Proofs.YtcmbggahndfnnaaGreatDoorW.PrintWords Go.Proofs.YtcmbggahndfnnaaGreatDoorW.PrintLast Go.Proofs.YtcmbggahndfnnaaGreatDoorW.PrintMore
theorem bits_or_comm (x y:Int):Go.bits .or .u32 x y = Go.bits .or .u32 y x:=by
 unfold Go.bits
 simp [BitVec.or_comm]
theorem rot_count:∀ n:Fin 32,0 < n.val→Go.bits .and .u64 (IntKind.u64.wrap (wrap64 (-(n.val:Int)))) 31 = 32 - (n.val:Int)∧IntKind.u64.wrap (32 - (32 - (n.val:Int))) = n.val∧wrap64 (32 - (n.val:Int)) = 32 - (n.val:Int):=by decide +kernel
theorem rot_f (x:Int) (n:Nat) (h0:0 < n) (h1:n < 32):record_rot.f x (n:Int) = some (rotr x n):=by
 obtain ⟨a,b,_⟩:=rot_count ⟨n,h1⟩ h0
 unfold record_rot.f bits_RotateLeft32.f
 simp only [] at a b
 rw [a,b,if_pos (by omega),if_pos (by omega),Option.bind_some,bits_or_comm]
 rfl
set_option maxHeartbeats 8000000 in
set_option maxRecDepth 100000 in
theorem rl78_same (a0:Int) (a1:Int) (r:Int) (w:World) (h:bits_RotateLeft32.f a0 a1 = some r) :
  Calls Tryz.prog 102 #[.int .u32 a0,.int .i64 a1] w fun e w'=>e = .returned (.int .u32 r)∧w' = w:=by
 have H:(if 0≤(Go.bits .and .u64 (IntKind.u64.wrap (a1)) 31) then (if 0≤(IntKind.u64.wrap (32 - (Go.bits .and .u64 (IntKind.u64.wrap (a1)) 31))) then (some (Go.bits .or .u32 (shl .u32 a0 (Go.bits .and .u64 (IntKind.u64.wrap (a1)) 31)) (shr .u32 a0 (IntKind.u64.wrap (32 - (Go.bits .and .u64 (IntKind.u64.wrap (a1)) 31)))))) else (none)) else (none)) = some r:=h
 clear h
 obtain ⟨ji3,hji3⟩:∃ j_:Int,(Go.bits .and .u64 (IntKind.u64.wrap (a1)) 31) = j_:=⟨_,rfl⟩
 replace H:(if 0≤(ji3) then (if 0≤(IntKind.u64.wrap (32 - (ji3))) then (some (Go.bits .or .u32 (shl .u32 a0 (ji3)) (shr .u32 a0 (IntKind.u64.wrap (32 - (ji3)))))) else (none)) else (none)) = some r:=by first|(rw [hji3] at H;exact H)|(simp only [hji3] at H ⊢;exact H)
 by_cases c4:0≤(ji3)
 ·rw [if_pos c4] at H
  have c4b0:=eq_true c4
  have c4b1:decide (0≤(ji3)) = true:=decide_eq_true c4
  clear c4
  obtain ⟨ji5,hji5⟩:∃ j_:Int,(shl .u32 a0 (ji3)) = j_:=⟨_,rfl⟩
  replace H:(if 0≤(IntKind.u64.wrap (32 - (ji3))) then (some (Go.bits .or .u32 (ji5) (shr .u32 a0 (IntKind.u64.wrap (32 - (ji3)))))) else (none)) = some r:=by first|(rw [hji5] at H;exact H)|(simp only [hji5] at H ⊢;exact H)
  have hji5_:(IntKind.u32.wrap (a0 * 2 ^ min (ji3).toNat 32)) = ji5:=hji5
  have hji5z:(ji3)≤32→(IntKind.u32.wrap (a0 * 2 ^ (ji3).toNat)) = ji5:=shl_small hji5
  obtain ⟨ji6,hji6⟩:∃ j_:Int,(IntKind.u64.wrap (32 - (ji3))) = j_:=⟨_,rfl⟩
  replace H:(if 0≤(ji6) then (some (Go.bits .or .u32 (ji5) (shr .u32 a0 (ji6)))) else (none)) = some r:=by first|(rw [hji6] at H;exact H)|(simp only [hji6] at H ⊢;exact H)
  by_cases c7:0≤(ji6)
  ·rw [if_pos c7] at H
   have c7b0:=eq_true c7
   have c7b1:decide (0≤(ji6)) = true:=decide_eq_true c7
   clear c7
   obtain ⟨ji8,hji8⟩:∃ j_:Int,(shr .u32 a0 (ji6)) = j_:=⟨_,rfl⟩
   replace H:(some (Go.bits .or .u32 (ji5) (ji8))) = some r:=by first|(rw [hji8] at H;exact H)|(simp only [hji8] at H ⊢;exact H)
   have hji8_:(a0 / 2 ^ min (ji6).toNat 32) = ji8:=hji8
   have hji8z:(ji6)≤32→(a0 / 2 ^ (ji6).toNat) = ji8:=shr_small hji8
   obtain rfl:=Option.some.inj H
   go_enter Tryz.func102,Tryz.ntmps102
   go_wp2
   go_ret
   exact ⟨by first|rfl|(simp;done)|(simp only [← hji3,← hji5,← hji6,← hji8]<;>(first|rfl|simp))|(simp [*];done),rfl⟩
  ·rw [if_neg c7] at H
   exact absurd H (by simp)
 ·rw [if_neg c4] at H
  exact absurd H (by simp)
set_option maxHeartbeats 8000000 in
set_option maxRecDepth 100000 in
theorem rot71_same (a0:Int) (a1:Int) (r:Int) (w:World) (h:record_rot.f a0 a1 = some r) :
  Calls Tryz.prog 80 #[.int .u32 a0,.int .i64 a1] w fun e w'=>e = .returned (.int .u32 r)∧w' = w:=by
 have H:((bits_RotateLeft32.f a0 (wrap64 (-a1))).bind fun t101=>(some t101)) = some r:=h
 clear h
 replace H:=Option.bind_eq_some_iff.mp H
 obtain ⟨t101,A30,H⟩:=H
 replace H:(some t101) = some r:=H
 have A3:=Aside0.mk A30
 clear A30
 obtain rfl:=Option.some.inj H
 go_enter Tryz.func80,Tryz.ntmps80
 go_wp2_with (first|((with_reducible refine gate_callee (f:=102) rfl ?_);refine goesL_ (some 8) rfl rfl Tryz.func102 (by kernel_rfl) rfl #[.int .u32 a0,.int .i64 (wrap64 (-a1))] rfl (by (try simp only [List.map_toArray,List.map_cons,List.map_nil]);first|done|rfl|(simp only [List.length_drop,List.length_take];rfl)) ?_;(with_reducible refine (rl78_same a0 (wrap64 (-a1)) t101 _ A3.out).mono ?_);rintro e w' ⟨rfl,rfl⟩;refine ⟨_,rfl,?_⟩))
 go_ret
 exact ⟨by first|rfl|(simp;done)|(simp [*];done),rfl⟩
theorem rot71 (x:Int) (n:Nat) (h0:0 < n) (h1:n < 32) (w:World):Calls Tryz.prog 80 #[.int .u32 x,.int .i64 (n:Int)] w fun e w'=>e = .returned (.int .u32 (rotr x n))∧w' = w:=rot71_same x n _ w (rot_f x n h0 h1)
end Go.Proofs.YtcmbggahndfnnaaGreatDoor.Pr
namespace Go.Proofs.YtcmbggahndfnnaaGreatDoor.Pr
set_option linter.unusedVariables false
set_option linter.unusedSimpArgs false
open Go.RowKit Go.Proofs.YtcmbggahndfnnaaGreatDoorW.PrintWords Go.Proofs.YtcmbggahndfnnaaGreatDoorW.PrintLast Go.Proofs.YtcmbggahndfnnaaGreatDoorW.PrintMore
theorem C_of_blk {W:World} {g t n:Nat} {k:IntKind} {xs:List Int} (h:W.heap[g]? = some (.cells (nums k xs).toArray t (0,0))) (hl:xs.length = n) (hn:n≤9223372036854775807):Kd.C (Kd.int k) W (some ⟨g,0,none⟩) n xs:=by
 refine ⟨hl,hn,fun _=>⟨_,rfl,fun j p hj=>⟨[.int k p],rfl,rfl,fun i u hu=>?_⟩⟩⟩
 cases i with
 | zero =>
  have hu':Value.int k p = u:=by simpa using hu
  subst hu'
  show W.cell? ((⟨g,0,none⟩:Addr).add (j * 1 + 0)) = _
  have:(⟨g,0,none⟩:Addr).add (j * 1 + 0) = ⟨g,j,none⟩:=by unfold Addr.add;split<;>simp<;>omega
  rw [this,blk_cell h]
  simp [nums,hj]
 | succ i=>simp at hu
theorem nums_set (k:IntKind) (xs:List Int) (n z:Nat) (x y:Int) (h:xs.length = n):(nums k (xs ++ y :: List.replicate z 0)).toArray.setIfInBounds n (.int k x) = (nums k (xs ++ [x] ++ List.replicate z 0)).toArray:=by
 subst h
 simp [nums]
end Go.Proofs.YtcmbggahndfnnaaGreatDoor.Pr
namespace Go.Proofs.YtcmbggahndfnnaaGreatDoor.Pr
set_option linter.unusedVariables false
set_option linter.unusedSimpArgs false
open Go.RowKit Go.Proofs.YtcmbggahndfnnaaGreatDoorW.PrintWords Go.Proofs.YtcmbggahndfnnaaGreatDoorW.PrintLast Go.Proofs.YtcmbggahndfnnaaGreatDoorW.PrintMore
theorem grown_setRow {W:World} {g:Nat} (hg:g < W.heap.size) (cs:Array Value):W.grownBy (W.setRow g cs) (some g):=by
 refine ⟨rfl,rfl,rfl,by simp,fun k hk hne=>?_⟩
 exact setRow_other W g k cs (fun e=>hne (by rw [e]))
theorem store_event {P:Program} {ops:Array Oper} {rest:List Oper} {o:Oper} {a:Act} {W:World} {Q:Exit→Act→World→Prop} (hgd:o.guard = none) (ty:TypeId) (x y:Operand) (ho:o.op = .store ty x y)
  (hd:o.dst = none) (g:Nat) (cells:Array Value) (hx:a.eval x = .pointer (some ⟨g,0,none⟩)) (hy:a.eval y = .agg cells)
  (t:TypeId) (old:Array Value) (hg:W.heap[g]? = some (.cells old t (0,0))) (hi:(P.info? ty).map (·.size) = some cells.size) (hold:old.size = cells.size) (h1:cells.all (·.oneCell') = true)
  (h:∀ w1,w1.heap[g]? = some (.cells cells t (0,0))→W.grownBy w1 (some g)→wpList P ops Q rest a w1):wpList P ops Q (o :: rest) a W :=
 wpList_store_rowTo hgd ty x y ho hd g cells hx hy t old hg hi hold h1 (h _ (setRow_heap W g old cells t (0,0) hg) (grown_setRow (blk_lt hg) cells))
end Go.Proofs.YtcmbggahndfnnaaGreatDoor.Pr
namespace Go.Proofs.YtcmbggahndfnnaaGreatDoor.Pr
set_option linter.unusedVariables false
set_option linter.unusedSimpArgs false
open Go.RowKit Go.Proofs.YtcmbggahndfnnaaGreatDoorW.PrintWords Go.Proofs.YtcmbggahndfnnaaGreatDoorW.PrintLast Go.Proofs.YtcmbggahndfnnaaGreatDoorW.PrintMore
def schedCells (p:ByteArray) (k:Nat):Array Value:=(nums .u32 (shaSched p k ++ List.replicate (64 - k) 0)).toArray
theorem rot71_2 (x:Int) (w:World):Calls Tryz.prog 80 #[.int .u32 x,.int .i64 2] w fun e w'=>e = .returned (.int .u32 (rotr x 2))∧w' = w:=rot71 x 2 (by decide) (by decide) w
theorem rot71_6 (x:Int) (w:World):Calls Tryz.prog 80 #[.int .u32 x,.int .i64 6] w fun e w'=>e = .returned (.int .u32 (rotr x 6))∧w' = w:=rot71 x 6 (by decide) (by decide) w
theorem rot71_7 (x:Int) (w:World):Calls Tryz.prog 80 #[.int .u32 x,.int .i64 7] w fun e w'=>e = .returned (.int .u32 (rotr x 7))∧w' = w:=rot71 x 7 (by decide) (by decide) w
theorem rot71_11 (x:Int) (w:World):Calls Tryz.prog 80 #[.int .u32 x,.int .i64 11] w fun e w'=>e = .returned (.int .u32 (rotr x 11))∧w' = w:=rot71 x 11 (by decide) (by decide) w
theorem rot71_13 (x:Int) (w:World):Calls Tryz.prog 80 #[.int .u32 x,.int .i64 13] w fun e w'=>e = .returned (.int .u32 (rotr x 13))∧w' = w:=rot71 x 13 (by decide) (by decide) w
theorem rot71_17 (x:Int) (w:World):Calls Tryz.prog 80 #[.int .u32 x,.int .i64 17] w fun e w'=>e = .returned (.int .u32 (rotr x 17))∧w' = w:=rot71 x 17 (by decide) (by decide) w
theorem rot71_18 (x:Int) (w:World):Calls Tryz.prog 80 #[.int .u32 x,.int .i64 18] w fun e w'=>e = .returned (.int .u32 (rotr x 18))∧w' = w:=rot71 x 18 (by decide) (by decide) w
theorem rot71_19 (x:Int) (w:World):Calls Tryz.prog 80 #[.int .u32 x,.int .i64 19] w fun e w'=>e = .returned (.int .u32 (rotr x 19))∧w' = w:=rot71 x 19 (by decide) (by decide) w
theorem rot71_22 (x:Int) (w:World):Calls Tryz.prog 80 #[.int .u32 x,.int .i64 22] w fun e w'=>e = .returned (.int .u32 (rotr x 22))∧w' = w:=rot71 x 22 (by decide) (by decide) w
theorem rot71_25 (x:Int) (w:World):Calls Tryz.prog 80 #[.int .u32 x,.int .i64 25] w fun e w'=>e = .returned (.int .u32 (rotr x 25))∧w' = w:=rot71 x 25 (by decide) (by decide) w
theorem add32_mod (x y:Int):add32 x y = (x + y) % 4294967296:=by
 unfold add32 IntKind.wrap
 simp [IntKind.bits,IntKind.signed]
theorem add32_4 (a b c d:Int):add32 (add32 (add32 a b) c) d = (a + b + c + d) % 4294967296:=by simp only [add32_mod];omega
theorem wrap_byte (u:UInt8):IntKind.u32.wrap (u.toNat:Int) = (u.toNat:Int):=by
 have h:=u.toNat_lt
 unfold IntKind.wrap
 simp [IntKind.bits,IntKind.signed]
 omega
theorem bt_of (p:ByteArray) (i:Nat) (j:Int) (h:i < p.size) (e:j = (i:Int)):((p[i]'h).toNat:Int) = bt p j:=by
 subst e
 exact bt_at p (i:Int) (by simpa using h)
theorem word_eq (p:ByteArray) (kk i0 i1 i2 i3:Nat) (l0:i0 < p.size) (l1:i1 < p.size) (l2:i2 < p.size) (l3:i3 < p.size) (e0:4 * kk = i0) (e1:4 * kk + 1 = i1) (e2:4 * kk + 2 = i2) (e3:4 * kk + 3 = i3) :
  shaWord p kk = Go.bits .or .u32 (Go.bits .or .u32 (Go.bits .or .u32 (IntKind.u32.wrap (IntKind.u32.wrap ((p[i0]'l0).toNat:Int) * 16777216)) (IntKind.u32.wrap (IntKind.u32.wrap ((p[i1]'l1).toNat:Int) * 65536))) (IntKind.u32.wrap (IntKind.u32.wrap ((p[i2]'l2).toNat:Int) * 256))) (IntKind.u32.wrap ((p[i3]'l3).toNat:Int)):=by
 rw [wrap_byte,wrap_byte,wrap_byte,wrap_byte,bt_of p i0 (4 * (kk:Int)) l0 (by omega),bt_of p i1 (4 * (kk:Int) + 1) l1 (by omega),bt_of p i2 (4 * (kk:Int) + 2) l2 (by omega),bt_of p i3 (4 * (kk:Int) + 3) l3 (by omega)]
 rfl
theorem sched_cell {W:World} {G kk t:Nat} {p:ByteArray} (h:W.heap[G]? = some (.cells (schedCells p kk) t (0,0))) (hk:kk < 64):W.cell? ⟨G,kk,none⟩ = some (.int .u32 0):=by
 rw [blk_cell h kk]
 obtain ⟨z,hz⟩:∃ z,64 - kk = z + 1:=⟨63 - kk,by omega⟩
 unfold schedCells
 rw [hz]
 simp [nums,shaSched_length,List.replicate_succ]
theorem sched_old {W:World} {G kk t j:Nat} {p:ByteArray} (h:W.heap[G]? = some (.cells (schedCells p kk) t (0,0))) (hj:j < kk):W.cell? ⟨G,j,none⟩ = some (.int .u32 (rd (shaSched p kk) j)):=by
 rw [blk_cell h j]
 unfold schedCells
 have hl:j < (shaSched p kk).length:=by rw [shaSched_length];exact hj
 simp [nums,List.getElem?_append_left,hl,rd,List.getD_eq_getElem?_getD]
def mixL (vl sl:List Int) (k:Nat):List Int:=(List.zipWith add32 vl sl).take k ++ vl.drop k
theorem list_cell {W:World} {G kk t:Nat} {xs:List Int} (h:W.heap[G]? = some (.cells (nums .u32 xs).toArray t (0,0))) (hj:kk < xs.length):W.cell? ⟨G,kk,none⟩ = some (.int .u32 (rd xs kk)):=by
 rw [blk_cell h kk]
 simp [nums,hj,rd,List.getD_eq_getElem?_getD]
theorem mix_at {vl sl:List Int} (h1:vl.length = 8) (h2:sl.length = 8) {k:Nat} (hk:k < 8):mixL vl sl k = (List.zipWith add32 vl sl).take k ++ rd vl k :: vl.drop (k + 1):=by
 unfold mixL
 congr 1
 rw [List.drop_eq_getElem_cons (by omega)]
 simp [rd,List.getD_eq_getElem?_getD,show k < vl.length by omega]
theorem mix_cell {W:World} {G kk t:Nat} {vl sl:List Int} (h1:vl.length = 8) (h2:sl.length = 8) (h:W.heap[G]? = some (.cells (nums .u32 (mixL vl sl kk)).toArray t (0,0))) (hj:kk < 8):W.cell? ⟨G,kk,none⟩ = some (.int .u32 (rd vl kk)):=by
 rw [blk_cell h kk,mix_at h1 h2 hj]
 have hl:((List.zipWith add32 vl sl).take kk).length = kk:=by simp [h1,h2];omega
 simp [nums,h1,h2,Nat.min_eq_left (Nat.le_of_lt hj)]
theorem mix_put {W:World} {G kk t:Nat} {vl sl:List Int} {x:Int} (h1:vl.length = 8) (h2:sl.length = 8) (h:W.heap[G]? = some (.cells (nums .u32 (mixL vl sl kk)).toArray t (0,0))) (hj:kk < 8) (hx:add32 (rd vl kk) (rd sl kk) = x) :
  (W.setCell ⟨G,kk,none⟩ (.int .u32 x)).heap[G]? = some (.cells (nums .u32 (mixL vl sl (kk + 1))).toArray t (0,0)):=by
 rw [mix_at h1 h2 hj] at h
 refine blk_put h kk _ ?_
 subst hx
 have hl:((List.zipWith add32 vl sl).take kk).length = kk:=by simp [h1,h2];omega
 have e:mixL vl sl (kk + 1) = (List.zipWith add32 vl sl).take kk ++ [add32 (rd vl kk) (rd sl kk)] ++ vl.drop (kk + 1):=by
  unfold mixL
  rw [List.take_succ_eq_append_getElem (by simp [h1,h2];exact hj)]
  simp [rd,List.getD_eq_getElem?_getD,h1,h2,hj]
 rw [e]
 simp [nums,h1,h2,Nat.min_eq_left (Nat.le_of_lt hj)]
theorem k_cell {W:World} {G kk t:Nat} (h:W.heap[G]? = some (.cells (nums .u32 shaK).toArray t (0,0))) (hj:kk < 64):W.cell? ⟨G,kk,none⟩ = some (.int .u32 (rd shaK kk)):=by
 rw [blk_cell h kk]
 have hl:kk < shaK.length:=hj
 simp [nums,hl,rd,List.getD_eq_getElem?_getD]
theorem sched_put {W:World} {G kk t:Nat} {p:ByteArray} {x:Int} (h:W.heap[G]? = some (.cells (schedCells p kk) t (0,0))) (hk:kk < 64) (hx:shaNext p (shaSched p kk) = x) :
  (W.setCell ⟨G,kk,none⟩ (.int .u32 x)).heap[G]? = some (.cells (schedCells p (kk + 1)) t (0,0)):=by
 refine blk_put h kk _ ?_
 subst hx
 obtain ⟨z,hz⟩:∃ z,64 - kk = z + 1:=⟨63 - kk,by omega⟩
 unfold schedCells
 rw [hz,List.replicate_succ,show 64 - (kk + 1) = z from by omega]
 exact nums_set .u32 (shaSched p kk) kk z _ 0 (shaSched_length _ _)
set_option maxHeartbeats 4000000 in
set_option maxRecDepth 100000 in
theorem block56 (s:H8) (p:ByteArray) (w:World) (hp:p.size = 64) :
  Calls Tryz.prog 69 #[.agg s.cells,.string p] w fun e w'=>e = .returned (.agg (shaBlock s p).cells)∧Below w.heap.size w w':=by
 have HP:=Aside0.mk hp
 have hp1:64≤p.size:=by omega
 have hp2:p.size≤64:=by omega
 clear hp
 obtain ⟨s0,s1,s2,s3,s4,s5,s6,s7⟩:=s
 show Calls Tryz.prog 69 #[.agg #[.int .u32 s0,.int .u32 s1,.int .u32 s2,.int .u32 s3,.int .u32 s4,.int .u32 s5,.int .u32 s6,.int .u32 s7],.string p] w _
 go_enter Tryz.func69,Tryz.ntmps69
 go_wp2_with (first
  | ((with_reducible refine gate_dst (N:=21) rfl ?_);refine wpList_buildFlatArrTo rfl 126 101 64 _ rfl .u32 shaK (some 21) rfl Tryz.underlying126 (by kernel_rfl) (by kernel_rfl) (by kernel_rfl) ?_)
  | ((with_reducible refine gate_dst (N:=5) rfl ?_);refine box_event rfl (N:=5) rfl (cs:=(nums .u32 (List.replicate 64 0)).toArray) (t:=126) (by first|(go_simp;done)|(go_simp;rfl)) ?_;intro g5 hg5 w5 hb5 hB5)
  | ((with_reducible refine gate_store (t:=126) (p:=5) (v:=.tmp 21) rfl ?_);refine store_event rfl 126 (.tmp 5) (.tmp 21) rfl rfl g5 (nums .u32 shaK).toArray rfl rfl 126 _ hb5 (by kernel_rfl) (by kernel_rfl) (by kernel_rfl) ?_;intro w6 hb6 hG6)
  | ((with_reducible refine gate_dst (N:=6) rfl ?_);refine box_event rfl (N:=6) rfl (cs:=(nums .u32 (List.replicate 64 0)).toArray) (t:=126) (by first|(go_simp;done)|(go_simp;rfl)) ?_;intro g7 hg7 w7 hb7 hB7))
 have hs1:w.heap.size + 2 < w5.heap.size:=by have:=blk_lt hb5;rw [hg5] at this;simp at this;omega
 have e5:g5 = w.heap.size + 1 + 1:=by rw [hg5];simp
 have hs2:w5.heap.size≤w6.heap.size:=hG6.size
 have hs3:w6.heap.size < w7.heap.size:=by have:=blk_lt hb7;rw [hg7] at this;exact this
 have B5:=Aside0.mk (below_step (below_alloc (below_alloc (Below.refl w.heap.size w) _) _) hB5)
 have B6:=Aside0.mk (pw_below_grown B5.out _ B5.out.size hG6 (fun k hk=>by injection hk with hk;omega))
 have B7:=Aside0.mk (below_step B6.out hB7)
 have S7:=Aside0.mk (blk_below (blk_grown (blk_below (blk_alloc (blk_new w _) _) hB5) hG6 (fun h=>by injection h with h;omega)) hB7)
 have R7:=Aside0.mk (show w7.heap[w.heap.size + 1]? = some (.cells (nums .u32 (List.replicate 8 0)).toArray 103 (0,0)) from by
  have h0:=blk_new (w.alloc (.cells #[.int .u32 s0,.int .u32 s1,.int .u32 s2,.int .u32 s3,.int .u32 s4,.int .u32 s5,.int .u32 s6,.int .u32 s7] 103)) (.cells (nums .u32 (List.replicate 8 0)).toArray 103)
  rw [show (w.alloc (.cells #[.int .u32 s0,.int .u32 s1,.int .u32 s2,.int .u32 s3,.int .u32 s4,.int .u32 s5,.int .u32 s6,.int .u32 s7] 103)).heap.size = w.heap.size + 1 from by simp] at h0
  exact blk_below (blk_grown (blk_below h0 hB5) hG6 (fun h=>by injection h with h;omega)) hB7)
 have K7:=Aside0.mk (show w7.heap[w.heap.size + 1 + 1]? = _ from e5 ▸ blk_below hb6 hB7)
 have Z7:=Aside0.mk (show w7.heap[w6.heap.size]? = _ from hg7 ▸ hb7)
 clear hb5 hB5 hb6 hG6 hb7 hB7 B5 B6 hg5 hg7 e5
 generalize hG:w6.heap.size = G at *
 have hs4:w.heap.size + 2 < G:=by omega
 clear hs1 hs2 hG w5 w6 g5 g7
 go_loopg [22] 64 (fun gg s22 wr=>∃ kk:Nat,kk≤64∧64 - kk≤gg∧s22 = .int .i64 kk∧Aside0 (Below w.heap.size w wr)
  ∧ Aside0 (wr.heap[w.heap.size]? = some (.cells #[.int .u32 s0,.int .u32 s1,.int .u32 s2,.int .u32 s3,.int .u32 s4,.int .u32 s5,.int .u32 s6,.int .u32 s7] 103 (0,0)))
  ∧ Aside0 (wr.heap[w.heap.size + 1 + 1]? = some (.cells (nums .u32 shaK).toArray 126 (0,0)))
  ∧ Aside0 (wr.heap[G]? = some (.cells (schedCells p kk) 126 (0,0)))
  ∧ Aside0 (wr.heap[w.heap.size + 1]? = some (.cells (nums .u32 (List.replicate 8 0)).toArray 103 (0,0))))
 case atStart =>
  exact ⟨0,Nat.zero_le _,by omega,rfl,B7,S7,K7,Z7,R7⟩
 case round =>
  obtain ⟨kk,hkk,hg,rfl,BW,BS,BKK,BK,BR⟩:=hrel
  by_cases hlt:kk < 64
  ·have hltz:(kk:Int) < 64:=by omega
   by_cases h16:kk < 16
   ·have h16z:(kk:Int) < 16:=by omega
    go_wp2_with fail
    have q0:IntKind.i64.wrap (4 * (kk:Int)) = ((4 * kk:Nat):Int):=by rw [IntWalk.i64_in _ (by omega)];omega
    have q1:IntKind.i64.wrap (((4 * kk:Nat):Int) + 1) = ((4 * kk + 1:Nat):Int):=by rw [IntWalk.i64_in _ (by omega)];omega
    have q2:IntKind.i64.wrap (((4 * kk:Nat):Int) + 2) = ((4 * kk + 2:Nat):Int):=by rw [IntWalk.i64_in _ (by omega)];omega
    have q3:IntKind.i64.wrap (((4 * kk:Nat):Int) + 3) = ((4 * kk + 3:Nat):Int):=by rw [IntWalk.i64_in _ (by omega)];omega
    have l0:4 * kk < p.size:=by omega
    have l1:4 * kk + 1 < p.size:=by omega
    have l2:4 * kk + 2 < p.size:=by omega
    have l3:4 * kk + 3 < p.size:=by omega
    generalize e1:4 * kk + 1 = i1 at q1 l1
    generalize e2:4 * kk + 2 = i2 at q2 l2
    generalize e3:4 * kk + 3 = i3 at q3 l3
    generalize e0:4 * kk = i0 at q0 q1 q2 q3 l0
    have E0:=Aside0.mk e0
    have E1:=Aside0.mk e1
    have E2:=Aside0.mk e2
    have E3:=Aside0.mk e3
    clear e0 e1 e2 e3
    go_still_tail 31,(by kernel_rfl)
    change wpList _ _ _ _ _ wr.drew
    have BW':=Aside0.mk (below_drew1 BW.out)
    have BS':=Aside0.mk (blk_drew BS.out)
    have BK':=Aside0.mk (blk_drew BKK.out)
    have BZ':=Aside0.mk (blk_drew BK.out)
    have BR':=Aside0.mk (blk_drew BR.out)
    generalize wr.drew = W at BW' BS' BK' BZ' BR' ⊢
    clear BW BS BKK BK BR
    have hc:W.cell? ⟨G,kk,none⟩ = some (.int .u32 0):=sched_cell BZ'.out hlt
    have hf:W.frozen? ⟨G,kk,none⟩ = false:=blk_frozen BZ'.out kk
    clear q0 q1 q2 q3
    go_wp2_with fail
    go_roundg (64 - (kk + 1))
    case measure=>omega
    case rel =>
     refine ⟨kk + 1,by omega,by omega,by go_num,⟨below_set BW'.out (by omega)⟩,⟨blk_far BS'.out (by show _≠G;omega) _⟩,⟨blk_far BK'.out (by show _≠G;omega) _⟩,⟨?_⟩,⟨blk_far BR'.out (by show _≠G;omega) _⟩⟩
     refine sched_put BZ'.out hlt ?_
     rw [shaNext,if_pos (by rw [shaSched_length];exact h16),shaSched_length]
     exact word_eq p kk i0 i1 i2 i3 l0 l1 l2 l3 E0.out E1.out E2.out E3.out
   ·have h16z:¬ (kk:Int) < 16:=by omega
    have q15:IntKind.i64.wrap ((kk:Int) - 15) = ((kk - 15:Nat):Int):=by rw [IntWalk.i64_in _ (by omega)];omega
    have q2:IntKind.i64.wrap ((kk:Int) - 2) = ((kk - 2:Nat):Int):=by rw [IntWalk.i64_in _ (by omega)];omega
    have q7:IntKind.i64.wrap ((kk:Int) - 7) = ((kk - 7:Nat):Int):=by rw [IntWalk.i64_in _ (by omega)];omega
    have q16:IntKind.i64.wrap ((kk:Int) - 16) = ((kk - 16:Nat):Int):=by rw [IntWalk.i64_in _ (by omega)];omega
    have c15:=sched_old BK.out (j:=kk - 15) (by omega)
    have c2:=sched_old BK.out (j:=kk - 2) (by omega)
    have c7:=sched_old BK.out (j:=kk - 7) (by omega)
    have c16:=sched_old BK.out (j:=kk - 16) (by omega)
    have m15:kk - 15 < 64:=by omega
    have m2:kk - 2 < 64:=by omega
    have m7:kk - 7 < 64:=by omega
    have m16:kk - 16 < 64:=by omega
    generalize e15:kk - 15 = i15 at q15 c15 m15
    generalize e2:kk - 2 = i2 at q2 c2 m2
    generalize e7:kk - 7 = i7 at q7 c7 m7
    generalize e16:kk - 16 = i16 at q16 c16 m16
    have E15:=Aside0.mk e15
    have E2:=Aside0.mk e2
    have E7:=Aside0.mk e7
    have E16:=Aside0.mk e16
    clear e15 e2 e7 e16
    have z7:(i7:Int) < 64:=by omega
    have z16:(i16:Int) < 64:=by omega
    generalize x15:rd (shaSched p kk) i15 = v15 at c15
    generalize x2:rd (shaSched p kk) i2 = v2 at c2
    generalize x7:rd (shaSched p kk) i7 = v7 at c7
    generalize x16:rd (shaSched p kk) i16 = v16 at c16
    have X15:=Aside0.mk x15
    have X2:=Aside0.mk x2
    have X7:=Aside0.mk x7
    have X16:=Aside0.mk x16
    clear x15 x2 x7 x16
    go_wp2_with fail
    go_quiet (fail)
    have BW':=Aside0.mk (pw_below_drewN BW.out nq)
    have BS':=Aside0.mk (blk_drewN BS.out nq)
    have BK':=Aside0.mk (blk_drewN BKK.out nq)
    have BZ':=Aside0.mk (blk_drewN BK.out nq)
    have BR':=Aside0.mk (blk_drewN BR.out nq)
    replace c15:(wr.drewN nq).cell? _ = _:=c15
    replace c2:(wr.drewN nq).cell? _ = _:=c2
    replace c7:(wr.drewN nq).cell? _ = _:=c7
    replace c16:(wr.drewN nq).cell? _ = _:=c16
    generalize wr.drewN nq = W0 at BW' BS' BK' BZ' BR' c15 c2 c7 c16 ⊢
    clear BW BS BKK BK BR
    go_wp2_with fail
    go_still_tail 29,(by kernel_rfl)
    still_call (rot71_17 _ _)
    repeat still_step
    still_call (rot71_19 _ _)
    repeat still_step
    still_call (rot71_7 _ _)
    repeat still_step
    still_call (rot71_18 _ _)
    repeat still_step
    refine wpStill_nil ?_
    change wpList _ _ _ _ _ W0.drew
    have BW:=Aside0.mk (below_drew1 BW'.out)
    have BS:=Aside0.mk (blk_drew BS'.out)
    have BKK:=Aside0.mk (blk_drew BK'.out)
    have BK:=Aside0.mk (blk_drew BZ'.out)
    have BR:=Aside0.mk (blk_drew BR'.out)
    generalize W0.drew = W at BW BS BKK BK BR ⊢
    clear BW' BS' BK' BZ' BR' c15 c2 c7 c16
    have hc:W.cell? ⟨G,kk,none⟩ = some (.int .u32 0):=sched_cell BK.out hlt
    have hf:W.frozen? ⟨G,kk,none⟩ = false:=blk_frozen BK.out kk
    clear q15 q2 q7 q16
    go_wp2_with fail
    go_roundg (64 - (kk + 1))
    case measure=>omega
    case rel =>
     refine ⟨kk + 1,by omega,by omega,by go_num,⟨below_set BW.out (by omega)⟩,⟨blk_far BS.out (by show _≠G;omega) _⟩,⟨blk_far BKK.out (by show _≠G;omega) _⟩,⟨?_⟩,⟨blk_far BR.out (by show _≠G;omega) _⟩⟩
     refine sched_put BK.out hlt ?_
     have n16:¬ (shaSched p kk).length < 16:=by rw [shaSched_length];exact h16
     rw [shaNext,if_neg n16,shaSched_length]
     rw [show ((kk:Int) - 2) = (i2:Int) from by have:=E2.out;omega,show ((kk:Int) - 15) = (i15:Int) from by have:=E15.out;omega,show ((kk:Int) - 7) = (i7:Int) from by have:=E7.out;omega,show ((kk:Int) - 16) = (i16:Int) from by have:=E16.out;omega]
     rw [X2.out,X15.out,X7.out,X16.out]
     exact add32_4 _ _ _ _
  ·have hltz:¬ (kk:Int) < 64:=by omega
   obtain rfl:kk = 64:=by omega
   have d0:wr.cell? ⟨w.heap.size,0,none⟩ = some (.int .u32 s0):=blk_cell BS.out 0
   have d1:wr.cell? ⟨w.heap.size,1,none⟩ = some (.int .u32 s1):=blk_cell BS.out 1
   have d2:wr.cell? ⟨w.heap.size,2,none⟩ = some (.int .u32 s2):=blk_cell BS.out 2
   have d3:wr.cell? ⟨w.heap.size,3,none⟩ = some (.int .u32 s3):=blk_cell BS.out 3
   have d4:wr.cell? ⟨w.heap.size,4,none⟩ = some (.int .u32 s4):=blk_cell BS.out 4
   have d5:wr.cell? ⟨w.heap.size,5,none⟩ = some (.int .u32 s5):=blk_cell BS.out 5
   have d6:wr.cell? ⟨w.heap.size,6,none⟩ = some (.int .u32 s6):=blk_cell BS.out 6
   have d7:wr.cell? ⟨w.heap.size,7,none⟩ = some (.int .u32 s7):=blk_cell BS.out 7
   have hG:=blk_lt BK.out
   go_wp2_with fail
   have BW2:=Aside0.mk (below_alloc BW.out (.cells #[.int .u32 s0,.int .u32 s1,.int .u32 s2,.int .u32 s3,.int .u32 s4,.int .u32 s5,.int .u32 s6,.int .u32 s7] 103))
   have BS2:=Aside0.mk (blk_alloc BS.out (.cells #[.int .u32 s0,.int .u32 s1,.int .u32 s2,.int .u32 s3,.int .u32 s4,.int .u32 s5,.int .u32 s6,.int .u32 s7] 103))
   have BKK2:=Aside0.mk (blk_alloc BKK.out (.cells #[.int .u32 s0,.int .u32 s1,.int .u32 s2,.int .u32 s3,.int .u32 s4,.int .u32 s5,.int .u32 s6,.int .u32 s7] 103))
   have BK2:=Aside0.mk (blk_alloc BK.out (.cells #[.int .u32 s0,.int .u32 s1,.int .u32 s2,.int .u32 s3,.int .u32 s4,.int .u32 s5,.int .u32 s6,.int .u32 s7] 103))
   have BR2:=Aside0.mk (blk_alloc BR.out (.cells #[.int .u32 s0,.int .u32 s1,.int .u32 s2,.int .u32 s3,.int .u32 s4,.int .u32 s5,.int .u32 s6,.int .u32 s7] 103))
   have BV2:=Aside0.mk (blk_new wr (.cells #[.int .u32 s0,.int .u32 s1,.int .u32 s2,.int .u32 s3,.int .u32 s4,.int .u32 s5,.int .u32 s6,.int .u32 s7] 103))
   generalize wr.alloc (.cells #[.int .u32 s0,.int .u32 s1,.int .u32 s2,.int .u32 s3,.int .u32 s4,.int .u32 s5,.int .u32 s6,.int .u32 s7] 103) = W1 at BW2 BS2 BKK2 BK2 BR2 BV2 ⊢
   clear d0 d1 d2 d3 d4 d5 d6 d7 BW BS BKK BK BR
   generalize wr.heap.size = H at hG BV2 ⊢
   go_loopg [97] 64 (fun gg s97 wr=>∃ kk:Nat,kk≤64∧64 - kk≤gg∧s97 = .int .i64 kk∧Aside0 (Below w.heap.size w wr)
    ∧ Aside0 (wr.heap[w.heap.size]? = some (.cells #[.int .u32 s0,.int .u32 s1,.int .u32 s2,.int .u32 s3,.int .u32 s4,.int .u32 s5,.int .u32 s6,.int .u32 s7] 103 (0,0)))
    ∧ Aside0 (wr.heap[w.heap.size + 1 + 1]? = some (.cells (nums .u32 shaK).toArray 126 (0,0)))
    ∧ Aside0 (wr.heap[G]? = some (.cells (schedCells p 64) 126 (0,0)))
    ∧ Aside0 (wr.heap[H]? = some (.cells (shaRounds ⟨s0,s1,s2,s3,s4,s5,s6,s7⟩ (shaSched p 64) kk).cells 103 (0,0)))
    ∧ Aside0 (wr.heap[w.heap.size + 1]? = some (.cells (nums .u32 (List.replicate 8 0)).toArray 103 (0,0))))
   case atStart=>exact ⟨0,Nat.zero_le _,by omega,rfl,BW2,BS2,BKK2,BK2,BV2,BR2⟩
   case round =>
    clear BW2 BS2 BKK2 BK2 BV2 BR2
    obtain ⟨kk,hkk,hg,rfl,BW,BS,BKK,BK,BV,BR⟩:=hrel
    by_cases hlt:kk < 64
    ·have hltz:(kk:Int) < 64:=by omega
     have hst:=BV.out
     generalize hs:shaRounds ⟨s0,s1,s2,s3,s4,s5,s6,s7⟩ (shaSched p 64) kk = st at hst
     have HS:=Aside0.mk hs
     clear hs BV
     obtain ⟨a,b,c,d,e,f,g,h⟩:=st
     have d0:wr.cell? ⟨H,0,none⟩ = some (.int .u32 a):=blk_cell hst 0
     have d1:wr.cell? ⟨H,1,none⟩ = some (.int .u32 b):=blk_cell hst 1
     have d2:wr.cell? ⟨H,2,none⟩ = some (.int .u32 c):=blk_cell hst 2
     have d3:wr.cell? ⟨H,3,none⟩ = some (.int .u32 d):=blk_cell hst 3
     have d4:wr.cell? ⟨H,4,none⟩ = some (.int .u32 e):=blk_cell hst 4
     have d5:wr.cell? ⟨H,5,none⟩ = some (.int .u32 f):=blk_cell hst 5
     have d6:wr.cell? ⟨H,6,none⟩ = some (.int .u32 g):=blk_cell hst 6
     have d7:wr.cell? ⟨H,7,none⟩ = some (.int .u32 h):=blk_cell hst 7
     have BV:=Aside0.mk hst
     clear hst
     go_wp2_with fail
     go_quiet (fail)
     clear d0 d1 d2 d3 d4 d5 d6 d7
     replace BW:=Aside0.mk (pw_below_drewN BW.out nq)
     replace BS:=Aside0.mk (blk_drewN BS.out nq)
     replace BKK:=Aside0.mk (blk_drewN BKK.out nq)
     replace BK:=Aside0.mk (blk_drewN BK.out nq)
     replace BV:=Aside0.mk (blk_drewN BV.out nq)
     replace BR:=Aside0.mk (blk_drewN BR.out nq)
     generalize wr.drewN nq = W2 at BW BS BKK BK BV BR ⊢
     have d7:W2.cell? ⟨H,7,none⟩ = some (.int .u32 h):=blk_cell BV.out 7
     have kc:W2.cell? ⟨w.heap.size + 1 + 1,kk,none⟩ = some (.int .u32 (rd shaK kk)):=k_cell BKK.out hlt
     have wc:W2.cell? ⟨G,kk,none⟩ = some (.int .u32 (rd (shaSched p 64) kk)):=sched_old BK.out hlt
     generalize hk1:rd shaK (kk:Int) = kv at kc
     generalize hw1:rd (shaSched p 64) (kk:Int) = wv at wc
     have HK1:=Aside0.mk hk1
     have HW1:=Aside0.mk hw1
     clear hk1 hw1
     go_wp2_with fail
     refine wp_region_still_lit (by kernel_rfl) (by kernel_rfl) ?_
     repeat still_step
     still_call (rot71_6 _ _)
     repeat still_step
     still_call (rot71_11 _ _)
     repeat still_step
     still_call (rot71_25 _ _)
     repeat still_step
     refine wpStill_nil ?_
     have hT:shaT ⟨a,b,c,d,e,f,g,h⟩ kv wv = IntKind.u32.wrap (IntKind.u32.wrap (IntKind.u32.wrap (IntKind.u32.wrap (h + Go.bits BinOp.xor IntKind.u32 (Go.bits BinOp.xor IntKind.u32 (rotr e 6) (rotr e 11)) (rotr e 25)) + Go.bits BinOp.xor IntKind.u32 (Go.bits BinOp.and IntKind.u32 e f) (Go.bits BinOp.and IntKind.u32 (Go.bits BinOp.xor IntKind.u32 (if IntKind.u32.signed = true then -1 else IntKind.u32.max) e) g)) + kv) + wv):=rfl
     rw [← hT]
     clear hT
     generalize hT:shaT ⟨a,b,c,d,e,f,g,h⟩ kv wv = T
     have HT:=Aside0.mk hT
     clear hT d7 kc wc
     change Exit.then _ _ _ _ W2.drew
     replace BW:=Aside0.mk (below_drew1 BW.out)
     replace BS:=Aside0.mk (blk_drew BS.out)
     replace BKK:=Aside0.mk (blk_drew BKK.out)
     replace BK:=Aside0.mk (blk_drew BK.out)
     replace BV:=Aside0.mk (blk_drew BV.out)
     replace BR:=Aside0.mk (blk_drew BR.out)
     generalize W2.drew = W3 at BW BS BKK BK BV BR ⊢
     have d3:W3.cell? ⟨H,3,none⟩ = some (.int .u32 d):=blk_cell BV.out 3
     go_wp2_with fail
     refine (rot71_2 _ _).mono ?_
     rintro e' w' ⟨rfl,rfl⟩
     go_wp2_with fail
     refine (rot71_13 _ _).mono ?_
     rintro e' w' ⟨rfl,rfl⟩
     go_wp2_with fail
     refine (rot71_22 _ _).mono ?_
     rintro e' w' ⟨rfl,rfl⟩
     go_wp2_with (((with_reducible refine gate_store (t:=103) (p:=10) (v:=.tmp 173) rfl ?_);(refine store_event rfl 103 (.tmp 10) (.tmp 173) rfl rfl H _ rfl rfl 103 _ BV.out (by kernel_rfl) (by rfl) (by simp [Value.oneCell']) ?_);intro w6 hb6 hG6))
     go_roundg (64 - (kk + 1))
     case measure=>omega
     case rel =>
      refine ⟨kk + 1,by omega,by omega,by go_num,⟨pw_below_grown BW.out _ BW.out.size hG6 (fun k hk=>by injection hk with hk;omega)⟩,⟨blk_grown BS.out hG6 (fun h=>by injection h with h;omega)⟩,⟨blk_grown BKK.out hG6 (fun h=>by injection h with h;omega)⟩,⟨blk_grown BK.out hG6 (fun h=>by injection h with h;omega)⟩,⟨?_⟩,⟨blk_grown BR.out hG6 (fun h=>by injection h with h;omega)⟩⟩
      rw [hb6]
      show _ = some (Obj.cells (shaRound (shaRounds ⟨s0,s1,s2,s3,s4,s5,s6,s7⟩ (shaSched p 64) kk) (rd shaK kk) (rd (shaSched p 64) kk)).cells 103 (0,0))
      rw [HS.out,HK1.out,HW1.out]
      unfold shaRound H8.cells
      rw [HT.out]
      unfold shaU
      simp only [add32_mod,xor32,and32]
      have e1:∀ x y:Int,(T + (x + y)) % 4294967296 = (T + (x + y) % 4294967296) % 4294967296:=fun x y=>by omega
      first|rfl|rw [e1]
    ·have hltz:¬ (kk:Int) < 64:=by omega
     obtain rfl:kk = 64:=by omega
     generalize hs:shaRounds ⟨s0,s1,s2,s3,s4,s5,s6,s7⟩ (shaSched p 64) 64 = st at BV
     have HS:=Aside0.mk hs
     clear hs
     obtain ⟨a,b,c,d,e,f,g,h⟩:=st
     go_wp2_with fail
     generalize hvl:([a,b,c,d,e,f,g,h]:List Int) = vl
     generalize hsl:([s0,s1,s2,s3,s4,s5,s6,s7]:List Int) = sl
     have hl1:vl.length = 8:=by rw [← hvl];rfl
     have hl2:sl.length = 8:=by rw [← hsl];rfl
     have V0:=Aside0.mk (show wr.heap[H]? = some (.cells (nums .u32 (mixL vl sl 0)).toArray 103 (0,0)) from by rw [← hvl,← hsl];exact BV.out)
     have S0:=Aside0.mk (show wr.heap[w.heap.size]? = some (.cells (nums .u32 sl).toArray 103 (0,0)) from by rw [← hsl];exact BS.out)
     have HVL:=Aside0.mk hvl
     have HSL:=Aside0.mk hsl
     have HL1:=Aside0.mk hl1
     have HL2:=Aside0.mk hl2
     clear hvl hsl hl1 hl2 BV BS BKK BK
     go_loopg [175] 8 (fun gg s175 wr=>∃ kk:Nat,kk≤8∧8 - kk≤gg∧s175 = .int .i64 kk∧Aside0 (Below w.heap.size w wr)
      ∧ Aside0 (wr.heap[w.heap.size]? = some (.cells (nums .u32 sl).toArray 103 (0,0)))
      ∧ Aside0 (wr.heap[H]? = some (.cells (nums .u32 (mixL vl sl kk)).toArray 103 (0,0)))
      ∧ Aside0 (wr.heap[w.heap.size + 1]? = some (.cells (nums .u32 (List.replicate 8 0)).toArray 103 (0,0))))
     case atStart=>exact ⟨0,Nat.zero_le _,by omega,rfl,BW,S0,V0,BR⟩
     case round =>
      clear V0 S0 BW BR
      obtain ⟨kk,hkk,hg,rfl,BW,BS,BV,BR⟩:=hrel
      by_cases hlt:kk < 8
      ·have hltz:(kk:Int) < 8:=by omega
       have vc:=mix_cell HL1.out HL2.out BV.out hlt
       have sc:=list_cell BS.out (show kk < sl.length by rw [HL2.out];exact hlt)
       generalize hv1:rd vl (kk:Int) = vv at vc
       generalize hs1:rd sl (kk:Int) = sv at sc
       have HV1:=Aside0.mk hv1
       have HS1:=Aside0.mk hs1
       clear hv1 hs1
       go_wp2_with fail
       go_still_tail 8,(by kernel_rfl)
       change wpList _ _ _ _ _ wr.drew
       replace BW:=Aside0.mk (below_drew1 BW.out)
       replace BS:=Aside0.mk (blk_drew BS.out)
       replace BV:=Aside0.mk (blk_drew BV.out)
       replace BR:=Aside0.mk (blk_drew BR.out)
       generalize wr.drew = W at BW BS BV BR ⊢
       clear vc sc
       have vc:=mix_cell HL1.out HL2.out BV.out hlt
       have hf:W.frozen? ⟨H,kk,none⟩ = false:=blk_frozen BV.out kk
       go_wp2_with fail
       go_roundg (8 - (kk + 1))
       case measure=>omega
       case rel =>
        refine ⟨kk + 1,by omega,by omega,by go_num,⟨below_set BW.out (by omega)⟩,⟨blk_far BS.out (by show _≠H;omega) _⟩,⟨?_⟩,⟨blk_far BR.out (by show _≠H;omega) _⟩⟩
        refine mix_put HL1.out HL2.out BV.out hlt ?_
        rw [HV1.out,HS1.out]
        exact add32_mod _ _
      ·have hltz:¬ (kk:Int) < 8:=by omega
       obtain rfl:kk = 8:=by omega
       have hb:wr.heap[H]? = some (.cells #[.int .u32 (add32 a s0),.int .u32 (add32 b s1),.int .u32 (add32 c s2),.int .u32 (add32 d s3),.int .u32 (add32 e s4),.int .u32 (add32 f s5),.int .u32 (add32 g s6),.int .u32 (add32 h s7)] 103 (0,0)):=by
        have h0:=BV.out
        rw [← HVL.out,← HSL.out] at h0
        exact h0
       have d0:=(blk_cell hb 0).trans rfl
       have d1:=(blk_cell hb 1).trans rfl
       have d2:=(blk_cell hb 2).trans rfl
       have d3:=(blk_cell hb 3).trans rfl
       have d4:=(blk_cell hb 4).trans rfl
       have d5:=(blk_cell hb 5).trans rfl
       have d6:=(blk_cell hb 6).trans rfl
       have d7:=(blk_cell hb 7).trans rfl
       clear hb
       go_wp2_with (((with_reducible refine gate_store (t:=103) (p:=4) (v:=.tmp 187) rfl ?_);refine store_event rfl 103 (.tmp 4) (.tmp 187) rfl rfl (w.heap.size + 1) _ rfl rfl 103 _ BR.out (by kernel_rfl) (by rfl) (by simp [Value.oneCell']) ?_;intro w6 hb6 hG6))
       have BW6:=pw_below_grown BW.out _ BW.out.size hG6 (fun k hk=>by injection hk with hk;omega)
       refine bodyPost_ret (results_cell_row Tryz.results69 _ _ (w.heap.size + 1) 103 _ (0,0) _ rfl hb6 Tryz.underlying103 rfl (by kernel_rfl)) rfl ⟨?_,BW6⟩
       unfold shaBlock
       rw [HS.out]
       rfl
end Go.Proofs.YtcmbggahndfnnaaGreatDoor.Pr
