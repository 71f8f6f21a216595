/- Part 6 of 6: walks and laws of functions that the last part joins. The words of the print (W..) are the kit's, cut down by program to what is used here. -/
import Derived.SliceStrings
import Derived.Test.YtcmbggahndfnnaaGreatDoorEz5
set_option linter.unusedVariables false
set_option linter.unusedSimpArgs false
namespace Go.Proofs.YtcmbggahndfnnaaGreatDoor.Pr
open Go.RowKit Go.Proofs.YtcmbggahndfnnaaGreatDoorW.PrintWords Go.Proofs.YtcmbggahndfnnaaGreatDoorW.PrintLast Go.Proofs.YtcmbggahndfnnaaGreatDoorW.PrintMore
attribute [local go_sem] max2_int min2_int max_two min_two max_three min_three max_four min_four
set_option maxHeartbeats 8000000
set_option maxRecDepth 100000
def garboardref57_CopyEvent.f (a0_0:Int) (a0_1:Int) (a0_2:Int) (l0_3:List Int) (l0_4:List ByteArray) (l0_5:List ByteArray):Option (Int × Int × Int × List Int × List ByteArray × List ByteArray):=(some (([]:List Int):List Int)).bind fun y439=>(if y439.length + l0_3.length < 17592186044416 then ((some (([]:List ByteArray):List ByteArray)).bind fun y445=>(if y445.length + l0_4.length < 8796093022208 then ((some (([]:List ByteArray):List ByteArray)).bind fun y451=>(if y451.length + l0_5.length < 8796093022208 then (some (a0_0,a0_1,a0_2,(y439 ++ l0_3),(y445 ++ l0_4),(y451 ++ l0_5))) else (none))) else (none))) else (none))
theorem garboardref57_CopyEvent.calls (a0_0:Int) (a0_1:Int) (a0_2:Int) (A0_3:Option Addr) (c0_3:Nat) (l0_3:List Int) (A0_4:Option Addr) (c0_4:Nat) (l0_4:List ByteArray) (A0_5:Option Addr) (c0_5:Nat) (l0_5:List ByteArray) (r1:Int) (r2:Int) (r3:Int) (r4:List Int) (r5:List ByteArray) (r6:List ByteArray) (w:World) (hr0_3:Kd.C (Kd.int .i64) w A0_3 l0_3.length l0_3) (hc0_3:l0_3.length≤c0_3) (hr0_4:Kd.C Kd.string w A0_4 l0_4.length l0_4) (hc0_4:l0_4.length≤c0_4) (hr0_5:Kd.C Kd.string w A0_5 l0_5.length l0_5) (hc0_5:l0_5.length≤c0_5) (h:garboardref57_CopyEvent.f a0_0 a0_1 a0_2 l0_3 l0_4 l0_5 = some (r1,r2,r3,r4,r5,r6)) :
  Calls Tryz.prog 13 #[.agg #[.int .i64 a0_0,.int .i64 a0_1,.int .i64 a0_2,.slice A0_3 l0_3.length c0_3,.slice A0_4 l0_4.length c0_4,.slice A0_5 l0_5.length c0_5]] w fun e w'=>∃ v3_ v4_ v5_:Value,e = .returned (.agg #[.int .i64 r1,.int .i64 r2,.int .i64 r3,v3_,v4_,v5_])∧Kd.R (Kd.int .i64) 3 w' w.heap.size (fun _=>True) v3_ r4∧Kd.R Kd.string 65 w' w.heap.size (fun _=>True) v4_ r5∧Kd.R Kd.string 9 w' w.heap.size (fun _=>True) v5_ r6∧Below w.heap.size w w':=by
 have Fw:=Tryz.underlying26
 have Br:=Aside0.mk hr0_3
 have Fs:=Aside0.mk hc0_3
 clear hr0_3 hc0_3
 have Bq:=Aside0.mk hr0_4
 have Fr:=Aside0.mk hc0_4
 clear hr0_4 hc0_4
 have Bp:=Aside0.mk hr0_5
 have Fq:=Aside0.mk hc0_5
 clear hr0_5 hc0_5
 have HB:=Aside0.mk (Below.refl w.heap.size w)
 have H:=h;clear h;unfold garboardref57_CopyEvent.f at H
 obtain ⟨y439,hy439⟩:∃ y_:List Int,y_ = (([]:List Int)):=⟨_,rfl⟩
 replace H:(if y439.length + l0_3.length < 17592186044416 then ((some (([]:List ByteArray):List ByteArray)).bind fun Ak=>(if Ak.length + l0_4.length < 8796093022208 then ((some (([]:List ByteArray):List ByteArray)).bind fun Af=>(if Af.length + l0_5.length < 8796093022208 then (some (a0_0,a0_1,a0_2,(y439 ++ l0_3),(Ak ++ l0_4),(Af ++ l0_5))) else (none))) else (none))) else (none)) = some (r1,r2,r3,r4,r5,r6):=by first|(rw [hy439];with_reducible exact H)|(have Ap:=(Option.bind_some _ _).symm.trans H;rw [hy439];with_reducible exact Ap)|(have Ap:=(Option.bind_some _ _).symm.trans H;with_reducible exact Ap)|with_reducible exact H|(rw [hy439];exact H)|exact H
 have Bi:=Aside0.mk hy439
 clear hy439
 by_cases c2:y439.length + l0_3.length < 17592186044416
 ·rw [if_pos c2] at H
  have Fo:=Aside0.mk c2
  clear c2
  obtain ⟨y442,hy442⟩:∃ y_:List Int,y_ = (y439 ++ l0_3):=⟨_,rfl⟩
  replace H:((some (([]:List ByteArray):List ByteArray)).bind fun Ak=>(if Ak.length + l0_4.length < 8796093022208 then ((some (([]:List ByteArray):List ByteArray)).bind fun Af=>(if Af.length + l0_5.length < 8796093022208 then (some (a0_0,a0_1,a0_2,y442,(Ak ++ l0_4),(Af ++ l0_5))) else (none))) else (none))) = some (r1,r2,r3,r4,r5,r6):=by first|(rw [hy442];with_reducible exact H)|(have Ap:=(Option.bind_some _ _).symm.trans H;rw [hy442];with_reducible exact Ap)|(have Ap:=(Option.bind_some _ _).symm.trans H;with_reducible exact Ap)|with_reducible exact H|(rw [hy442];exact H)|exact H
  have Bo:=Aside0.mk hy442
  clear hy442
  obtain ⟨Ak,hy445⟩:∃ y_:List ByteArray,y_ = (([]:List ByteArray)):=⟨_,rfl⟩
  replace H:(if Ak.length + l0_4.length < 8796093022208 then ((some (([]:List ByteArray):List ByteArray)).bind fun Af=>(if Af.length + l0_5.length < 8796093022208 then (some (a0_0,a0_1,a0_2,y442,(Ak ++ l0_4),(Af ++ l0_5))) else (none))) else (none)) = some (r1,r2,r3,r4,r5,r6):=by first|(rw [hy445];with_reducible exact H)|(have Ap:=(Option.bind_some _ _).symm.trans H;rw [hy445];with_reducible exact Ap)|(have Ap:=(Option.bind_some _ _).symm.trans H;with_reducible exact Ap)|with_reducible exact H|(rw [hy445];exact H)|exact H
  have Bh:=Aside0.mk hy445
  clear hy445
  by_cases c3:Ak.length + l0_4.length < 8796093022208
  ·rw [if_pos c3] at H
   have Fm:=Aside0.mk c3
   clear c3
   obtain ⟨y448,hy448⟩:∃ y_:List ByteArray,y_ = (Ak ++ l0_4):=⟨_,rfl⟩
   replace H:((some (([]:List ByteArray):List ByteArray)).bind fun Af=>(if Af.length + l0_5.length < 8796093022208 then (some (a0_0,a0_1,a0_2,y442,y448,(Af ++ l0_5))) else (none))) = some (r1,r2,r3,r4,r5,r6):=by first|(rw [hy448];with_reducible exact H)|(have Ap:=(Option.bind_some _ _).symm.trans H;rw [hy448];with_reducible exact Ap)|(have Ap:=(Option.bind_some _ _).symm.trans H;with_reducible exact Ap)|with_reducible exact H|(rw [hy448];exact H)|exact H
   have Bn:=Aside0.mk hy448
   clear hy448
   obtain ⟨Af,hy451⟩:∃ y_:List ByteArray,y_ = (([]:List ByteArray)):=⟨_,rfl⟩
   replace H:(if Af.length + l0_5.length < 8796093022208 then (some (a0_0,a0_1,a0_2,y442,y448,(Af ++ l0_5))) else (none)) = some (r1,r2,r3,r4,r5,r6):=by first|(rw [hy451];with_reducible exact H)|(have Ap:=(Option.bind_some _ _).symm.trans H;rw [hy451];with_reducible exact Ap)|(have Ap:=(Option.bind_some _ _).symm.trans H;with_reducible exact Ap)|with_reducible exact H|(rw [hy451];exact H)|exact H
   have Bg:=Aside0.mk hy451
   clear hy451
   by_cases c4:Af.length + l0_5.length < 8796093022208
   ·rw [if_pos c4] at H
    have Fl:=Aside0.mk c4
    clear c4
    obtain ⟨y454,hy454⟩:∃ y_:List ByteArray,y_ = (Af ++ l0_5):=⟨_,rfl⟩
    replace H:(some (a0_0,a0_1,a0_2,y442,y448,y454)) = some (r1,r2,r3,r4,r5,r6):=by first|(rw [hy454];with_reducible exact H)|(have Ap:=(Option.bind_some _ _).symm.trans H;rw [hy454];with_reducible exact Ap)|(have Ap:=(Option.bind_some _ _).symm.trans H;with_reducible exact Ap)|with_reducible exact H|(rw [hy454];exact H)|exact H
    have Bm:=Aside0.mk hy454
    clear hy454
    simp only [Option.some.injEq,Prod.mk.injEq] at H
    obtain ⟨rfl,rfl,rfl,rfl,rfl,rfl⟩:=H
    go_enter Tryz.func13,Tryz.ntmps13
    go_wp2_with (first|((with_reducible refine gate_dst (N:=1) rfl ?_);refine box_event ?hg (N:=1) ?hd (cs:=#[.int .i64 a0_0,.int .i64 a0_1,.int .i64 a0_2,.slice A0_3 l0_3.length c0_3,.slice A0_4 l0_4.length c0_4,.slice A0_5 l0_5.length c0_5]) (t:=26) ?hr ?_;(case hd=>rfl);(case hg=>rfl);(case hr=>first|(go_simp;done)|(go_simp;rfl));intro Ad hg w5 Be hb;have Ao:=Aside0.mk (below_step bx_ hb);have An:=Aside0.mk (Be);have Am:=Aside0.mk ((by rw [hg];exact (below_size bx_):w.heap.size≤Ad));have Al:=Aside0.mk ((by rw [hg];exact (below_size bx_):w.heap.size≤Ad));clear HB;have HB:=Ao;have Aa:=An;have Bu:=Am;have Bu:=Al;clear Ao An Am Al;clear hb Be hg)|((with_reducible refine gate_dst (N:=2) rfl ?_);refine box_event ?hg (N:=2) ?hd (cs:=#[.int .i64 0,.int .i64 0,.int .i64 0,.slice none 0 0,.slice none 0 0,.slice none 0 0]) (t:=26) ?hr ?_;(case hd=>rfl);(case hg=>rfl);(case hr=>first|(go_simp;done)|(go_simp;rfl));intro Ab hg w6 Be hb;have Ao:=Aside0.mk (blk_below (g:=Ad) (o:=.cells #[.int .i64 a0_0,.int .i64 a0_1,.int .i64 a0_2,.slice A0_3 l0_3.length c0_3,.slice A0_4 l0_4.length c0_4,.slice A0_5 l0_5.length c0_5] 26 (0,0)) (by (with_reducible repeat (first|refine blk_drewN ?_ _|refine blk_drew ?_|refine blk_alloc ?_ _));exact Aa.out) hb);have An:=Aside0.mk (below_step bx_ hb);have Am:=Aside0.mk (Be);have Al:=Aside0.mk ((by rw [hg];exact (below_size bx_):w.heap.size≤Ab));have Ay:=Aside0.mk ((by rw [hg];exact (below_size bx_):w.heap.size≤Ab));have Bf:=Aside0.mk ((by rw [hg];exact Nat.ne_of_lt (blk_lt (g:=Ad) (o:=.cells #[.int .i64 a0_0,.int .i64 a0_1,.int .i64 a0_2,.slice A0_3 l0_3.length c0_3,.slice A0_4 l0_4.length c0_4,.slice A0_5 l0_5.length c0_5] 26 (0,0)) (by (with_reducible repeat (first|refine blk_drewN ?_ _|refine blk_drew ?_|refine blk_alloc ?_ _));exact Aa.out)):Ad≠Ab));have Fp:=Aside0.mk ((by rw [hg];exact Nat.ne_of_gt (blk_lt (g:=Ad) (o:=.cells #[.int .i64 a0_0,.int .i64 a0_1,.int .i64 a0_2,.slice A0_3 l0_3.length c0_3,.slice A0_4 l0_4.length c0_4,.slice A0_5 l0_5.length c0_5] 26 (0,0)) (by (with_reducible repeat (first|refine blk_drewN ?_ _|refine blk_drew ?_|refine blk_alloc ?_ _));exact Aa.out)):Ab≠Ad));clear Aa;clear HB;have Aa:=Ao;have HB:=An;have Ac:=Am;have Bt:=Al;have Bt:=Ay;have Bb:=Bf;have Ag:=Fp;clear Ao An Am Al Ay Bf Fp;clear hb Be hg)|((with_reducible refine gate_dst (N:=3) rfl ?_);refine Kd.R_lit (Kd.int .i64) _ 3 ?hg (N:=3) ?hd (xs:=([]:List Int)) (inner:=[]) (ok:=fun _=>True) (okp:=fun _=>True) ?hr ?hp (fun _ hk=>hk) trivial (Below.refl _ _) (Nat.le_refl _) sm_ ?_;(case hd=>rfl);(case hg=>rfl);(case hr=>first|(go_simp;done)|(go_simp;rfl));(case hp=>exact (Reps.none _ _));intro Fh w7 Bk hb Bl Au;clear Bl Au;(first|rw [← Bi.out] at Bk|(simp only [Int.reduceToNat] at Bk;rw [← Bi.out] at Bk));have Ao:=Aside0.mk (Kd.R_lower Bk (below_size bx_));have An:=Aside0.mk (blk_below (g:=Ad) (o:=.cells #[.int .i64 a0_0,.int .i64 a0_1,.int .i64 a0_2,.slice A0_3 l0_3.length c0_3,.slice A0_4 l0_4.length c0_4,.slice A0_5 l0_5.length c0_5] 26 (0,0)) (by (with_reducible repeat (first|refine blk_drewN ?_ _|refine blk_drew ?_|refine blk_alloc ?_ _));exact Aa.out) hb);have Am:=Aside0.mk (blk_below (g:=Ab) (o:=.cells #[.int .i64 0,.int .i64 0,.int .i64 0,.slice none 0 0,.slice none 0 0,.slice none 0 0] 26 (0,0)) (by (with_reducible repeat (first|refine blk_drewN ?_ _|refine blk_drew ?_|refine blk_alloc ?_ _));exact Ac.out) hb);have Al:=Aside0.mk (below_step bx_ hb);clear Aa;clear Ac;clear HB;have Ba:=Ao;have Aa:=An;have Ac:=Am;have HB:=Al;clear Ao An Am Al;clear hb Bk;have Fy:=Bb.out;have Fx:=Ag.out;obtain ⟨Fe,Fd,Fc,Fb,Fa,Ez,Dl,Dk,Dj,Di,Dh,Dg⟩:=c6_ Aa)|((with_reducible refine gate_builtin (b:=.append) (xs:=#[.tmp 3,.tmp 5]) rfl ?_);at_builtin;refine Kd.R_append_rows (Kd.int .i64) (w0:=w) w.heap.size rfl (.tmp 3) (.tmp 5) 22 3 (.int .i64 0) 8 rfl Tryz.underlying22 info3 rfl de_ (by omega) Fh y439 l0_3 _ _ _ (fun _=>True) (fun _=>False) rfl rfl ?aO ?aR (fun _ _ h=>h) (fun _ h=>h.elim) ?aF ?aB ?aS ?aL ?_;(case aR=>exact cx_ (Kd.C_below Br.out HB.out));(case aB=>exact bx_);(case aF=>exact (fun _ _=>trivial));(case aO=>exact (by (with_reducible repeat (first|apply Kd.R_alloc|apply Kd.R_drewN|apply Kd.R_drew));exact Ba.out));(case aS=>exact (below_size bx_));(case aL=>have:=Fo.out;omega);intro Fv Gd ho hb hg hat;rw [← Bo.out] at ho;have Ao:=Aside0.mk (blk_grown (g:=Ad) (o:=.cells #[.int .i64 a0_0,.int .i64 a0_1,.int .i64 a0_2,.slice A0_3 l0_3.length c0_3,.slice A0_4 l0_4.length c0_4,.slice A0_5 l0_5.length c0_5] 26 (0,0)) (by (with_reducible repeat (first|refine blk_drewN ?_ _|refine blk_drew ?_|refine blk_alloc ?_ _));exact Aa.out) hg (Kd.R_ne Ba.out Aa.out de_));have An:=Aside0.mk (blk_grown (g:=Ab) (o:=.cells #[.int .i64 0,.int .i64 0,.int .i64 0,.slice none 0 0,.slice none 0 0,.slice none 0 0] 26 (0,0)) (by (with_reducible repeat (first|refine blk_drewN ?_ _|refine blk_drew ?_|refine blk_alloc ?_ _));exact Ac.out) hg (Kd.R_ne Ba.out Ac.out de_));have Am:=Aside0.mk (hb);have Al:=Aside0.mk (ho);clear Aa;clear Ac;clear HB;clear Ba;have Aa:=Ao;have Ac:=An;have HB:=Am;have Ae:=Al;clear Ao An Am Al;clear ho hb hg hat;obtain ⟨Aj,Ai,Fk⟩:=Kd.R_slice Ae.out;subst Fk;obtain ⟨Ey,Ex,Ew,Eu,Et,Es,Df,De,Dd,Dc,Db,Da⟩:=c6_ Aa)|((with_reducible refine gate_dst (N:=8) rfl ?_);refine Kd.R_lit Kd.string _ 65 ?hg (N:=8) ?hd (xs:=([]:List ByteArray)) (inner:=[]) (ok:=fun _=>True) (okp:=fun _=>True) ?hr ?hp (fun _ hk=>hk) trivial (Below.refl _ _) (Nat.le_refl _) sm_ ?_;(case hd=>rfl);(case hg=>rfl);(case hr=>first|(go_simp;done)|(go_simp;rfl));(case hp=>exact (Reps.none _ _));intro Fg Gc Bd hb Bl Au;clear Bl Au;(first|rw [← Bh.out] at Bd|(simp only [Int.reduceToNat] at Bd;rw [← Bh.out] at Bd));have Ao:=Aside0.mk (Kd.R_below (by (with_reducible repeat (first|apply Kd.R_alloc|apply Kd.R_drewN|apply Kd.R_drew));exact (Kd.R_mono (Kd.R_far (p:=⟨Ad,3,none⟩) (Kd.R_types Ae.out Aa.out de_) (fun _ hk=>hk.2) (.slice Aj y442.length Ai)) (fun _ h_=>h_.1))) hb);have An:=Aside0.mk (Kd.R_lower Bd (below_size bx_));have Am:=Aside0.mk (blk_below (g:=Ad) (o:=.cells #[.int .i64 a0_0,.int .i64 a0_1,.int .i64 a0_2,.slice Aj y442.length Ai,.slice A0_4 l0_4.length c0_4,.slice A0_5 l0_5.length c0_5] 26 (0,0)) (by (with_reducible repeat (first|refine blk_drewN ?_ _|refine blk_drew ?_|refine blk_alloc ?_ _));refine blk_put (cs:=#[.int .i64 a0_0,.int .i64 a0_1,.int .i64 a0_2,.slice A0_3 l0_3.length c0_3,.slice A0_4 l0_4.length c0_4,.slice A0_5 l0_5.length c0_5]) ?_ 3 _ rfl;(with_reducible repeat (first|refine blk_drewN ?_ _|refine blk_drew ?_|refine blk_alloc ?_ _));exact Aa.out) hb);have Al:=Aside0.mk (blk_below (g:=Ab) (o:=.cells #[.int .i64 0,.int .i64 0,.int .i64 0,.slice none 0 0,.slice none 0 0,.slice none 0 0] 26 (0,0)) (by (with_reducible repeat (first|refine blk_drewN ?_ _|refine blk_drew ?_|refine blk_alloc ?_ _));refine blk_far ?_ Ag.out _;(with_reducible repeat (first|refine blk_drewN ?_ _|refine blk_drew ?_|refine blk_alloc ?_ _));exact Ac.out) hb);have Ay:=Aside0.mk (below_step bx_ hb);clear Ae;clear Aa;clear Ac;clear HB;have Ae:=Ao;have Av:=An;have Aa:=Am;have Ac:=Al;have HB:=Ay;clear Ao An Am Al Ay;clear hb Bd;obtain ⟨Er,Ep,Eo,Em,El,Ek,Cz,Cy,Cx,Cw,Cv,Cu⟩:=c6_ Aa)|((with_reducible refine gate_builtin (b:=.append) (xs:=#[.tmp 8,.tmp 10]) rfl ?_);at_builtin;refine Kd.R_append_rows Kd.string (w0:=w) w.heap.size rfl (.tmp 8) (.tmp 10) 23 65 (.string ⟨#[]⟩) 16 rfl Tryz.underlying23 info65 rfl de_ (by omega) Fg Ak l0_4 _ _ _ (fun _=>True) (fun _=>False) rfl rfl ?aO ?aR (fun _ _ h=>h) (fun _ h=>h.elim) ?aF ?aB ?aS ?aL ?_;(case aR=>exact cx_ (Kd.C_below Bq.out HB.out));(case aB=>exact bx_);(case aF=>exact (fun _ _=>trivial));(case aO=>exact (by (with_reducible repeat (first|apply Kd.R_alloc|apply Kd.R_drewN|apply Kd.R_drew));exact Av.out));(case aS=>exact (below_size bx_));(case aL=>have:=Fm.out;omega);intro Fu Gb ho hb hg hat;rw [← Bn.out] at ho;have Ao:=Aside0.mk (blk_grown (g:=Ad) (o:=.cells #[.int .i64 a0_0,.int .i64 a0_1,.int .i64 a0_2,.slice Aj y442.length Ai,.slice A0_4 l0_4.length c0_4,.slice A0_5 l0_5.length c0_5] 26 (0,0)) (by (with_reducible repeat (first|refine blk_drewN ?_ _|refine blk_drew ?_|refine blk_alloc ?_ _));exact Aa.out) hg (Kd.R_ne Av.out Aa.out de_));have An:=Aside0.mk (blk_grown (g:=Ab) (o:=.cells #[.int .i64 0,.int .i64 0,.int .i64 0,.slice none 0 0,.slice none 0 0,.slice none 0 0] 26 (0,0)) (by (with_reducible repeat (first|refine blk_drewN ?_ _|refine blk_drew ?_|refine blk_alloc ?_ _));exact Ac.out) hg (Kd.R_ne Av.out Ac.out de_));have Am:=Aside0.mk (Kd.R_over' (by (with_reducible repeat (first|apply Kd.R_alloc|apply Kd.R_drewN|apply Kd.R_drew));exact Ae.out) (Kd.R_typed (by (with_reducible repeat (first|apply Kd.R_alloc|apply Kd.R_drewN|apply Kd.R_drew));exact Av.out)) de_ hg);have Al:=Aside0.mk (hb);have Ay:=Aside0.mk (ho);clear Aa;clear Ac;clear Ae;clear HB;clear Av;have Aa:=Ao;have Ac:=An;have Ae:=Am;have HB:=Al;have Ah:=Ay;clear Ao An Am Al Ay;clear ho hb hg hat;obtain ⟨At,As,Fj⟩:=Kd.R_slice Ah.out;subst Fj;obtain ⟨Ej,Ei,Eh,Eg,Ef,Ee,Ct,Cs,Cr,Cq,Cp,Co⟩:=c6_ Aa)|((with_reducible refine gate_dst (N:=13) rfl ?_);refine Kd.R_lit Kd.string _ 9 ?hg (N:=13) ?hd (xs:=([]:List ByteArray)) (inner:=[]) (ok:=fun _=>True) (okp:=fun _=>True) ?hr ?hp (fun _ hk=>hk) trivial (Below.refl _ _) (Nat.le_refl _) sm_ ?_;(case hd=>rfl);(case hg=>rfl);(case hr=>first|(go_simp;done)|(go_simp;rfl));(case hp=>exact (Reps.none _ _));intro Ff Ga Bc hb Bl Au;clear Bl Au;(first|rw [← Bg.out] at Bc|(simp only [Int.reduceToNat] at Bc;rw [← Bg.out] at Bc));have Ao:=Aside0.mk (Kd.R_below (by (with_reducible repeat (first|apply Kd.R_alloc|apply Kd.R_drewN|apply Kd.R_drew));exact (Kd.R_mono (Kd.R_far (p:=⟨Ad,4,none⟩) (Kd.R_types Ae.out Aa.out de_) (fun _ hk=>hk.2) (.slice At y448.length As)) (fun _ h_=>h_.1))) hb);have An:=Aside0.mk (Kd.R_below (by (with_reducible repeat (first|apply Kd.R_alloc|apply Kd.R_drewN|apply Kd.R_drew));exact (Kd.R_mono (Kd.R_far (p:=⟨Ad,4,none⟩) (Kd.R_types Ah.out Aa.out de_) (fun _ hk=>hk.2) (.slice At y448.length As)) (fun _ h_=>h_.1))) hb);have Am:=Aside0.mk (Kd.R_lower Bc (below_size bx_));have Al:=Aside0.mk (blk_below (g:=Ad) (o:=.cells #[.int .i64 a0_0,.int .i64 a0_1,.int .i64 a0_2,.slice Aj y442.length Ai,.slice At y448.length As,.slice A0_5 l0_5.length c0_5] 26 (0,0)) (by (with_reducible repeat (first|refine blk_drewN ?_ _|refine blk_drew ?_|refine blk_alloc ?_ _));refine blk_put (cs:=#[.int .i64 a0_0,.int .i64 a0_1,.int .i64 a0_2,.slice Aj y442.length Ai,.slice A0_4 l0_4.length c0_4,.slice A0_5 l0_5.length c0_5]) ?_ 4 _ rfl;(with_reducible repeat (first|refine blk_drewN ?_ _|refine blk_drew ?_|refine blk_alloc ?_ _));exact Aa.out) hb);have Ay:=Aside0.mk (blk_below (g:=Ab) (o:=.cells #[.int .i64 0,.int .i64 0,.int .i64 0,.slice none 0 0,.slice none 0 0,.slice none 0 0] 26 (0,0)) (by (with_reducible repeat (first|refine blk_drewN ?_ _|refine blk_drew ?_|refine blk_alloc ?_ _));refine blk_far ?_ Ag.out _;(with_reducible repeat (first|refine blk_drewN ?_ _|refine blk_drew ?_|refine blk_alloc ?_ _));exact Ac.out) hb);have Bf:=Aside0.mk (below_step bx_ hb);clear Ae;clear Ah;clear Aa;clear Ac;clear HB;have Ae:=Ao;have Ah:=An;have Aq:=Am;have Aa:=Al;have Ac:=Ay;have HB:=Bf;clear Ao An Am Al Ay Bf;clear hb Bc;obtain ⟨Ed,Ec,Eb,Ea,Dz,Dy,Cn,Cm,Cl,Ck,Cj,Ci⟩:=c6_ Aa)|((with_reducible refine gate_builtin (b:=.append) (xs:=#[.tmp 13,.tmp 15]) rfl ?_);at_builtin;refine Kd.R_append_rows Kd.string (w0:=w) w.heap.size rfl (.tmp 13) (.tmp 15) 24 9 (.string ⟨#[]⟩) 16 rfl Tryz.underlying24 info9 rfl de_ (by omega) Ff Af l0_5 _ _ _ (fun _=>True) (fun _=>False) rfl rfl ?aO ?aR (fun _ _ h=>h) (fun _ h=>h.elim) ?aF ?aB ?aS ?aL ?_;(case aR=>exact cx_ (Kd.C_below Bp.out HB.out));(case aB=>exact bx_);(case aF=>exact (fun _ _=>trivial));(case aO=>exact (by (with_reducible repeat (first|apply Kd.R_alloc|apply Kd.R_drewN|apply Kd.R_drew));exact Aq.out));(case aS=>exact (below_size bx_));(case aL=>have:=Fl.out;omega);intro Ft Fz ho hb hg hat;rw [← Bm.out] at ho;have Ao:=Aside0.mk (blk_grown (g:=Ad) (o:=.cells #[.int .i64 a0_0,.int .i64 a0_1,.int .i64 a0_2,.slice Aj y442.length Ai,.slice At y448.length As,.slice A0_5 l0_5.length c0_5] 26 (0,0)) (by (with_reducible repeat (first|refine blk_drewN ?_ _|refine blk_drew ?_|refine blk_alloc ?_ _));exact Aa.out) hg (Kd.R_ne Aq.out Aa.out de_));have An:=Aside0.mk (blk_grown (g:=Ab) (o:=.cells #[.int .i64 0,.int .i64 0,.int .i64 0,.slice none 0 0,.slice none 0 0,.slice none 0 0] 26 (0,0)) (by (with_reducible repeat (first|refine blk_drewN ?_ _|refine blk_drew ?_|refine blk_alloc ?_ _));exact Ac.out) hg (Kd.R_ne Aq.out Ac.out de_));have Am:=Aside0.mk (Kd.R_over' (by (with_reducible repeat (first|apply Kd.R_alloc|apply Kd.R_drewN|apply Kd.R_drew));exact Ae.out) (Kd.R_typed (by (with_reducible repeat (first|apply Kd.R_alloc|apply Kd.R_drewN|apply Kd.R_drew));exact Aq.out)) de_ hg);have Al:=Aside0.mk (Kd.R_over' (by (with_reducible repeat (first|apply Kd.R_alloc|apply Kd.R_drewN|apply Kd.R_drew));exact Ah.out) (Kd.R_typed (by (with_reducible repeat (first|apply Kd.R_alloc|apply Kd.R_drewN|apply Kd.R_drew));exact Aq.out)) de_ hg);have Ay:=Aside0.mk (hb);have Bf:=Aside0.mk (ho);clear Aa;clear Ac;clear Ae;clear Ah;clear HB;clear Aq;have Aa:=Ao;have Ac:=An;have Ae:=Am;have Ah:=Al;have HB:=Ay;have Bj:=Bf;clear Ao An Am Al Ay Bf;clear ho hb hg hat;obtain ⟨Ax,Aw,Fi⟩:=Kd.R_slice Bj.out;subst Fi;obtain ⟨Dx,Dw,Dv,Du,Dt,Ds,Ch,Cg,Cf,Ce,Cc,Cb⟩:=c6_ Aa;obtain ⟨Dr,Dq,Dp,Do,Dn,Dm,Ca,Bz,By,Bx,Bw,Bv⟩:=c6_ Ac))
    refine bodyPost_ret (results_cell_row rfl _ _ Ab 26 #[.int .i64 a0_0,.int .i64 a0_1,.int .i64 a0_2,.slice Aj y442.length Ai,.slice At y448.length As,.slice Ax y454.length Aw] (0,0) _ rfl (by (with_reducible repeat (first|refine blk_drewN ?_ _|refine blk_drew ?_|refine blk_alloc ?_ _));refine blk_put (cs:=#[.int .i64 a0_0,.int .i64 a0_1,.int .i64 a0_2,.slice Aj y442.length Ai,.slice At y448.length As,.slice none 0 0]) ?_ 5 _ rfl;(with_reducible repeat (first|refine blk_drewN ?_ _|refine blk_drew ?_|refine blk_alloc ?_ _));refine blk_put (cs:=#[.int .i64 a0_0,.int .i64 a0_1,.int .i64 a0_2,.slice Aj y442.length Ai,.slice none 0 0,.slice none 0 0]) ?_ 4 _ rfl;(with_reducible repeat (first|refine blk_drewN ?_ _|refine blk_drew ?_|refine blk_alloc ?_ _));refine blk_put (cs:=#[.int .i64 a0_0,.int .i64 a0_1,.int .i64 a0_2,.slice none 0 0,.slice none 0 0,.slice none 0 0]) ?_ 3 _ rfl;(with_reducible repeat (first|refine blk_drewN ?_ _|refine blk_drew ?_|refine blk_alloc ?_ _));refine blk_put (cs:=#[.int .i64 a0_0,.int .i64 a0_1,.int .i64 0,.slice none 0 0,.slice none 0 0,.slice none 0 0]) ?_ 2 _ rfl;(with_reducible repeat (first|refine blk_drewN ?_ _|refine blk_drew ?_|refine blk_alloc ?_ _));refine blk_put (cs:=#[.int .i64 a0_0,.int .i64 0,.int .i64 0,.slice none 0 0,.slice none 0 0,.slice none 0 0]) ?_ 1 _ rfl;(with_reducible repeat (first|refine blk_drewN ?_ _|refine blk_drew ?_|refine blk_alloc ?_ _));refine blk_put (cs:=#[.int .i64 0,.int .i64 0,.int .i64 0,.slice none 0 0,.slice none 0 0,.slice none 0 0]) ?_ 0 _ rfl;(with_reducible repeat (first|refine blk_drewN ?_ _|refine blk_drew ?_|refine blk_alloc ?_ _));refine blk_far ?_ Ag.out _;(with_reducible repeat (first|refine blk_drewN ?_ _|refine blk_drew ?_|refine blk_alloc ?_ _));exact Ac.out) Tryz.underlying26 rfl kr_) rfl ?_
    exact ⟨_,_,_,rf_,by (with_reducible repeat (first|apply Kd.R_alloc|apply Kd.R_drewN|apply Kd.R_drew));exact Kd.R_mono (Kd.R_far (p:=⟨Ab,5,none⟩) (Kd.R_far (p:=⟨Ab,4,none⟩) (Kd.R_far (p:=⟨Ab,3,none⟩) (Kd.R_far (p:=⟨Ab,2,none⟩) (Kd.R_far (p:=⟨Ab,1,none⟩) (Kd.R_far (p:=⟨Ab,0,none⟩) (Kd.R_far (p:=⟨Ad,5,none⟩) (Kd.R_types (Kd.R_types Ae.out Aa.out de_) Ac.out de_) (fun _ hk=>hk.1.2) (.slice Ax y454.length Aw)) (fun _ hk=>hk.2) (.int .i64 a0_0)) (fun _ hk=>hk.2) (.int .i64 a0_1)) (fun _ hk=>hk.2) (.int .i64 a0_2)) (fun _ hk=>hk.2) (.slice Aj y442.length Ai)) (fun _ hk=>hk.2) (.slice At y448.length As)) (fun _ hk=>hk.2) (.slice Ax y454.length Aw)) (fun _ hk=>trivial),by (with_reducible repeat (first|apply Kd.R_alloc|apply Kd.R_drewN|apply Kd.R_drew));exact Kd.R_mono (Kd.R_far (p:=⟨Ab,5,none⟩) (Kd.R_far (p:=⟨Ab,4,none⟩) (Kd.R_far (p:=⟨Ab,3,none⟩) (Kd.R_far (p:=⟨Ab,2,none⟩) (Kd.R_far (p:=⟨Ab,1,none⟩) (Kd.R_far (p:=⟨Ab,0,none⟩) (Kd.R_far (p:=⟨Ad,5,none⟩) (Kd.R_types (Kd.R_types Ah.out Aa.out de_) Ac.out de_) (fun _ hk=>hk.1.2) (.slice Ax y454.length Aw)) (fun _ hk=>hk.2) (.int .i64 a0_0)) (fun _ hk=>hk.2) (.int .i64 a0_1)) (fun _ hk=>hk.2) (.int .i64 a0_2)) (fun _ hk=>hk.2) (.slice Aj y442.length Ai)) (fun _ hk=>hk.2) (.slice At y448.length As)) (fun _ hk=>hk.2) (.slice Ax y454.length Aw)) (fun _ hk=>trivial),by (with_reducible repeat (first|apply Kd.R_alloc|apply Kd.R_drewN|apply Kd.R_drew));exact Kd.R_mono (Kd.R_far (p:=⟨Ab,5,none⟩) (Kd.R_far (p:=⟨Ab,4,none⟩) (Kd.R_far (p:=⟨Ab,3,none⟩) (Kd.R_far (p:=⟨Ab,2,none⟩) (Kd.R_far (p:=⟨Ab,1,none⟩) (Kd.R_far (p:=⟨Ab,0,none⟩) (Kd.R_far (p:=⟨Ad,5,none⟩) (Kd.R_types (Kd.R_types Bj.out Aa.out de_) Ac.out de_) (fun _ hk=>hk.1.2) (.slice Ax y454.length Aw)) (fun _ hk=>hk.2) (.int .i64 a0_0)) (fun _ hk=>hk.2) (.int .i64 a0_1)) (fun _ hk=>hk.2) (.int .i64 a0_2)) (fun _ hk=>hk.2) (.slice Aj y442.length Ai)) (fun _ hk=>hk.2) (.slice At y448.length As)) (fun _ hk=>hk.2) (.slice Ax y454.length Aw)) (fun _ hk=>trivial),bx_⟩
   ·rw [if_neg c4] at H
    exact absurd H sm_
  ·rw [if_neg c3] at H
   exact absurd H sm_
 ·rw [if_neg c2] at H
  exact absurd H sm_
set_option maxHeartbeats 8000000
set_option maxRecDepth 100000
def garboardref57_Copy.l0:Nat→List (S52)→List (S52)→Int→Option ((List (S52)))
 | 0,_,_,_=>none
 | k + 1,x0,x3,x4=>if x4 < (x0.length:Int) then (if 0≤x4 then ((garboardref57_CopyEvent.f ((rd_T52 x0 x4).f0.f0) ((rd_T52 x0 x4).f0.f1) ((rd_T52 x0 x4).f0.f2) ((rd_T52 x0 x4).f0.f3) ((rd_T52 x0 x4).f0.f4) ((rd_T52 x0 x4).f0.f5)).bind fun bt759=>(if x3.length < 1256584717458 then (garboardref57_Copy.l0 k x0 (x3 ++ [(⟨(⟨bt759.1,bt759.2.1,bt759.2.2.1,bt759.2.2.2.1,bt759.2.2.2.2.1,bt759.2.2.2.2.2⟩:S26),(rd_T52 x0 x4).f1⟩:S52)]) (wrap64 (x4 + 1))) else (none))) else (none)) else (some x3)
def garboardref57_Copy.f (k:Nat) (l0:List (S52)):Option ((List (S52))):=garboardref57_Copy.l0 k l0 ([]:List (S52)) 0
def garboardref57_Copy.T5:Bool × List (List Nat × List Nat):=(true,[([],[]),([],[]),([],[]),([1,2],[1,2]),([3],[3]),([4],[4]),([5],[5]),([],[]),([],[]),([7,8],[7,8]),([9],[9]),([10],[10]),([6,11],[6,11]),([12],[12]),([0,13,6],[0,13]),([14,14,0,1,2,3,4,5,6,7,8,9,10,11,12,13,14],[0,14])])
def garboardref57_Copy.B5:List Nat:=[0,0,0,6,14,30,62,0,0,384,896,1920,4094,8190,16383,32767]
theorem garboardref57_Copy.tab5:rtab .any (opsOf Tryz.f20 5) = garboardref57_Copy.T5:=by kernel_rfl
theorem garboardref57_Copy.bits5:waitsOk garboardref57_Copy.T5.2 garboardref57_Copy.B5 = true:=by kernel_rfl
theorem garboardref57_Copy.calls (k:Nat) (A0:Option Addr) (c0:Nat) (l0:List (S52)) (r:List (S52)) (w:World) (hr0:Kd.C k52 w A0 l0.length l0) (hc0:l0.length≤c0) (h:garboardref57_Copy.f k l0 = some r) :
  Calls Tryz.prog 20 #[.slice A0 l0.length c0] w fun e w'=>∃ v0_:Value,e = .returned (v0_)∧Kd.S k52 52 w' w.heap.size (fun _=>True) v0_ r∧Below w.heap.size w w':=by
 have Ea:=Tryz.underlying26
 have Dz:=Tryz.underlying52
 have Dr:=Aside0.mk hr0
 have Ee:=Aside0.mk hc0
 clear hr0 hc0
 have HB:=Aside0.mk (Below.refl w.heap.size w)
 have H:=h;clear h;unfold garboardref57_Copy.f at H
 have H':=Aside0.mk H
 clear H
 go_enter Tryz.func20,Tryz.ntmps20
 go_wp2
 go_loopg [3,4] k (fun kq v3 v4 w'=>∃ (Ay:List (S52)) (Aa:Int),v4 = .int .i64 Aa∧Aside0 (garboardref57_Copy.l0 kq l0 Ay Aa = some r)∧Aside0 (kq≤k)∧Aside0 (Kd.S k52 52 w' w.heap.size (fun _=>True) v3 Ay)∧Aside0 (Below w.heap.size w w'))
 case atStart=>exact ⟨(([]:List (S52))),(0),rg_,H',⟨Nat.le_refl _⟩,⟨by first|exact Kd.S_nil _ _ _ _ _|exact Kd.N_nil _ _ _ _ _|exact Kd.V_nil _ _ _ _ _|exact Kd.Q_nil _ _ _ _ _|exact Kd.R_nil _ _ _ _ _⟩,⟨bx_⟩⟩
 case round =>
  clear H'
  obtain ⟨Ay,Aa,rfl,HA,Ds,Aj,HB⟩:=hrel
  cases gk with
  | zero=>exact absurd HA.out (by simp [garboardref57_Copy.l0])
  | succ k1 =>
   have H:=HA.out
   clear HA
   simp only [garboardref57_Copy.l0] at H
   by_cases c2:Aa < (l0.length:Int)
   ·rw [if_pos c2] at H
    have Dg:decide (Aa < (l0.length:Int)) = true:=decide_eq_true c2
    clear c2
    by_cases c3:0≤Aa
    ·rw [if_pos c3] at H
     have Eb:decide (0≤Aa) = true:=decide_eq_true c3
     clear c3
     obtain ⟨⟨Bf,Be,Bd,Bc,Bb,Ba⟩,A4,H⟩:=bn_ H
     dsimp only at H
     by_cases c5:Ay.length < 1256584717458
     ·rw [if_pos c5] at H
      have Dh:=Aside0.mk c5
      clear c5
      obtain ⟨y772,hy772⟩:∃ y_:List (S52),y_ = (Ay ++ [(⟨(⟨Bf,Be,Bd,Bc,Bb,Ba⟩:S26),(rd_T52 l0 Aa).f1⟩:S52)]):=⟨_,rfl⟩
      replace H:(garboardref57_Copy.l0 k1 l0 y772 (wrap64 (Aa + 1))) = some r:=by first|(rw [hy772];with_reducible exact H)|(have Dj:=(Option.bind_some _ _).symm.trans H;rw [hy772];with_reducible exact Dj)|(have Dj:=(Option.bind_some _ _).symm.trans H;with_reducible exact Dj)|with_reducible exact H|(rw [hy772];exact H)|exact H
      have Cl:=Aside0.mk hy772
      clear hy772
      have H':=Aside0.mk H
      clear H
      try go_wp2
      replace Aj:=Aside0.mk (Kd.S_drew Aj.out)
      replace HB:=db_ HB
      have Cf:0≤(Aa:Int):=da_
      have Cc:Aa < (l0.length:Int):=da_
      obtain ⟨Ai,Bl,Bi,Bk,Bh,Bj,Bg,Dc,Ah,Ag,Af,Ae,Ad,Ac,Ab,Bu,Bt,Br,Aq,Ap,Ao,Bq,Au,Ca,At,Bz,As,By⟩:=ap52_ Dr HB Aa Cf Cc
      cases Dc
      replace Cf:=eq_true Cf
      replace Cc:=eq_true Cc
      have Ce:0≤(Aa:Int):=da_
      have Cb:Aa < (l0.length:Int):=da_
      obtain ⟨Ck,Dm,Df,Dl,De,Dk,Dd,Db,Cu,Ct,Cs,Cr,Cq,Cp,Co,Bp,Bo,Bn,An,Am,Al,Bm,Bx,Cx,Bw,Cw,Bv,Cv⟩:=ap52_ Dr HB Aa Ce Cb
      obtain rfl:Ai = Ck:=(by injection Db)
      replace Ce:=eq_true Ce
      replace Cb:=eq_true Cb
      obtain ⟨rfl,rfl⟩:=es_ Aq An
      obtain ⟨rfl,rfl⟩:=es_ Ap Am
      obtain ⟨rfl,rfl⟩:=es_ Ao Al
      refine start_ (n:=16) (S:=fun w'=>w'.cell? (Ai.add ((Aa).toNat * 7)) = some (.int .i64 ((rd_T52 l0 Aa).f0.f0))∧w'.cell? ⟨(Ai.add ((Aa).toNat * 7)).block,(Ai.add ((Aa).toNat * 7)).off + 1,none⟩ = some (.int .i64 ((rd_T52 l0 Aa).f0.f1))∧w'.cell? ⟨(Ai.add ((Aa).toNat * 7)).block,(Ai.add ((Aa).toNat * 7)).off + 2,none⟩ = some (.int .i64 ((rd_T52 l0 Aa).f0.f2))∧w'.cell? ⟨(Ai.add ((Aa).toNat * 7)).block,(Ai.add ((Aa).toNat * 7)).off + 3,none⟩ = some (.slice Bl ((rd_T52 l0 Aa).f0.f3).length Bi)∧w'.cell? ⟨(Ai.add ((Aa).toNat * 7)).block,(Ai.add ((Aa).toNat * 7)).off + 4,none⟩ = some (.slice Bk ((rd_T52 l0 Aa).f0.f4).length Bh)∧w'.cell? ⟨(Ai.add ((Aa).toNat * 7)).block,(Ai.add ((Aa).toNat * 7)).off + 5,none⟩ = some (.slice Bj ((rd_T52 l0 Aa).f0.f5).length Bg)∧w'.cell? ⟨(Ai.add ((Aa).toNat * 7)).block,(Ai.add ((Aa).toNat * 7)).off + 6,none⟩ = some (.string ((rd_T52 l0 Aa).f1))) (ds:=[]) #[false,false,false,false,false,false,false,false,false,false,false,false,false,false,false,false] kr_ rfl rfl ⟨((HB.out.cell (World.block_lt_of_cell? w _ Ah)).trans Ah),((HB.out.cell (World.block_lt_of_cell? w _ Ag)).trans Ag),((HB.out.cell (World.block_lt_of_cell? w _ Af)).trans Af),((HB.out.cell (World.block_lt_of_cell? w _ Ae)).trans Ae),((HB.out.cell (World.block_lt_of_cell? w _ Ad)).trans Ad),((HB.out.cell (World.block_lt_of_cell? w _ Ac)).trans Ac),((HB.out.cell (World.block_lt_of_cell? w _ Ab)).trans Ab)⟩ (fun Ak=>?_);refine with_tabW garboardref57_Copy.tab5 garboardref57_Copy.bits5 (fun Di Ed=>?_)
      generalize wr.drew = w6 at Aj HB Au At As Bx Bw Bv Bu Bt Br Aq Ap Ao Bq Bp Bo Bn An Am Al Bm Ak ⊢
      refine pu_ 0 (some 11) (tt_ 16 1) ?_
      refine pu_ 1 (some 12) (tt_ 16 3) ?_
      refine pu_ 2 (some 13) (tt_ 16 7) ?_
      refine pu_ 3 (some 14) (tt_ 16 15) ?_
      refine pu_ 4 (some 15) (tt_ 16 31) ?_
      refine pu_ 7 (some 18) (tt_ 16 159) ?_
      refine pu_ 8 (some 19) (tt_ 16 415) ?_
      refine pu_ 9 (some 20) (tt_ 16 927) ?_
      refine pu_ 10 (some 21) (tt_ 16 1951) ?_
      refine tk_ 5 (some 16) (tt_ 16 1983) Ak ?_
      refine tk_ 11 (some 22) (tt_ 16 4031) Ak ?_
      refine oc_ 6 (some 17) (tt_ 16 4095) Tryz.func13 #[.agg #[.int .i64 ((rd_T52 l0 Aa).f0.f0),.int .i64 ((rd_T52 l0 Aa).f0.f1),.int .i64 ((rd_T52 l0 Aa).f0.f2),.slice Bl ((rd_T52 l0 Aa).f0.f3).length Bi,.slice Bk ((rd_T52 l0 Aa).f0.f4).length Bh,.slice Bj ((rd_T52 l0 Aa).f0.f5).length Bg]] (fun K hK=>?_)
      with_reducible refine (garboardref57_CopyEvent.calls ((rd_T52 l0 Aa).f0.f0) ((rd_T52 l0 Aa).f0.f1) ((rd_T52 l0 Aa).f0.f2) _ _ ((rd_T52 l0 Aa).f0.f3) _ _ ((rd_T52 l0 Aa).f0.f4) _ _ ((rd_T52 l0 Aa).f0.f5) Bf Be Bd Bc Bb Ba _ ?side1 ?side2 ?side3 ?side4 ?side5 ?side6 A4.out).mono ?_
      (case side1=>exact cx_ (Kd.C_below Au.out HB.out))
      (case side2=>exact Ca.out)
      (case side3=>exact cx_ (Kd.C_below At.out HB.out))
      (case side4=>exact Bz.out)
      (case side5=>exact cx_ (Kd.C_below As.out HB.out))
      (case side6=>exact By.out)
      rintro e w7 ⟨Dy,Dx,Dw,rfl,Da,Cz,Cy,hb⟩
      refine ⟨_,rfl,?_⟩
      have Ax:=Aside0.mk (Kd.R_lower Da (below_size bx_))
      have Aw:=Aside0.mk (Kd.R_lower Cz (below_size bx_))
      have Av:=Aside0.mk (Kd.R_lower Cy (below_size bx_))
      replace Aj:=Aside0.mk (Kd.S_mono (Kd.S_told (Kd.S_told (Kd.S_told (Kd.S_old (by (with_reducible repeat (first|apply Kd.S_alloc|apply Kd.S_drewN|apply Kd.S_drew));exact Aj.out) hb) (Kd.R_base Da)) (Kd.R_base Cz)) (Kd.R_base Cy)) (fun _ h_=>h_.1))
      replace HB:=bs_ hb
      (try clear hb)
      (try clear Da)
      (try clear Cz)
      (try clear Cy)
      obtain ⟨Du,Dq,Do⟩:=Kd.R_slice Av.out
      (first|subst Do|(injection Do with f1_ f2_ f3_;have Ch:=f1_.symm;have Cg:=f3_.symm;clear f1_ f2_ f3_;subst Ch;subst Cg))
      obtain ⟨Dt,Dp,Dn⟩:=Kd.R_slice Aw.out
      (first|subst Dn|(injection Dn with f1_ f2_ f3_;have Ch:=f1_.symm;have Cg:=f3_.symm;clear f1_ f2_ f3_;subst Ch;subst Cg))
      obtain ⟨Cn,Cj,Ci⟩:=Kd.R_slice Ax.out
      (first|subst Ci|(injection Ci with f1_ f2_ f3_;have Ch:=f1_.symm;have Cg:=f3_.symm;clear f1_ f2_ f3_;subst Ch;subst Cg))
      refine hK.out _ _ ⟨((HB.out.cell (World.block_lt_of_cell? w _ Ah)).trans Ah),((HB.out.cell (World.block_lt_of_cell? w _ Ag)).trans Ag),((HB.out.cell (World.block_lt_of_cell? w _ Af)).trans Af),((HB.out.cell (World.block_lt_of_cell? w _ Ae)).trans Ae),((HB.out.cell (World.block_lt_of_cell? w _ Ad)).trans Ad),((HB.out.cell (World.block_lt_of_cell? w _ Ac)).trans Ac),((HB.out.cell (World.block_lt_of_cell? w _ Ab)).trans Ab)⟩ (fun Ak=>?_)
      clear hK K
      refine norm_ (a':=?_) ?_ ?_
      rotate_left
      ·show Act.put _ (some 17) _ = _
       simp only [Act.put,List.setIfInBounds_toArray,List.set_cons_zero,List.set_cons_succ,i64_w,i32_w]
       rfl
      refine pu_ 12 (some 23) (tt_ 16 8191) ?_
      refine one_ (i:=13) (N:=some 24) #[true,true,true,true,true,true,true,true,true,true,true,true,true,true,false,false] rfl rfl (one_of Di.out kr_) de_ (fun K hK=>?_)
      refine value_ (w1:=?_) (v:=?_) (by rfl) rfl ?_ ?_
      rotate_left 2
      ·go_simp
       constructor
       ·rfl
       ·rfl
      refine hK.out _ _ ⟨(World.cell?_alloc_lt _ _ _ (World.block_lt_of_cell? _ _ (((HB.out.cell (World.block_lt_of_cell? w _ Ah)).trans Ah)))).trans (((HB.out.cell (World.block_lt_of_cell? w _ Ah)).trans Ah)),(World.cell?_alloc_lt _ _ _ (World.block_lt_of_cell? _ _ (((HB.out.cell (World.block_lt_of_cell? w _ Ag)).trans Ag)))).trans (((HB.out.cell (World.block_lt_of_cell? w _ Ag)).trans Ag)),(World.cell?_alloc_lt _ _ _ (World.block_lt_of_cell? _ _ (((HB.out.cell (World.block_lt_of_cell? w _ Af)).trans Af)))).trans (((HB.out.cell (World.block_lt_of_cell? w _ Af)).trans Af)),(World.cell?_alloc_lt _ _ _ (World.block_lt_of_cell? _ _ (((HB.out.cell (World.block_lt_of_cell? w _ Ae)).trans Ae)))).trans (((HB.out.cell (World.block_lt_of_cell? w _ Ae)).trans Ae)),(World.cell?_alloc_lt _ _ _ (World.block_lt_of_cell? _ _ (((HB.out.cell (World.block_lt_of_cell? w _ Ad)).trans Ad)))).trans (((HB.out.cell (World.block_lt_of_cell? w _ Ad)).trans Ad)),(World.cell?_alloc_lt _ _ _ (World.block_lt_of_cell? _ _ (((HB.out.cell (World.block_lt_of_cell? w _ Ac)).trans Ac)))).trans (((HB.out.cell (World.block_lt_of_cell? w _ Ac)).trans Ac)),(World.cell?_alloc_lt _ _ _ (World.block_lt_of_cell? _ _ (((HB.out.cell (World.block_lt_of_cell? w _ Ab)).trans Ab)))).trans (((HB.out.cell (World.block_lt_of_cell? w _ Ab)).trans Ab))⟩ (fun Ak=>?_)
      clear hK K
      refine norm_ (a':=?_) ?_ ?_
      rotate_left
      ·show Act.put _ (some 24) _ = _
       simp only [Act.put,List.setIfInBounds_toArray,List.set_cons_zero,List.set_cons_succ,i64_w,i32_w]
       rfl
      refine one_ (i:=14) (N:=some 25) #[true,true,true,true,true,true,true,true,true,true,true,true,true,true,true,false] rfl rfl (one_of Di.out kr_) de_ (fun K hK=>?_)
      refine Kd.S_append_step k52 (w0:=w) w.heap.size (by rfl) (.tmp 11) (.tmp 24) 37 52 (.agg #[(.int .i64 0),(.int .i64 0),(.int .i64 0),(.slice none 0 0),(.slice none 0 0),(.slice none 0 0),(.string ⟨#[]⟩)]) 112 rfl Tryz.underlying37 info52 rfl de_ (by omega) u3 Ay (⟨(⟨Bf,Be,Bd,Bc,Bb,Ba⟩:S26),(rd_T52 l0 Aa).f1⟩:S52) [.int .i64 Bf,.int .i64 Be,.int .i64 Bd,.slice Cn Bc.length Cj,.slice Dt Bb.length Dp,.slice Du Ba.length Dq,.string ((rd_T52 l0 Aa).f1)] (fun _=>True) (fun k_=>some k_ = (.slice Cn Bc.length Cj:Value).ownBlock ∨ some k_ = (.slice Dt Bb.length Dp:Value).ownBlock ∨ some k_ = (.slice Du Ba.length Dq:Value).ownBlock) rfl rfl ?aP (fun k_ hk_=>hk_.elim (fun h_=>((Kd.R_mono (ok':=fun k_=>((fun _=>True)) k_∧some k_≠(u3:Value).ownBlock) (Kd.R_apart' (Ax.out) (Kd.S_typed Aj.out) de_) (fun k_ hk=>⟨trivial,hk.2⟩))).1 k_ h_.symm) (fun h_=>h_.elim (fun h_=>((Kd.R_mono (ok':=fun k_=>((fun _=>True)) k_∧some k_≠(u3:Value).ownBlock) (Kd.R_apart' (Aw.out) (Kd.S_typed Aj.out) de_) (fun k_ hk=>⟨trivial,hk.2⟩))).1 k_ h_.symm) (fun h_=>((Kd.R_mono (ok':=fun k_=>((fun _=>True)) k_∧some k_≠(u3:Value).ownBlock) (Kd.R_apart' (Av.out) (Kd.S_typed Aj.out) de_) (fun k_ hk=>⟨trivial,hk.2⟩))).1 k_ h_.symm))) ?aF ?aO ?aB ?aS ?aL ?_
      (case aP=>exact k52_mkM _ _ _ (⟨(⟨Bf,Be,Bd,Bc,Bb,Ba⟩:S26),(rd_T52 l0 Aa).f1⟩:S52) (Kd.R_mono (Kd.R_tight rfl (Kd.R_mono (ok':=fun k_=>((fun _=>True)) k_∧some k_≠(u3:Value).ownBlock) (Kd.R_apart' (Ax.out) (Kd.S_typed Aj.out) de_) (fun k_ hk=>⟨trivial,hk.2⟩))) (fun _ h_=>Or.inl h_)) (Kd.R_mono (Kd.R_tight rfl (Kd.R_mono (ok':=fun k_=>((fun _=>True)) k_∧some k_≠(u3:Value).ownBlock) (Kd.R_apart' (Aw.out) (Kd.S_typed Aj.out) de_) (fun k_ hk=>⟨trivial,hk.2⟩))) (fun _ h_=>Or.inr (Or.inl h_))) (Kd.R_mono (Kd.R_tight rfl (Kd.R_mono (ok':=fun k_=>((fun _=>True)) k_∧some k_≠(u3:Value).ownBlock) (Kd.R_apart' (Av.out) (Kd.S_typed Aj.out) de_) (fun k_ hk=>⟨trivial,hk.2⟩))) (fun _ h_=>Or.inr (Or.inr (h_)))))
      (case aB=>exact bx_)
      (case aF=>exact (fun _ _=>trivial))
      (case aO=>exact (by (with_reducible repeat (first|apply Kd.S_alloc|apply Kd.S_drewN|apply Kd.S_drew));exact Kd.S_mono Aj.out (fun k_ hk=>⟨trivial,fun e_=>e_.elim (fun h_=>hk.1.1.2 h_) (fun h_=>h_.elim (fun h_=>hk.1.2 h_) (fun h_=>hk.2 h_))⟩)))
      (case aS=>exact (below_size bx_))
      (case aL=>have:=Dh.out;omega)
      intro Dv Ec ho hb hg hat
      rw [← Cl.out] at ho
      have Cm:=Aside0.mk ho
      replace HB:=Aside0.mk hb
      clear Aj
      clear Ax
      clear Aw
      clear Av
      clear ho hb hg hat
      refine hK.out _ _ ⟨((HB.out.cell (World.block_lt_of_cell? w _ Ah)).trans Ah),((HB.out.cell (World.block_lt_of_cell? w _ Ag)).trans Ag),((HB.out.cell (World.block_lt_of_cell? w _ Af)).trans Af),((HB.out.cell (World.block_lt_of_cell? w _ Ae)).trans Ae),((HB.out.cell (World.block_lt_of_cell? w _ Ad)).trans Ad),((HB.out.cell (World.block_lt_of_cell? w _ Ac)).trans Ac),((HB.out.cell (World.block_lt_of_cell? w _ Ab)).trans Ab)⟩ (fun Ak=>?_)
      clear hK K
      refine norm_ (a':=?_) ?_ ?_
      rotate_left
      ·show Act.put _ (some 25) _ = _
       simp only [Act.put,List.setIfInBounds_toArray,List.set_cons_zero,List.set_cons_succ,i64_w,i32_w]
       rfl
      refine pu_ 15 (some 3) (tt_ 16 65535) ?_
      refine done_ (done_of Di.out kr_) ?_
      try go_wp2
      go_roundg k1
      case measure=>have:=Ds.out;omega
      case rel=>exact ⟨(y772),(wrap64 (Aa + 1)),rg_,H',⟨by have:=Ds.out;omega⟩,⟨by (with_reducible repeat (first|apply Kd.S_alloc|apply Kd.S_drewN|apply Kd.S_drew));exact Cm.out⟩,⟨bx_⟩⟩
     ·rw [if_neg c5] at H
      exact absurd H sm_
    ·rw [if_neg c3] at H
     exact absurd H sm_
   ·rw [if_neg c2] at H
    have Dg:decide (Aa < (l0.length:Int)) = false:=decide_eq_false c2
    clear c2
    obtain rfl:=Option.some.inj H
    go_wp2
    go_ret
    exact ⟨_,rf_,by (with_reducible repeat (first|apply Kd.S_alloc|apply Kd.S_drewN|apply Kd.S_drew));exact Aj.out,bx_⟩
set_option maxHeartbeats 8000000
set_option maxRecDepth 100000
def garboardlaw57_chain.l0:Nat→List (S52)→List (S26)→Int→Int→Option ((List (S52)))
 | 0,_,_,_,_=>none
 | k + 1,x3,x8,x9,x10=>if x10 < x9 then (if 0≤x10 then (if x10 < (x8.length:Int) then ((garboardref57_Copy.f k x3).bind fun t840=>((garboardref57_CopyEvent.f ((rd_T26 x8 x10).f0) ((rd_T26 x8 x10).f1) ((rd_T26 x8 x10).f2) ((rd_T26 x8 x10).f3) ((rd_T26 x8 x10).f4) ((rd_T26 x8 x10).f5)).bind fun bt843=>((record_Append.f k t840 bt843.1 bt843.2.1 bt843.2.2.1 bt843.2.2.2.1 bt843.2.2.2.2.1 bt843.2.2.2.2.2).bind fun bt855=>(if bt855.2 = 0 then (garboardlaw57_chain.l0 k bt855.1 x8 x9 (wrap64 (x10 + 1))) else (garboardlaw57_chain.l0 k x3 x8 x9 (wrap64 (x10 + 1))))))) else (none)) else (none)) else (some x3)
def garboardlaw57_chain.f (k:Nat) (l0:List (S26)):Option ((List (S52))):=garboardlaw57_chain.l0 k ([]:List (S52)) l0 (l0.length:Int) 0
def garboardlaw57_chain.T5:Bool × List (List Nat × List Nat):=(true,[([],[]),([0],[0]),([],[]),([2,1],[2]),([1,3,3],[1,3]),([4],[4]),([5],[5]),([5],[5]),([6,4,0,1,2,3,4,5,6],[6]),([7,8,0,1,2,3,4,5,6,7,8],[7])])
def garboardlaw57_chain.B5:List Nat:=[0,1,0,7,15,31,63,63,127,511]
theorem garboardlaw57_chain.tab5:rtab .any (opsOf Tryz.f26 5) = garboardlaw57_chain.T5:=by kernel_rfl
theorem garboardlaw57_chain.bits5:waitsOk garboardlaw57_chain.T5.2 garboardlaw57_chain.B5 = true:=by kernel_rfl
theorem garboardlaw57_chain.calls (k:Nat) (A0:Option Addr) (c0:Nat) (l0:List (S26)) (r:List (S52)) (w:World) (hr0:Kd.C k26 w A0 l0.length l0) (hc0:l0.length≤c0) (hL:LaidW w) (h:garboardlaw57_chain.f k l0 = some r) :
  Calls Tryz.prog 26 #[.slice A0 l0.length c0] w fun e w'=>∃ v0_:Value,e = .returned (v0_)∧Kd.S k52 52 w' w.heap.size (fun _=>True) v0_ r∧Below w.heap.size w w':=by
 have Ex:=Tryz.underlying26
 have Es:=Aside0.mk hr0
 have Fj:=Aside0.mk hc0
 clear hr0 hc0
 have HB:=Aside0.mk (Below.refl w.heap.size w)
 have HLW:=Aside0.mk hL
 clear hL
 have H:=h;clear h;unfold garboardlaw57_chain.f at H
 have H':=Aside0.mk H
 clear H
 go_enter Tryz.func26,Tryz.ntmps26
 go_wp2
 go_loopg [3,10] k (fun kq v3 Ew w'=>∃ (Aq:List (S52)) (Aa:Int),Ew = .int .i64 Aa∧Aside0 (garboardlaw57_chain.l0 kq Aq l0 (l0.length:Int) Aa = some r)∧Aside0 (kq≤k)∧Aside0 (Kd.S k52 52 w' w.heap.size (fun _=>True) v3 Aq)∧Aside0 (Below w.heap.size w w'))
 case atStart=>exact ⟨(([]:List (S52))),(0),rg_,H',⟨Nat.le_refl _⟩,⟨by first|exact Kd.S_nil _ _ _ _ _|exact Kd.N_nil _ _ _ _ _|exact Kd.V_nil _ _ _ _ _|exact Kd.Q_nil _ _ _ _ _|exact Kd.R_nil _ _ _ _ _⟩,⟨bx_⟩⟩
 case round =>
  clear H'
  obtain ⟨Aq,Aa,rfl,HA,Dm,Ad,HB⟩:=hrel
  cases gk with
  | zero=>exact absurd HA.out (by simp [garboardlaw57_chain.l0])
  | succ k1 =>
   have H:=HA.out
   clear HA
   simp only [garboardlaw57_chain.l0] at H
   by_cases c2:Aa < (l0.length:Int)
   ·rw [if_pos c2] at H
    have Ee:decide (Aa < (l0.length:Int)) = true:=decide_eq_true c2
    clear c2
    by_cases c3:0≤Aa
    ·rw [if_pos c3] at H
     have Ez:decide (0≤Aa) = true:=decide_eq_true c3
     clear c3
     by_cases c4:Aa < (l0.length:Int)
     ·rw [if_pos c4] at H
      have Ey:decide (Aa < (l0.length:Int)) = true:=decide_eq_true c4
      clear c4
      obtain ⟨Bk,A5,H⟩:=bn_ H
      obtain ⟨⟨Bj,Bi,Bh,Bg,Bf,Be⟩,A6,H⟩:=bn_ H
      dsimp only at H
      obtain ⟨⟨Bv,Bb⟩,A7,H⟩:=bn_ H
      dsimp only at H
      by_cases c8:Bb = 0
      ·rw [if_pos c8] at H
       have Ed:(Bb == 0) = true:=beq_iff_eq.mpr c8
       have Ec:(Bb != 0) = false:=bne_eq_false_iff_eq.mpr c8
       clear c8
       have H':=Aside0.mk H
       clear H
       have Bd:0≤(Aa:Int):=da_
       have Bc:Aa < (l0.length:Int):=da_
       obtain ⟨Cl,Aj,Ag,Ai,Af,Ah,Ae,Bz,Bq,Bp,Bo,Bn,Bm,Bl,Aw,Ba,Av,Ay,Au,Ax⟩:=ao26_ Es HB Aa Bd Bc
       cases Bz
       replace Bd:=eq_true Bd
       replace Bc:=eq_true Bc
       try go_wp2_with (first|((with_reducible refine gate_dst (N:=5) rfl ?_);refine bv_ #[.int .i64 0,.int .i64 0,.int .i64 0,.slice none 0 0,.slice none 0 0,.slice none 0 0] 26 ?_;clear HB;intro Ab hg w9 Ac Cm hb HB;replace Ad:=Aside0.mk (Kd.S_below (by (with_reducible repeat (first|apply Kd.S_alloc|apply Kd.S_drewN|apply Kd.S_drew));exact Ad.out) hb);clear hb hg;obtain ⟨Dl,Dk,Dj,Di,Dh,Dg,Cz,Cy,Cx,Cw,Cv,Cu⟩:=c6_ Ac))
       have By:Aside0 (Kd.S k52 52 ((((((w9.setCell ⟨Ab,0,none⟩ (.int .i64 ((rd_T26 l0 Aa).f0))).setCell ⟨Ab,1,none⟩ (.int .i64 ((rd_T26 l0 Aa).f1))).setCell ⟨Ab,2,none⟩ (.int .i64 ((rd_T26 l0 Aa).f2))).setCell ⟨Ab,3,none⟩ (.slice Aj ((rd_T26 l0 Aa).f3).length Ag)).setCell ⟨Ab,4,none⟩ (.slice Ai ((rd_T26 l0 Aa).f4).length Af)).setCell ⟨Ab,5,none⟩ (.slice Ah ((rd_T26 l0 Aa).f5).length Ae)) w.heap.size (fun _=>True) u3 Aq):=⟨by (with_reducible repeat (first|apply Kd.S_alloc|apply Kd.S_drewN|apply Kd.S_drew));exact Kd.S_mono (Kd.S_far (p:=⟨Ab,5,none⟩) (Kd.S_far (p:=⟨Ab,4,none⟩) (Kd.S_far (p:=⟨Ab,3,none⟩) (Kd.S_far (p:=⟨Ab,2,none⟩) (Kd.S_far (p:=⟨Ab,1,none⟩) (Kd.S_far (p:=⟨Ab,0,none⟩) (Kd.S_types Ad.out Ac.out de_) (fun _ hk=>hk.2) (.int .i64 ((rd_T26 l0 Aa).f0))) (fun _ hk=>hk.2) (.int .i64 ((rd_T26 l0 Aa).f1))) (fun _ hk=>hk.2) (.int .i64 ((rd_T26 l0 Aa).f2))) (fun _ hk=>hk.2) (.slice Aj ((rd_T26 l0 Aa).f3).length Ag)) (fun _ hk=>hk.2) (.slice Ai ((rd_T26 l0 Aa).f4).length Af)) (fun _ hk=>hk.2) (.slice Ah ((rd_T26 l0 Aa).f5).length Ae)) (fun _ hk=>trivial)⟩
       have Bx:Aside0 (((((((w9.setCell ⟨Ab,0,none⟩ (.int .i64 ((rd_T26 l0 Aa).f0))).setCell ⟨Ab,1,none⟩ (.int .i64 ((rd_T26 l0 Aa).f1))).setCell ⟨Ab,2,none⟩ (.int .i64 ((rd_T26 l0 Aa).f2))).setCell ⟨Ab,3,none⟩ (.slice Aj ((rd_T26 l0 Aa).f3).length Ag)).setCell ⟨Ab,4,none⟩ (.slice Ai ((rd_T26 l0 Aa).f4).length Af)).setCell ⟨Ab,5,none⟩ (.slice Ah ((rd_T26 l0 Aa).f5).length Ae)).heap[Ab]? = some (.cells #[.int .i64 ((rd_T26 l0 Aa).f0),.int .i64 ((rd_T26 l0 Aa).f1),.int .i64 ((rd_T26 l0 Aa).f2),.slice Aj ((rd_T26 l0 Aa).f3).length Ag,.slice Ai ((rd_T26 l0 Aa).f4).length Af,.slice Ah ((rd_T26 l0 Aa).f5).length Ae] 26 (0,0))):=⟨bk_⟩
       have Bw:Aside0 (Below w.heap.size w ((((((w9.setCell ⟨Ab,0,none⟩ (.int .i64 ((rd_T26 l0 Aa).f0))).setCell ⟨Ab,1,none⟩ (.int .i64 ((rd_T26 l0 Aa).f1))).setCell ⟨Ab,2,none⟩ (.int .i64 ((rd_T26 l0 Aa).f2))).setCell ⟨Ab,3,none⟩ (.slice Aj ((rd_T26 l0 Aa).f3).length Ag)).setCell ⟨Ab,4,none⟩ (.slice Ai ((rd_T26 l0 Aa).f4).length Af)).setCell ⟨Ab,5,none⟩ (.slice Ah ((rd_T26 l0 Aa).f5).length Ae))):=⟨bx_⟩
       (try clear Ad)
       (try clear Ac)
       (try clear HB)
       generalize ((((((w9.setCell ⟨Ab,0,none⟩ (.int .i64 ((rd_T26 l0 Aa).f0))).setCell ⟨Ab,1,none⟩ (.int .i64 ((rd_T26 l0 Aa).f1))).setCell ⟨Ab,2,none⟩ (.int .i64 ((rd_T26 l0 Aa).f2))).setCell ⟨Ab,3,none⟩ (.slice Aj ((rd_T26 l0 Aa).f3).length Ag)).setCell ⟨Ab,4,none⟩ (.slice Ai ((rd_T26 l0 Aa).f4).length Af)).setCell ⟨Ab,5,none⟩ (.slice Ah ((rd_T26 l0 Aa).f5).length Ae)) = Eu at By Bx Bw ⊢
       have Ad:=By
       have Ac:=Bx
       have HB:=Bw
       clear By Bx Bw
       replace Ad:=Aside0.mk (Kd.S_drew Ad.out)
       replace Ac:=dr_ Ac
       replace HB:=db_ HB
       obtain ⟨Er,Eb,Ck⟩:=Kd.S_slice Ad.out
       (first|subst Ck|(injection Ck with f1_ f2_ f3_;have At:=f1_.symm;have As:=f3_.symm;clear f1_ f2_ f3_;subst At;subst As))
       refine start_ (n:=10) (S:=fun w'=>w'.cell? ⟨Ab,0,none⟩ = some (.int .i64 ((rd_T26 l0 Aa).f0))∧w'.cell? ⟨Ab,1,none⟩ = some (.int .i64 ((rd_T26 l0 Aa).f1))∧w'.cell? ⟨Ab,2,none⟩ = some (.int .i64 ((rd_T26 l0 Aa).f2))∧w'.cell? ⟨Ab,3,none⟩ = some (.slice Aj ((rd_T26 l0 Aa).f3).length Ag)∧w'.cell? ⟨Ab,4,none⟩ = some (.slice Ai ((rd_T26 l0 Aa).f4).length Af)∧w'.cell? ⟨Ab,5,none⟩ = some (.slice Ah ((rd_T26 l0 Aa).f5).length Ae)) (ds:=[]) #[false,false,false,false,false,false,false,false,false,false] kr_ rfl rfl hc_ (fun Ao=>?_);refine with_tabW garboardlaw57_chain.tab5 garboardlaw57_chain.bits5 (fun Ef Fa=>?_)
       generalize Eu.drew = Fi at Ad Ac HB Ao ⊢
       refine pu_ 0 (some 15) (tt_ 10 1) ?_
       refine tk_ 2 (some 17) (tt_ 10 5) Ao ?_
       refine oc_ 1 (some 16) (tt_ 10 7) Tryz.func20 #[.slice Er Aq.length Eb] (fun K hK=>?_)
       with_reducible refine (garboardref57_Copy.calls k1 _ _ Aq Bk _ ?side1 ?side2 A5.out).mono ?_
       (case side1=>exact cx_ ((Kd.S_reads' Ad.out).2.2))
       (case side2=>exact (Kd.S_reads' Ad.out).2.1)
       rintro e Fh ⟨Dr,rfl,Ap,hb⟩
       refine ⟨_,rfl,?_⟩
       have Ak:=Aside0.mk (Kd.S_lower (Kd.S_new' Ap (Kd.S_lt (by (with_reducible repeat (first|apply Kd.S_alloc|apply Kd.S_drewN|apply Kd.S_drew));exact Ad.out))) (below_size bx_))
       replace Ad:=Aside0.mk (Kd.S_elder' (by (with_reducible repeat (first|apply Kd.S_alloc|apply Kd.S_drewN|apply Kd.S_drew));exact Ad.out) (Kd.S_base Ap) hb)
       replace Ac:=bb_ Ac hb
       replace HB:=bs_ hb
       (try clear hb)
       (try clear Ap)
       refine hk_ hK (fun Ao=>?_);clear hK K
       refine oc_ 3 (some 18) (tt_ 10 15) Tryz.func13 #[.agg #[.int .i64 ((rd_T26 l0 Aa).f0),.int .i64 ((rd_T26 l0 Aa).f1),.int .i64 ((rd_T26 l0 Aa).f2),.slice Aj ((rd_T26 l0 Aa).f3).length Ag,.slice Ai ((rd_T26 l0 Aa).f4).length Af,.slice Ah ((rd_T26 l0 Aa).f5).length Ae]] (fun K hK=>?_)
       with_reducible refine (garboardref57_CopyEvent.calls ((rd_T26 l0 Aa).f0) ((rd_T26 l0 Aa).f1) ((rd_T26 l0 Aa).f2) _ _ ((rd_T26 l0 Aa).f3) _ _ ((rd_T26 l0 Aa).f4) _ _ ((rd_T26 l0 Aa).f5) Bj Bi Bh Bg Bf Be _ ?side1 ?side2 ?side3 ?side4 ?side5 ?side6 A6.out).mono ?_
       (case side1=>exact cx_ (Kd.C_below Aw.out HB.out))
       (case side2=>exact Ba.out)
       (case side3=>exact cx_ (Kd.C_below Av.out HB.out))
       (case side4=>exact Ay.out)
       (case side5=>exact cx_ (Kd.C_below Au.out HB.out))
       (case side6=>exact Ax.out)
       rintro e Fg ⟨Dq,Dp,Do,rfl,Ap,Bt,Br,hb⟩
       refine ⟨_,rfl,?_⟩
       have An:=Aside0.mk (Kd.R_lower Ap (below_size bx_))
       have Am:=Aside0.mk (Kd.R_lower Bt (below_size bx_))
       have Al:=Aside0.mk (Kd.R_lower Br (below_size bx_))
       replace Ad:=Aside0.mk (Kd.S_mono (Kd.S_told (Kd.S_told (Kd.S_told (Kd.S_old (by (with_reducible repeat (first|apply Kd.S_alloc|apply Kd.S_drewN|apply Kd.S_drew));exact Ad.out) hb) (Kd.R_base Ap)) (Kd.R_base Bt)) (Kd.R_base Br)) (fun _ h_=>h_.1))
       replace Ak:=Aside0.mk (Kd.S_mono (Kd.S_told (Kd.S_told (Kd.S_told (Kd.S_old (by (with_reducible repeat (first|apply Kd.S_alloc|apply Kd.S_drewN|apply Kd.S_drew));exact Ak.out) hb) (Kd.R_base Ap)) (Kd.R_base Bt)) (Kd.R_base Br)) (fun _ h_=>h_.1))
       replace Ac:=bb_ Ac hb
       replace HB:=bs_ hb
       (try clear hb)
       (try clear Ap)
       (try clear Bt)
       (try clear Br)
       obtain ⟨Ep,Ea,Cj⟩:=Kd.S_slice Ak.out
       (first|subst Cj|(injection Cj with f1_ f2_ f3_;have At:=f1_.symm;have As:=f3_.symm;clear f1_ f2_ f3_;subst At;subst As))
       obtain ⟨Eo,Dz,Ci⟩:=Kd.R_slice An.out
       (first|subst Ci|(injection Ci with f1_ f2_ f3_;have At:=f1_.symm;have As:=f3_.symm;clear f1_ f2_ f3_;subst At;subst As))
       obtain ⟨Em,Dy,Ch⟩:=Kd.R_slice Am.out
       (first|subst Ch|(injection Ch with f1_ f2_ f3_;have At:=f1_.symm;have As:=f3_.symm;clear f1_ f2_ f3_;subst At;subst As))
       obtain ⟨El,Dx,Cg⟩:=Kd.R_slice Al.out
       (first|subst Cg|(injection Cg with f1_ f2_ f3_;have At:=f1_.symm;have As:=f3_.symm;clear f1_ f2_ f3_;subst At;subst As))
       refine hk_ hK (fun Ao=>?_);clear hK K
       refine oc_ 4 (some 19) (tt_ 10 31) Tryz.func31 #[.slice Ep Bk.length Ea,.agg #[.int .i64 Bj,.int .i64 Bi,.int .i64 Bh,.slice Eo Bg.length Dz,.slice Em Bf.length Dy,.slice El Be.length Dx]] (fun K hK=>?_)
       with_reducible refine (record_Append.calls k1 _ _ Bk Bj Bi Bh _ _ Bg _ _ Bf _ _ Be Bv Bb _ ?side1 ?side2 ?side3 ?side4 ?side5 ?side6 ?side7 ?side8 ?side9 A7.out).mono ?_
       (case side1=>exact cx_ ((Kd.S_reads' Ak.out).2.2))
       (case side2=>exact (Kd.S_reads' Ak.out).2.1)
       (case side3=>exact cx_ ((Kd.R_reads' An.out).2.2))
       (case side4=>exact (Kd.R_reads' An.out).2.1)
       (case side5=>exact cx_ ((Kd.R_reads' Am.out).2.2))
       (case side6=>exact (Kd.R_reads' Am.out).2.1)
       (case side7=>exact cx_ ((Kd.R_reads' Al.out).2.2))
       (case side8=>exact (Kd.R_reads' Al.out).2.1)
       (case side9=>exact HLW.out.below bx_)
       rintro e Ff ⟨Dn,rfl,Ap,hb⟩
       refine ⟨_,rfl,?_⟩
       have Bu:=Aside0.mk (Kd.S_lower (Kd.S_new' (Kd.S_new' (Kd.S_new' (Kd.S_new' (Kd.S_new' Ap (Kd.S_lt (by (with_reducible repeat (first|apply Kd.S_alloc|apply Kd.S_drewN|apply Kd.S_drew));exact Ad.out))) (Kd.S_lt (by (with_reducible repeat (first|apply Kd.S_alloc|apply Kd.S_drewN|apply Kd.S_drew));exact Ak.out))) (Kd.R_lt (by (with_reducible repeat (first|apply Kd.R_alloc|apply Kd.R_drewN|apply Kd.R_drew));exact An.out))) (Kd.R_lt (by (with_reducible repeat (first|apply Kd.R_alloc|apply Kd.R_drewN|apply Kd.R_drew));exact Am.out))) (Kd.R_lt (by (with_reducible repeat (first|apply Kd.R_alloc|apply Kd.R_drewN|apply Kd.R_drew));exact Al.out))) (below_size bx_))
       replace Ad:=Aside0.mk (Kd.S_elder' (by (with_reducible repeat (first|apply Kd.S_alloc|apply Kd.S_drewN|apply Kd.S_drew));exact Ad.out) (Kd.S_base Ap) hb)
       replace Ak:=Aside0.mk (Kd.S_elder' (by (with_reducible repeat (first|apply Kd.S_alloc|apply Kd.S_drewN|apply Kd.S_drew));exact Ak.out) (Kd.S_base Ap) hb)
       replace An:=rb_ An hb
       replace Am:=rb_ Am hb
       replace Al:=rb_ Al hb
       replace Ac:=bb_ Ac hb
       replace HB:=bs_ hb
       (try clear hb)
       (try clear Ap)
       refine hk_ hK (fun Ao=>?_);clear hK K
       refine pu_ 5 (some 14) (tt_ 10 63) ?_
       refine pu_ 6 (some 20) (tt_ 10 127) ?_
       refine pu_ 7 (some 21) (tt_ 10 255) ?_
       refine pu_ 8 (some 6) (tt_ 10 511) ?_
       refine pu_ 9 (some 7) (tt_ 10 1023) ?_
       refine done_ (done_of Ef.out kr_) ?_
       try go_wp2
       go_roundg k1
       case measure=>have:=Dm.out;omega
       case rel=>exact ⟨(Bv),(wrap64 (Aa + 1)),rg_,H',⟨by have:=Dm.out;omega⟩,⟨by (with_reducible repeat (first|apply Kd.S_alloc|apply Kd.S_drewN|apply Kd.S_drew));exact Kd.S_mono Bu.out (fun _ hk=>trivial)⟩,⟨bx_⟩⟩
      ·rw [if_neg c8] at H
       have Ed:(Bb == 0) = false:=beq_eq_false_iff_ne.mpr c8
       have Ec:(Bb != 0) = true:=bne_iff_ne.mpr c8
       have H':=Aside0.mk H
       clear H
       have Bd:0≤(Aa:Int):=da_
       have Bc:Aa < (l0.length:Int):=da_
       obtain ⟨Cl,Aj,Ag,Ai,Af,Ah,Ae,Bz,Bq,Bp,Bo,Bn,Bm,Bl,Aw,Ba,Av,Ay,Au,Ax⟩:=ao26_ Es HB Aa Bd Bc
       cases Bz
       replace Bd:=eq_true Bd
       replace Bc:=eq_true Bc
       try go_wp2_with (first|((with_reducible refine gate_dst (N:=5) rfl ?_);refine bv_ #[.int .i64 0,.int .i64 0,.int .i64 0,.slice none 0 0,.slice none 0 0,.slice none 0 0] 26 ?_;clear HB;intro Ab hg Cn Ac Cm hb HB;replace Ad:=Aside0.mk (Kd.S_below (by (with_reducible repeat (first|apply Kd.S_alloc|apply Kd.S_drewN|apply Kd.S_drew));exact Ad.out) hb);clear hb hg;obtain ⟨Df,De,Dd,Dc,Db,Da,Ct,Cs,Cr,Cq,Cp,Co⟩:=c6_ Ac))
       have By:Aside0 (Kd.S k52 52 ((((((Cn.setCell ⟨Ab,0,none⟩ (.int .i64 ((rd_T26 l0 Aa).f0))).setCell ⟨Ab,1,none⟩ (.int .i64 ((rd_T26 l0 Aa).f1))).setCell ⟨Ab,2,none⟩ (.int .i64 ((rd_T26 l0 Aa).f2))).setCell ⟨Ab,3,none⟩ (.slice Aj ((rd_T26 l0 Aa).f3).length Ag)).setCell ⟨Ab,4,none⟩ (.slice Ai ((rd_T26 l0 Aa).f4).length Af)).setCell ⟨Ab,5,none⟩ (.slice Ah ((rd_T26 l0 Aa).f5).length Ae)) w.heap.size (fun _=>True) u3 Aq):=⟨by (with_reducible repeat (first|apply Kd.S_alloc|apply Kd.S_drewN|apply Kd.S_drew));exact Kd.S_mono (Kd.S_far (p:=⟨Ab,5,none⟩) (Kd.S_far (p:=⟨Ab,4,none⟩) (Kd.S_far (p:=⟨Ab,3,none⟩) (Kd.S_far (p:=⟨Ab,2,none⟩) (Kd.S_far (p:=⟨Ab,1,none⟩) (Kd.S_far (p:=⟨Ab,0,none⟩) (Kd.S_types Ad.out Ac.out de_) (fun _ hk=>hk.2) (.int .i64 ((rd_T26 l0 Aa).f0))) (fun _ hk=>hk.2) (.int .i64 ((rd_T26 l0 Aa).f1))) (fun _ hk=>hk.2) (.int .i64 ((rd_T26 l0 Aa).f2))) (fun _ hk=>hk.2) (.slice Aj ((rd_T26 l0 Aa).f3).length Ag)) (fun _ hk=>hk.2) (.slice Ai ((rd_T26 l0 Aa).f4).length Af)) (fun _ hk=>hk.2) (.slice Ah ((rd_T26 l0 Aa).f5).length Ae)) (fun _ hk=>trivial)⟩
       have Bx:Aside0 (((((((Cn.setCell ⟨Ab,0,none⟩ (.int .i64 ((rd_T26 l0 Aa).f0))).setCell ⟨Ab,1,none⟩ (.int .i64 ((rd_T26 l0 Aa).f1))).setCell ⟨Ab,2,none⟩ (.int .i64 ((rd_T26 l0 Aa).f2))).setCell ⟨Ab,3,none⟩ (.slice Aj ((rd_T26 l0 Aa).f3).length Ag)).setCell ⟨Ab,4,none⟩ (.slice Ai ((rd_T26 l0 Aa).f4).length Af)).setCell ⟨Ab,5,none⟩ (.slice Ah ((rd_T26 l0 Aa).f5).length Ae)).heap[Ab]? = some (.cells #[.int .i64 ((rd_T26 l0 Aa).f0),.int .i64 ((rd_T26 l0 Aa).f1),.int .i64 ((rd_T26 l0 Aa).f2),.slice Aj ((rd_T26 l0 Aa).f3).length Ag,.slice Ai ((rd_T26 l0 Aa).f4).length Af,.slice Ah ((rd_T26 l0 Aa).f5).length Ae] 26 (0,0))):=⟨bk_⟩
       have Bw:Aside0 (Below w.heap.size w ((((((Cn.setCell ⟨Ab,0,none⟩ (.int .i64 ((rd_T26 l0 Aa).f0))).setCell ⟨Ab,1,none⟩ (.int .i64 ((rd_T26 l0 Aa).f1))).setCell ⟨Ab,2,none⟩ (.int .i64 ((rd_T26 l0 Aa).f2))).setCell ⟨Ab,3,none⟩ (.slice Aj ((rd_T26 l0 Aa).f3).length Ag)).setCell ⟨Ab,4,none⟩ (.slice Ai ((rd_T26 l0 Aa).f4).length Af)).setCell ⟨Ab,5,none⟩ (.slice Ah ((rd_T26 l0 Aa).f5).length Ae))):=⟨bx_⟩
       (try clear Ad)
       (try clear Ac)
       (try clear HB)
       generalize ((((((Cn.setCell ⟨Ab,0,none⟩ (.int .i64 ((rd_T26 l0 Aa).f0))).setCell ⟨Ab,1,none⟩ (.int .i64 ((rd_T26 l0 Aa).f1))).setCell ⟨Ab,2,none⟩ (.int .i64 ((rd_T26 l0 Aa).f2))).setCell ⟨Ab,3,none⟩ (.slice Aj ((rd_T26 l0 Aa).f3).length Ag)).setCell ⟨Ab,4,none⟩ (.slice Ai ((rd_T26 l0 Aa).f4).length Af)).setCell ⟨Ab,5,none⟩ (.slice Ah ((rd_T26 l0 Aa).f5).length Ae)) = Et at By Bx Bw ⊢
       have Ad:=By
       have Ac:=Bx
       have HB:=Bw
       clear By Bx Bw
       replace Ad:=Aside0.mk (Kd.S_drew Ad.out)
       replace Ac:=dr_ Ac
       replace HB:=db_ HB
       obtain ⟨Ek,Dw,Cf⟩:=Kd.S_slice Ad.out
       (first|subst Cf|(injection Cf with f1_ f2_ f3_;have At:=f1_.symm;have As:=f3_.symm;clear f1_ f2_ f3_;subst At;subst As))
       refine start_ (n:=10) (S:=fun w'=>w'.cell? ⟨Ab,0,none⟩ = some (.int .i64 ((rd_T26 l0 Aa).f0))∧w'.cell? ⟨Ab,1,none⟩ = some (.int .i64 ((rd_T26 l0 Aa).f1))∧w'.cell? ⟨Ab,2,none⟩ = some (.int .i64 ((rd_T26 l0 Aa).f2))∧w'.cell? ⟨Ab,3,none⟩ = some (.slice Aj ((rd_T26 l0 Aa).f3).length Ag)∧w'.cell? ⟨Ab,4,none⟩ = some (.slice Ai ((rd_T26 l0 Aa).f4).length Af)∧w'.cell? ⟨Ab,5,none⟩ = some (.slice Ah ((rd_T26 l0 Aa).f5).length Ae)) (ds:=[]) #[false,false,false,false,false,false,false,false,false,false] kr_ rfl rfl hc_ (fun Ao=>?_);refine with_tabW garboardlaw57_chain.tab5 garboardlaw57_chain.bits5 (fun Ef Fa=>?_)
       generalize Et.drew = Fe at Ad Ac HB Ao ⊢
       refine pu_ 0 (some 15) (tt_ 10 1) ?_
       refine tk_ 2 (some 17) (tt_ 10 5) Ao ?_
       refine oc_ 1 (some 16) (tt_ 10 7) Tryz.func20 #[.slice Ek Aq.length Dw] (fun K hK=>?_)
       with_reducible refine (garboardref57_Copy.calls k1 _ _ Aq Bk _ ?side1 ?side2 A5.out).mono ?_
       (case side1=>exact cx_ ((Kd.S_reads' Ad.out).2.2))
       (case side2=>exact (Kd.S_reads' Ad.out).2.1)
       rintro e Fd ⟨Dr,rfl,Ap,hb⟩
       refine ⟨_,rfl,?_⟩
       have Ak:=Aside0.mk (Kd.S_lower (Kd.S_new' Ap (Kd.S_lt (by (with_reducible repeat (first|apply Kd.S_alloc|apply Kd.S_drewN|apply Kd.S_drew));exact Ad.out))) (below_size bx_))
       replace Ad:=Aside0.mk (Kd.S_elder' (by (with_reducible repeat (first|apply Kd.S_alloc|apply Kd.S_drewN|apply Kd.S_drew));exact Ad.out) (Kd.S_base Ap) hb)
       replace Ac:=bb_ Ac hb
       replace HB:=bs_ hb
       (try clear hb)
       (try clear Ap)
       refine hk_ hK (fun Ao=>?_);clear hK K
       refine oc_ 3 (some 18) (tt_ 10 15) Tryz.func13 #[.agg #[.int .i64 ((rd_T26 l0 Aa).f0),.int .i64 ((rd_T26 l0 Aa).f1),.int .i64 ((rd_T26 l0 Aa).f2),.slice Aj ((rd_T26 l0 Aa).f3).length Ag,.slice Ai ((rd_T26 l0 Aa).f4).length Af,.slice Ah ((rd_T26 l0 Aa).f5).length Ae]] (fun K hK=>?_)
       with_reducible refine (garboardref57_CopyEvent.calls ((rd_T26 l0 Aa).f0) ((rd_T26 l0 Aa).f1) ((rd_T26 l0 Aa).f2) _ _ ((rd_T26 l0 Aa).f3) _ _ ((rd_T26 l0 Aa).f4) _ _ ((rd_T26 l0 Aa).f5) Bj Bi Bh Bg Bf Be _ ?side1 ?side2 ?side3 ?side4 ?side5 ?side6 A6.out).mono ?_
       (case side1=>exact cx_ (Kd.C_below Aw.out HB.out))
       (case side2=>exact Ba.out)
       (case side3=>exact cx_ (Kd.C_below Av.out HB.out))
       (case side4=>exact Ay.out)
       (case side5=>exact cx_ (Kd.C_below Au.out HB.out))
       (case side6=>exact Ax.out)
       rintro e Fc ⟨Dq,Dp,Do,rfl,Ap,Bt,Br,hb⟩
       refine ⟨_,rfl,?_⟩
       have An:=Aside0.mk (Kd.R_lower Ap (below_size bx_))
       have Am:=Aside0.mk (Kd.R_lower Bt (below_size bx_))
       have Al:=Aside0.mk (Kd.R_lower Br (below_size bx_))
       replace Ad:=Aside0.mk (Kd.S_mono (Kd.S_told (Kd.S_told (Kd.S_told (Kd.S_old (by (with_reducible repeat (first|apply Kd.S_alloc|apply Kd.S_drewN|apply Kd.S_drew));exact Ad.out) hb) (Kd.R_base Ap)) (Kd.R_base Bt)) (Kd.R_base Br)) (fun _ h_=>h_.1))
       replace Ak:=Aside0.mk (Kd.S_mono (Kd.S_told (Kd.S_told (Kd.S_told (Kd.S_old (by (with_reducible repeat (first|apply Kd.S_alloc|apply Kd.S_drewN|apply Kd.S_drew));exact Ak.out) hb) (Kd.R_base Ap)) (Kd.R_base Bt)) (Kd.R_base Br)) (fun _ h_=>h_.1))
       replace Ac:=bb_ Ac hb
       replace HB:=bs_ hb
       (try clear hb)
       (try clear Ap)
       (try clear Bt)
       (try clear Br)
       obtain ⟨Ej,Dv,Ce⟩:=Kd.S_slice Ak.out
       (first|subst Ce|(injection Ce with f1_ f2_ f3_;have At:=f1_.symm;have As:=f3_.symm;clear f1_ f2_ f3_;subst At;subst As))
       obtain ⟨Ei,Du,Cc⟩:=Kd.R_slice An.out
       (first|subst Cc|(injection Cc with f1_ f2_ f3_;have At:=f1_.symm;have As:=f3_.symm;clear f1_ f2_ f3_;subst At;subst As))
       obtain ⟨Eh,Dt,Cb⟩:=Kd.R_slice Am.out
       (first|subst Cb|(injection Cb with f1_ f2_ f3_;have At:=f1_.symm;have As:=f3_.symm;clear f1_ f2_ f3_;subst At;subst As))
       obtain ⟨Eg,Ds,Ca⟩:=Kd.R_slice Al.out
       (first|subst Ca|(injection Ca with f1_ f2_ f3_;have At:=f1_.symm;have As:=f3_.symm;clear f1_ f2_ f3_;subst At;subst As))
       refine hk_ hK (fun Ao=>?_);clear hK K
       refine oc_ 4 (some 19) (tt_ 10 31) Tryz.func31 #[.slice Ej Bk.length Dv,.agg #[.int .i64 Bj,.int .i64 Bi,.int .i64 Bh,.slice Ei Bg.length Du,.slice Eh Bf.length Dt,.slice Eg Be.length Ds]] (fun K hK=>?_)
       with_reducible refine (record_Append.calls k1 _ _ Bk Bj Bi Bh _ _ Bg _ _ Bf _ _ Be Bv Bb _ ?side1 ?side2 ?side3 ?side4 ?side5 ?side6 ?side7 ?side8 ?side9 A7.out).mono ?_
       (case side1=>exact cx_ ((Kd.S_reads' Ak.out).2.2))
       (case side2=>exact (Kd.S_reads' Ak.out).2.1)
       (case side3=>exact cx_ ((Kd.R_reads' An.out).2.2))
       (case side4=>exact (Kd.R_reads' An.out).2.1)
       (case side5=>exact cx_ ((Kd.R_reads' Am.out).2.2))
       (case side6=>exact (Kd.R_reads' Am.out).2.1)
       (case side7=>exact cx_ ((Kd.R_reads' Al.out).2.2))
       (case side8=>exact (Kd.R_reads' Al.out).2.1)
       (case side9=>exact HLW.out.below bx_)
       rintro e Fb ⟨Dn,rfl,Ap,hb⟩
       refine ⟨_,rfl,?_⟩
       have Bu:=Aside0.mk (Kd.S_lower (Kd.S_new' (Kd.S_new' (Kd.S_new' (Kd.S_new' (Kd.S_new' Ap (Kd.S_lt (by (with_reducible repeat (first|apply Kd.S_alloc|apply Kd.S_drewN|apply Kd.S_drew));exact Ad.out))) (Kd.S_lt (by (with_reducible repeat (first|apply Kd.S_alloc|apply Kd.S_drewN|apply Kd.S_drew));exact Ak.out))) (Kd.R_lt (by (with_reducible repeat (first|apply Kd.R_alloc|apply Kd.R_drewN|apply Kd.R_drew));exact An.out))) (Kd.R_lt (by (with_reducible repeat (first|apply Kd.R_alloc|apply Kd.R_drewN|apply Kd.R_drew));exact Am.out))) (Kd.R_lt (by (with_reducible repeat (first|apply Kd.R_alloc|apply Kd.R_drewN|apply Kd.R_drew));exact Al.out))) (below_size bx_))
       replace Ad:=Aside0.mk (Kd.S_elder' (by (with_reducible repeat (first|apply Kd.S_alloc|apply Kd.S_drewN|apply Kd.S_drew));exact Ad.out) (Kd.S_base Ap) hb)
       replace Ak:=Aside0.mk (Kd.S_elder' (by (with_reducible repeat (first|apply Kd.S_alloc|apply Kd.S_drewN|apply Kd.S_drew));exact Ak.out) (Kd.S_base Ap) hb)
       replace An:=rb_ An hb
       replace Am:=rb_ Am hb
       replace Al:=rb_ Al hb
       replace Ac:=bb_ Ac hb
       replace HB:=bs_ hb
       (try clear hb)
       (try clear Ap)
       refine hk_ hK (fun Ao=>?_);clear hK K
       refine pu_ 5 (some 14) (tt_ 10 63) ?_
       refine pu_ 6 (some 20) (tt_ 10 127) ?_
       refine pu_ 7 (some 21) (tt_ 10 255) ?_
       refine pu_ 8 (some 6) (tt_ 10 511) ?_
       refine pu_ 9 (some 7) (tt_ 10 1023) ?_
       refine done_ (done_of Ef.out kr_) ?_
       try go_wp2
       go_roundg k1
       case measure=>have:=Dm.out;omega
       case rel=>exact ⟨(Aq),(wrap64 (Aa + 1)),rg_,H',⟨by have:=Dm.out;omega⟩,⟨by (with_reducible repeat (first|apply Kd.S_alloc|apply Kd.S_drewN|apply Kd.S_drew));exact Kd.S_mono Ad.out (fun _ hk=>trivial)⟩,⟨bx_⟩⟩
     ·rw [if_neg c4] at H
      exact absurd H sm_
    ·rw [if_neg c3] at H
     exact absurd H sm_
   ·rw [if_neg c2] at H
    have Ee:decide (Aa < (l0.length:Int)) = false:=decide_eq_false c2
    clear c2
    obtain rfl:=Option.some.inj H
    go_wp2
    go_ret
    exact ⟨_,rf_,by (with_reducible repeat (first|apply Kd.S_alloc|apply Kd.S_drewN|apply Kd.S_drew));exact Ad.out,bx_⟩
set_option maxHeartbeats 4000000
set_option maxRecDepth 100000
def PredT26 (g:Nat) (xs:List S26) (p:S26→Bool) (w:World):Prop :=
 ∀ (W:World) (x:S26),x ∈ xs→Below w.heap.size w W→∀ A3 c3 A4 c4 A5 c5,x.f3.length≤c3→Kd.C (Kd.int .i64) W A3 x.f3.length x.f3→x.f4.length≤c4→Kd.C Kd.string W A4 x.f4.length x.f4→x.f5.length≤c5→Kd.C Kd.string W A5 x.f5.length x.f5 →
  Calls Tryz.prog g #[.agg #[.int .i64 x.f0,.int .i64 x.f1,.int .i64 x.f2,.slice A3 x.f3.length c3,.slice A4 x.f4.length c4,.slice A5 x.f5.length c5]] W fun e w'=>e = .returned (.bool (p x))∧Below w.heap.size w w'
theorem idxT26 (p:S26→Bool) (g:Nat) (eg:∀ args w,(callFunc g args).run Tryz.prog w = .ok (.enter g args) w) (A:Option Addr) (c:Nat) (xs:List S26) (w:World)
  (hr:Kd.C k26 w A xs.length xs) (hp:PredT26 g xs p w) :
  Calls Tryz.prog 79 #[.slice A xs.length c,.func (.func g) #[] #[]] w fun e w'=>e = .returned (.int .i64 (fidx p xs 0))∧Below w.heap.size w w':=by
 have As:=hr.2.1
 have Aq:=Tryz.underlying26
 have Ap:=Tryz.underlying52
 have HR:=Aside0.mk hr
 have HP:=Aside0.mk hp
 clear hr hp
 go_enter Tryz.func79,Tryz.ntmps79
 go_wp2
 go_loopg [5,8] xs.length (fun gg _ s8 wr=>∃ kk:Nat,kk≤xs.length∧xs.length - kk≤gg∧s8 = .int .i64 kk∧Aside0 (Below w.heap.size w wr)∧Aside0 (∀ j z,j < kk→xs[j]? = some z→p z = false))
 case atStart=>exact ⟨0,Nat.zero_le _,by omega,rfl,⟨Below.refl _ w⟩,⟨fun j z hj=>absurd hj (Nat.not_lt_zero _)⟩⟩
 case round =>
  obtain ⟨kk,hkk,hg,rfl,BW,AF⟩:=hrel
  by_cases hlt:kk < xs.length
  ·have Ai:(kk:Int) < (xs.length:Int):=by omega
   obtain ⟨ad,A3,c3,A4,c4,A5,c5,e,Ah,Ag,Af,Ae,Ad,Ac,Al,Ao,Ak,An,Aj,Am⟩:=at_T26 HR.out (kk:Int) (by omega) Ai
   cases e
   replace Ah:=(BW.out.cell (World.block_lt_of_cell? w _ Ah)).trans Ah
   replace Ag:=(BW.out.cell (World.block_lt_of_cell? w _ Ag)).trans Ag
   replace Af:=(BW.out.cell (World.block_lt_of_cell? w _ Af)).trans Af
   replace Ae:=(BW.out.cell (World.block_lt_of_cell? w _ Ae)).trans Ae
   replace Ad:=(BW.out.cell (World.block_lt_of_cell? w _ Ad)).trans Ad
   replace Ac:=(BW.out.cell (World.block_lt_of_cell? w _ Ac)).trans Ac
   simp only [Int.toNat_natCast] at Ah Ag Af Ae Ad Ac
   have Ab:xs[kk]? = some (rd_T26 xs kk):=by
    unfold rd_T26
    rw [List.getD_eq_getElem?_getD,Int.toNat_natCast,List.getElem?_eq_getElem hlt]
    rfl
   have Aa:=HP.out wr (rd_T26 xs kk) (List.mem_of_getElem? Ab) BW.out A3 c3 A4 c4 A5 c5 Al (Kd.C_below Ao BW.out) Ak (Kd.C_below An BW.out) Aj (Kd.C_below Am BW.out)
   clear Al Ao Ak An Aj Am
   have HG:=Aside0.mk Ab
   clear Ab
   generalize rd_T26 xs (kk:Int) = y at Ah Ag Af Ae Ad Ac Aa HG
   cases hq:p y with
   | true =>
    have HQ:=Aside0.mk hq
    rw [hq] at Aa
    clear hq
    go_wp2_with fail
    refine Aa.mono ?_
    clear Aa
    rintro e w' ⟨rfl,hb'⟩
    go_wp2_with fail
    go_ret
    refine ⟨?_,hb'⟩
    rw [fidx_hit p xs 0 kk _ HG.out HQ.out AF.out,Nat.zero_add]
    rfl
   | false =>
    have HQ:=Aside0.mk hq
    rw [hq] at Aa
    clear hq
    go_wp2_with fail
    refine Aa.mono ?_
    clear Aa
    rintro e w' ⟨rfl,hb'⟩
    go_wp2_with fail
    go_roundg (xs.length - (kk + 1))
    case measure=>omega
    case rel =>
     refine ⟨kk + 1,by omega,by omega,by go_num,⟨hb'⟩,⟨fun j z hj hz=>?_⟩⟩
     by_cases e:j = kk
     ·subst e
      rw [HG.out] at hz
      injection hz with hz
      rw [← hz]
      exact HQ.out
     ·exact AF.out j z (by omega) hz
  ·have Ai:¬ (kk:Int) < (xs.length:Int):=by omega
   go_wp2
   go_ret
   refine ⟨?_,BW.out⟩
   have hf:fidx p xs 0 = -1:=fidx_miss p xs 0 (fun x hx=>by
    obtain ⟨j,hj⟩:=List.getElem?_of_mem hx
    have hjl:=(List.getElem?_eq_some_iff.1 hj).1
    exact AF.out j x (by omega) hj)
   rw [hf]
   rfl
theorem hasT26 (p:S26→Bool) (g:Nat) (eg:∀ args w,(callFunc g args).run Tryz.prog w = .ok (.enter g args) w) (A:Option Addr) (c:Nat) (xs:List S26) (w:World)
  (hr:Kd.C k26 w A xs.length xs) (hp:PredT26 g xs p w) :
  Calls Tryz.prog 66 #[.slice A xs.length c,.func (.func g) #[] #[]] w fun e w'=>e = .returned (.bool (xs.any p))∧Below w.heap.size w w':=by
 have Aa:=idxT26 p g eg A c xs w hr hp
 rw [fidx_any p xs 0]
 clear hr hp eg
 generalize fidx p xs 0 = q at Aa ⊢
 go_enter Tryz.func66,Tryz.ntmps66
 go_wp2_with fail
 refine Aa.mono ?_
 clear Aa
 rintro e w' ⟨rfl,hb'⟩
 go_wp2_with fail
 go_ret
 exact ⟨by first|rfl|simp,hb'⟩
set_option maxHeartbeats 8000000
set_option maxRecDepth 100000
mutual
def garboardref57_Few.l0:Nat→Int→Int→Int→Int→List Int→List ByteArray→List ByteArray→Option (Bool)
 | 0,_,_,_,_,_,_,_=>none
 | k + 1,x3,x432000,x432001,x432002,x432003,x432004,x432005=>if x3 < (x432004.length:Int) then (if 0≤x3 then (if ((rdOf ByteArray.empty x432004 x3).size:Int) > 201 then (some false) else (garboardref57_Few.l0 k (wrap64 (x3 + 1)) x432000 x432001 x432002 x432003 x432004 x432005)) else (none)) else (garboardref57_Few.l1 k 0 x432000 x432001 x432002 x432003 x432004 x432005)
def garboardref57_Few.l1:Nat→Int→Int→Int→Int→List Int→List ByteArray→List ByteArray→Option (Bool)
 | 0,_,_,_,_,_,_,_=>none
 | k + 1,x4,x432000,x432001,x432002,x432003,x432004,x432005=>if x4 < (x432005.length:Int) then (if 0≤x4 then (if ((rdOf ByteArray.empty x432005 x4).size:Int) > 100 then (if ((rdOf ByteArray.empty x432005 x4).size:Int)≤4096 then (some false) else (if ((rdOf ByteArray.empty x432005 x4).size:Int) > 4097 then (some false) else (garboardref57_Few.l1 k (wrap64 (x4 + 1)) x432000 x432001 x432002 x432003 x432004 x432005))) else (if ((rdOf ByteArray.empty x432005 x4).size:Int) > 4097 then (some false) else (garboardref57_Few.l1 k (wrap64 (x4 + 1)) x432000 x432001 x432002 x432003 x432004 x432005))) else (none)) else (if (x432003.length:Int)≤65 then (if (x432004.length:Int)≤65 then (some (decide ((x432005.length:Int)≤17))) else (some false)) else (some false))
end
def garboardref57_Few.f (k:Nat) (a0_0:Int) (a0_1:Int) (a0_2:Int) (l0_3:List Int) (l0_4:List ByteArray) (l0_5:List ByteArray):Option (Bool):=garboardref57_Few.l0 k 0 a0_0 a0_1 a0_2 l0_3 l0_4 l0_5
theorem garboardref57_Few.calls (k:Nat) (a0_0:Int) (a0_1:Int) (a0_2:Int) (A0_3:Option Addr) (c0_3:Nat) (l0_3:List Int) (A0_4:Option Addr) (c0_4:Nat) (l0_4:List ByteArray) (A0_5:Option Addr) (c0_5:Nat) (l0_5:List ByteArray) (r:Bool) (w:World) (hr0_3:Kd.C (Kd.int .i64) w A0_3 l0_3.length l0_3) (hc0_3:l0_3.length≤c0_3) (hr0_4:Kd.C Kd.string w A0_4 l0_4.length l0_4) (hc0_4:l0_4.length≤c0_4) (hr0_5:Kd.C Kd.string w A0_5 l0_5.length l0_5) (hc0_5:l0_5.length≤c0_5) (h:garboardref57_Few.f k a0_0 a0_1 a0_2 l0_3 l0_4 l0_5 = some r) :
  Calls Tryz.prog 11 #[.agg #[.int .i64 a0_0,.int .i64 a0_1,.int .i64 a0_2,.slice A0_3 l0_3.length c0_3,.slice A0_4 l0_4.length c0_4,.slice A0_5 l0_5.length c0_5]] w fun e w'=>e = .returned (.bool r)∧Below w.heap.size w w':=by
 have Hw:=Tryz.underlying26
 have Hr:=Aside0.mk hr0_3
 have Hu:=Aside0.mk hc0_3
 clear hr0_3 hc0_3
 have Bc:=Aside0.mk hr0_4
 have Ht:=Aside0.mk hc0_4
 clear hr0_4 hc0_4
 have Ak:=Aside0.mk hr0_5
 have Hs:=Aside0.mk hc0_5
 clear hr0_5 hc0_5
 have HB:=Aside0.mk (Below.refl w.heap.size w)
 have H:=h;clear h;unfold garboardref57_Few.f at H
 have H':=Aside0.mk H
 clear H
 go_enter Tryz.func11,Tryz.ntmps11
 go_wp2_with (first|((with_reducible refine gate_dst (N:=1) rfl ?_);(try (refine gate_guard (by rfl) ?_;dsimp only));refine bv_ #[.int .i64 a0_0,.int .i64 a0_1,.int .i64 a0_2,.slice A0_3 l0_3.length c0_3,.slice A0_4 l0_4.length c0_4,.slice A0_5 l0_5.length c0_5] 26 ?_;clear HB;intro Bb hg w2 Ae Hv hb HB;clear hb hg))
 go_loopg [3] k (fun kq v3 w'=>∃ (Ad:Int),v3 = .int .i64 Ad∧Aside0 (garboardref57_Few.l0 kq Ad a0_0 a0_1 a0_2 l0_3 l0_4 l0_5 = some r)∧Aside0 (kq≤k)∧Aside0 (w'.heap[Bb]? = some (.cells #[.int .i64 a0_0,.int .i64 a0_1,.int .i64 a0_2,(.slice A0_3 l0_3.length c0_3),(.slice A0_4 l0_4.length c0_4),(.slice A0_5 l0_5.length c0_5)] 26 (0,0)))∧Aside0 (Below w.heap.size w w'))
 case atStart=>exact ⟨(0),rg_,H',⟨Nat.le_refl _⟩,⟨bk_⟩,⟨bx_⟩⟩
 case round =>
  clear H'
  obtain ⟨Ad,rfl,HA,Bz,Ae,HB⟩:=hrel
  cases gk with
  | zero=>exact absurd HA.out (by simp [garboardref57_Few.l0])
  | succ k1 =>
   have H:=HA.out
   clear HA
   simp only [garboardref57_Few.l0] at H
   by_cases c3:Ad < (l0_4.length:Int)
   ·rw [if_pos c3] at H
    have Ca:decide (Ad < (l0_4.length:Int)) = true:=decide_eq_true c3
    clear c3
    by_cases c4:0≤Ad
    ·rw [if_pos c4] at H
     have Hx:decide (0≤Ad) = true:=decide_eq_true c4
     clear c4
     by_cases c5:((rdOf ByteArray.empty l0_4 Ad).size:Int) > 201
     ·rw [if_pos c5] at H
      have Hp:decide (201 < ((rdOf ByteArray.empty l0_4 Ad).size:Int)) = true:=decide_eq_true c5
      have Ho:decide (201 < (rdOf ByteArray.empty l0_4 Ad).size) = true:=decide_eq_true (by omega)
      clear c5
      obtain rfl:=Option.some.inj H
      obtain ⟨Hm,Hl,Hk,Hj,Hi,Hh,Gz,Gy,Gx,Gw,Gv,Gu⟩:=c6_ Ae
      have Aw:0≤(Ad:Int):=da_
      have At:Ad < (l0_4.length:Int):=da_
      obtain ⟨Co,Br,Aj⟩:=Kd.at_string Bc.out Ad Aw At
      cases Br
      replace Aj:=(HB.out.cell (World.block_lt_of_cell? w _ Aj)).trans Aj
      replace Aw:=eq_true Aw
      replace At:=eq_true At
      go_wp2
      go_ret
      exact ⟨rf_,bx_⟩
     ·rw [if_neg c5] at H
      have Hp:decide (201 < ((rdOf ByteArray.empty l0_4 Ad).size:Int)) = false:=decide_eq_false c5
      have Ho:decide (201 < (rdOf ByteArray.empty l0_4 Ad).size) = false:=decide_eq_false (by omega)
      clear c5
      have H':=Aside0.mk H
      clear H
      obtain ⟨Hg,Hf,He,Hd,Hb,Ha,Gt,Gs,Gr,Gq,Gp,Gn⟩:=c6_ Ae
      have Aw:0≤(Ad:Int):=da_
      have At:Ad < (l0_4.length:Int):=da_
      obtain ⟨Co,Br,Aj⟩:=Kd.at_string Bc.out Ad Aw At
      cases Br
      replace Aj:=(HB.out.cell (World.block_lt_of_cell? w _ Aj)).trans Aj
      replace Aw:=eq_true Aw
      replace At:=eq_true At
      go_wp2
      go_roundg k1
      case measure=>have:=Bz.out;omega
      case rel=>exact ⟨(wrap64 (Ad + 1)),rg_,H',⟨by have:=Bz.out;omega⟩,⟨bk_⟩,⟨bx_⟩⟩
    ·rw [if_neg c4] at H
     exact absurd H sm_
   ·rw [if_neg c3] at H
    have Ca:decide (Ad < (l0_4.length:Int)) = false:=decide_eq_false c3
    clear c3
    have H':=Aside0.mk H
    clear H
    obtain ⟨Bo,Bn,Bm,Bl,Bk,Bj,Bi,Bh,Bg,Bf,Be,Bd⟩:=c6_ Ae
    go_wp2
    go_loopg [4] k1 (fun kq v4 w'=>∃ (Aa:Int),v4 = .int .i64 Aa∧Aside0 (garboardref57_Few.l1 kq Aa a0_0 a0_1 a0_2 l0_3 l0_4 l0_5 = some r)∧Aside0 (kq≤k1)∧Aside0 (w'.heap[Bb]? = some (.cells #[.int .i64 a0_0,.int .i64 a0_1,.int .i64 a0_2,(.slice A0_3 l0_3.length c0_3),(.slice A0_4 l0_4.length c0_4),(.slice A0_5 l0_5.length c0_5)] 26 (0,0)))∧Aside0 (Below w.heap.size w w'))
    case atStart=>exact ⟨(0),rg_,H',⟨Nat.le_refl _⟩,⟨bk_⟩,⟨bx_⟩⟩
    case round =>
     clear H'
     try clear c3
     try clear Ca
     try clear Bo
     try clear Bn
     try clear Bm
     try clear Bl
     try clear Bk
     try clear Bj
     try clear Bi
     try clear Bh
     try clear Bg
     try clear Bf
     try clear Be
     try clear Bd
     obtain ⟨Aa,rfl,HA,Gm,Ae,HB⟩:=hrel
     cases gk with
     | zero=>exact absurd HA.out (by simp [garboardref57_Few.l1])
     | succ k2 =>
      have H:=HA.out
      clear HA
      simp only [garboardref57_Few.l1] at H
      by_cases c9:Aa < (l0_5.length:Int)
      ·rw [if_pos c9] at H
       have Hn:decide (Aa < (l0_5.length:Int)) = true:=decide_eq_true c9
       clear c9
       by_cases Gl:0≤Aa
       ·rw [if_pos Gl] at H
        have Hq:decide (0≤Aa) = true:=decide_eq_true Gl
        clear Gl
        by_cases By:((rdOf ByteArray.empty l0_5 Aa).size:Int) > 100
        ·rw [if_pos By] at H
         have Cn:decide (100 < ((rdOf ByteArray.empty l0_5 Aa).size:Int)) = true:=decide_eq_true By
         have Cm:decide (100 < (rdOf ByteArray.empty l0_5 Aa).size) = true:=decide_eq_true (by omega)
         clear By
         by_cases Bx:((rdOf ByteArray.empty l0_5 Aa).size:Int)≤4096
         ·rw [if_pos Bx] at H
          have Cl:decide (((rdOf ByteArray.empty l0_5 Aa).size:Int)≤4096) = true:=decide_eq_true Bx
          have Ck:decide ((rdOf ByteArray.empty l0_5 Aa).size≤4096) = true:=decide_eq_true (by omega)
          clear Bx
          obtain rfl:=Option.some.inj H
          obtain ⟨Gk,Gj,Gi,Gh,Gg,Gf,Ek,Ej,Ei,Eh,Eg,Ef⟩:=c6_ Ae
          have Ag:0≤(Aa:Int):=da_
          have Af:Aa < (l0_5.length:Int):=da_
          obtain ⟨Al,Ao,Ab⟩:=Kd.at_string Ak.out Aa Ag Af
          cases Ao
          replace Ab:=(HB.out.cell (World.block_lt_of_cell? w _ Ab)).trans Ab
          replace Ag:=eq_true Ag
          replace Af:=eq_true Af
          have An:0≤(Aa:Int):=da_
          have Am:Aa < (l0_5.length:Int):=da_
          obtain ⟨Ap,Ax,Ac⟩:=Kd.at_string Ak.out Aa An Am
          obtain rfl:Al = Ap:=(by injection Ax)
          replace Ac:=(HB.out.cell (World.block_lt_of_cell? w _ Ac)).trans Ac
          replace An:=eq_true An
          replace Am:=eq_true Am
          go_wp2
          go_ret
          exact ⟨rf_,bx_⟩
         ·rw [if_neg Bx] at H
          have Cl:decide (((rdOf ByteArray.empty l0_5 Aa).size:Int)≤4096) = false:=decide_eq_false Bx
          have Ck:decide ((rdOf ByteArray.empty l0_5 Aa).size≤4096) = false:=decide_eq_false (by omega)
          clear Bx
          by_cases Bw:((rdOf ByteArray.empty l0_5 Aa).size:Int) > 4097
          ·rw [if_pos Bw] at H
           have Cj:decide (4097 < ((rdOf ByteArray.empty l0_5 Aa).size:Int)) = true:=decide_eq_true Bw
           have Ci:decide (4097 < (rdOf ByteArray.empty l0_5 Aa).size) = true:=decide_eq_true (by omega)
           clear Bw
           obtain rfl:=Option.some.inj H
           obtain ⟨Ge,Gd,Gc,Gb,Ga,Fz,Ee,Ed,Ec,Eb,Ea,Dz⟩:=c6_ Ae
           have Ag:0≤(Aa:Int):=da_
           have Af:Aa < (l0_5.length:Int):=da_
           obtain ⟨Al,Ao,Ab⟩:=Kd.at_string Ak.out Aa Ag Af
           cases Ao
           replace Ab:=(HB.out.cell (World.block_lt_of_cell? w _ Ab)).trans Ab
           replace Ag:=eq_true Ag
           replace Af:=eq_true Af
           have An:0≤(Aa:Int):=da_
           have Am:Aa < (l0_5.length:Int):=da_
           obtain ⟨Ap,Ax,Ac⟩:=Kd.at_string Ak.out Aa An Am
           obtain rfl:Al = Ap:=(by injection Ax)
           replace Ac:=(HB.out.cell (World.block_lt_of_cell? w _ Ac)).trans Ac
           replace An:=eq_true An
           replace Am:=eq_true Am
           have Av:0≤(Aa:Int):=da_
           have As:Aa < (l0_5.length:Int):=da_
           obtain ⟨Ba,Bq,Ai⟩:=Kd.at_string Ak.out Aa Av As
           obtain rfl:Al = Ba:=(by injection Bq)
           replace Ai:=(HB.out.cell (World.block_lt_of_cell? w _ Ai)).trans Ai
           replace Av:=eq_true Av
           replace As:=eq_true As
           go_wp2
           go_ret
           exact ⟨rf_,bx_⟩
          ·rw [if_neg Bw] at H
           have Cj:decide (4097 < ((rdOf ByteArray.empty l0_5 Aa).size:Int)) = false:=decide_eq_false Bw
           have Ci:decide (4097 < (rdOf ByteArray.empty l0_5 Aa).size) = false:=decide_eq_false (by omega)
           clear Bw
           have H':=Aside0.mk H
           clear H
           obtain ⟨Fy,Fx,Fw,Fv,Fu,Ft,Dy,Dx,Dw,Dv,Du,Dt⟩:=c6_ Ae
           have Ag:0≤(Aa:Int):=da_
           have Af:Aa < (l0_5.length:Int):=da_
           obtain ⟨Al,Ao,Ab⟩:=Kd.at_string Ak.out Aa Ag Af
           cases Ao
           replace Ab:=(HB.out.cell (World.block_lt_of_cell? w _ Ab)).trans Ab
           replace Ag:=eq_true Ag
           replace Af:=eq_true Af
           have An:0≤(Aa:Int):=da_
           have Am:Aa < (l0_5.length:Int):=da_
           obtain ⟨Ap,Ax,Ac⟩:=Kd.at_string Ak.out Aa An Am
           obtain rfl:Al = Ap:=(by injection Ax)
           replace Ac:=(HB.out.cell (World.block_lt_of_cell? w _ Ac)).trans Ac
           replace An:=eq_true An
           replace Am:=eq_true Am
           have Av:0≤(Aa:Int):=da_
           have As:Aa < (l0_5.length:Int):=da_
           obtain ⟨Ba,Bq,Ai⟩:=Kd.at_string Ak.out Aa Av As
           obtain rfl:Al = Ba:=(by injection Bq)
           replace Ai:=(HB.out.cell (World.block_lt_of_cell? w _ Ai)).trans Ai
           replace Av:=eq_true Av
           replace As:=eq_true As
           go_wp2
           go_roundg k2
           case measure=>have:=Bz.out;have:=Gm.out;omega
           case rel=>exact ⟨(wrap64 (Aa + 1)),rg_,H',⟨by have:=Bz.out;have:=Gm.out;omega⟩,⟨bk_⟩,⟨bx_⟩⟩
        ·rw [if_neg By] at H
         have Cn:decide (100 < ((rdOf ByteArray.empty l0_5 Aa).size:Int)) = false:=decide_eq_false By
         have Cm:decide (100 < (rdOf ByteArray.empty l0_5 Aa).size) = false:=decide_eq_false (by omega)
         clear By
         by_cases Bv:((rdOf ByteArray.empty l0_5 Aa).size:Int) > 4097
         ·rw [if_pos Bv] at H
          have Ch:decide (4097 < ((rdOf ByteArray.empty l0_5 Aa).size:Int)) = true:=decide_eq_true Bv
          have Cg:decide (4097 < (rdOf ByteArray.empty l0_5 Aa).size) = true:=decide_eq_true (by omega)
          clear Bv
          obtain rfl:=Option.some.inj H
          obtain ⟨Fs,Fr,Fq,Fp,Fo,Fm,Ds,Dr,Dq,Dp,Do,Dn⟩:=c6_ Ae
          have Ag:0≤(Aa:Int):=da_
          have Af:Aa < (l0_5.length:Int):=da_
          obtain ⟨Al,Ao,Ab⟩:=Kd.at_string Ak.out Aa Ag Af
          cases Ao
          replace Ab:=(HB.out.cell (World.block_lt_of_cell? w _ Ab)).trans Ab
          replace Ag:=eq_true Ag
          replace Af:=eq_true Af
          have Au:0≤(Aa:Int):=da_
          have Aq:Aa < (l0_5.length:Int):=da_
          obtain ⟨Ay,Bp,Ah⟩:=Kd.at_string Ak.out Aa Au Aq
          obtain rfl:Al = Ay:=(by injection Bp)
          replace Ah:=(HB.out.cell (World.block_lt_of_cell? w _ Ah)).trans Ah
          replace Au:=eq_true Au
          replace Aq:=eq_true Aq
          go_wp2
          go_ret
          exact ⟨rf_,bx_⟩
         ·rw [if_neg Bv] at H
          have Ch:decide (4097 < ((rdOf ByteArray.empty l0_5 Aa).size:Int)) = false:=decide_eq_false Bv
          have Cg:decide (4097 < (rdOf ByteArray.empty l0_5 Aa).size) = false:=decide_eq_false (by omega)
          clear Bv
          have H':=Aside0.mk H
          clear H
          obtain ⟨Fl,Fk,Fj,Fi,Fh,Fg,Dm,Dl,Dk,Dj,Di,Dh⟩:=c6_ Ae
          have Ag:0≤(Aa:Int):=da_
          have Af:Aa < (l0_5.length:Int):=da_
          obtain ⟨Al,Ao,Ab⟩:=Kd.at_string Ak.out Aa Ag Af
          cases Ao
          replace Ab:=(HB.out.cell (World.block_lt_of_cell? w _ Ab)).trans Ab
          replace Ag:=eq_true Ag
          replace Af:=eq_true Af
          have Au:0≤(Aa:Int):=da_
          have Aq:Aa < (l0_5.length:Int):=da_
          obtain ⟨Ay,Bp,Ah⟩:=Kd.at_string Ak.out Aa Au Aq
          obtain rfl:Al = Ay:=(by injection Bp)
          replace Ah:=(HB.out.cell (World.block_lt_of_cell? w _ Ah)).trans Ah
          replace Au:=eq_true Au
          replace Aq:=eq_true Aq
          go_wp2
          go_roundg k2
          case measure=>have:=Bz.out;have:=Gm.out;omega
          case rel=>exact ⟨(wrap64 (Aa + 1)),rg_,H',⟨by have:=Bz.out;have:=Gm.out;omega⟩,⟨bk_⟩,⟨bx_⟩⟩
       ·rw [if_neg Gl] at H
        exact absurd H sm_
      ·rw [if_neg c9] at H
       have Hn:decide (Aa < (l0_5.length:Int)) = false:=decide_eq_false c9
       clear c9
       by_cases Bu:(l0_3.length:Int)≤65
       ·rw [if_pos Bu] at H
        have Cf:decide ((l0_3.length:Int)≤65) = true:=decide_eq_true Bu
        have Ce:decide (l0_3.length≤65) = true:=decide_eq_true (by omega)
        clear Bu
        by_cases Bt:(l0_4.length:Int)≤65
        ·rw [if_pos Bt] at H
         have Cc:decide ((l0_4.length:Int)≤65) = true:=decide_eq_true Bt
         have Cb:decide (l0_4.length≤65) = true:=decide_eq_true (by omega)
         clear Bt
         obtain rfl:=Option.some.inj H
         obtain ⟨Ff,Fe,Fd,Fc,Fb,Fa,Dg,Df,De,Dd,Dc,Db⟩:=c6_ Ae
         go_wp2
         go_ret
         exact ⟨rf_,bx_⟩
        ·rw [if_neg Bt] at H
         have Cc:decide ((l0_4.length:Int)≤65) = false:=decide_eq_false Bt
         have Cb:decide (l0_4.length≤65) = false:=decide_eq_false (by omega)
         clear Bt
         obtain rfl:=Option.some.inj H
         obtain ⟨Ez,Ey,Ex,Ew,Eu,Et,Da,Cz,Cy,Cx,Cw,Cv⟩:=c6_ Ae
         go_wp2
         go_ret
         exact ⟨rf_,bx_⟩
       ·rw [if_neg Bu] at H
        have Cf:decide ((l0_3.length:Int)≤65) = false:=decide_eq_false Bu
        have Ce:decide (l0_3.length≤65) = false:=decide_eq_false (by omega)
        clear Bu
        obtain rfl:=Option.some.inj H
        obtain ⟨Es,Er,Ep,Eo,Em,El,Cu,Ct,Cs,Cr,Cq,Cp⟩:=c6_ Ae
        go_wp2
        go_ret
        exact ⟨rf_,bx_⟩
set_option maxHeartbeats 8000000
set_option maxRecDepth 100000
def garboardlaw57_few_1.f (k:Nat) (a0_0:Int) (a0_1:Int) (a0_2:Int) (l0_3:List Int) (l0_4:List ByteArray) (l0_5:List ByteArray):Option (Bool):=(garboardref57_Few.f k a0_0 a0_1 a0_2 l0_3 l0_4 l0_5).bind fun t860=>(some (!t860))
theorem garboardlaw57_few_1.calls (k:Nat) (a0_0:Int) (a0_1:Int) (a0_2:Int) (A0_3:Option Addr) (c0_3:Nat) (l0_3:List Int) (A0_4:Option Addr) (c0_4:Nat) (l0_4:List ByteArray) (A0_5:Option Addr) (c0_5:Nat) (l0_5:List ByteArray) (r:Bool) (w:World) (hr0_3:Kd.C (Kd.int .i64) w A0_3 l0_3.length l0_3) (hc0_3:l0_3.length≤c0_3) (hr0_4:Kd.C Kd.string w A0_4 l0_4.length l0_4) (hc0_4:l0_4.length≤c0_4) (hr0_5:Kd.C Kd.string w A0_5 l0_5.length l0_5) (hc0_5:l0_5.length≤c0_5) (h:garboardlaw57_few_1.f k a0_0 a0_1 a0_2 l0_3 l0_4 l0_5 = some r) :
  Calls Tryz.prog 67 #[.agg #[.int .i64 a0_0,.int .i64 a0_1,.int .i64 a0_2,.slice A0_3 l0_3.length c0_3,.slice A0_4 l0_4.length c0_4,.slice A0_5 l0_5.length c0_5]] w fun e w'=>e = .returned (.bool r)∧Below w.heap.size w w':=by
 have Ax:=Tryz.underlying26
 have Ad:=Aside0.mk hr0_3
 have Ag:=Aside0.mk hc0_3
 clear hr0_3 hc0_3
 have Ac:=Aside0.mk hr0_4
 have Af:=Aside0.mk hc0_4
 clear hr0_4 hc0_4
 have Ab:=Aside0.mk hr0_5
 have Ae:=Aside0.mk hc0_5
 clear hr0_5 hc0_5
 have HB:=Aside0.mk (Below.refl w.heap.size w)
 have H:=h;clear h;unfold garboardlaw57_few_1.f at H
 obtain ⟨Ah,A2,H⟩:=bn_ H
 obtain rfl:=Option.some.inj H
 go_enter Tryz.func67,Tryz.ntmps67
 go_wp2_with (first|((with_reducible refine gate_dst (N:=1) rfl ?_);refine bv_ #[.int .i64 a0_0,.int .i64 a0_1,.int .i64 a0_2,.slice A0_3 l0_3.length c0_3,.slice A0_4 l0_4.length c0_4,.slice A0_5 l0_5.length c0_5] 26 ?_;clear HB;intro Av hg w3 Aa Aw hb HB;clear hb hg;obtain ⟨Au,At,As,Aq,Ap,Ao,An,Am,Al,Ak,Aj,Ai⟩:=c6_ Aa)|((with_reducible refine gate_callee (f:=11) rfl ?_);refine gm_ (some 4) Tryz.func11 #[.agg #[.int .i64 a0_0,.int .i64 a0_1,.int .i64 a0_2,.slice A0_3 l0_3.length c0_3,.slice A0_4 l0_4.length c0_4,.slice A0_5 l0_5.length c0_5]] ?_;(with_reducible refine (garboardref57_Few.calls k a0_0 a0_1 a0_2 _ _ l0_3 _ _ l0_4 _ _ l0_5 Ah _ ?side1 ?side2 ?side3 ?side4 ?side5 ?side6 A2.out).mono ?_);(case side1=>exact cx_ (Kd.C_below Ad.out HB.out));(case side2=>exact Ag.out);(case side3=>exact cx_ (Kd.C_below Ac.out HB.out));(case side4=>exact Af.out);(case side5=>exact cx_ (Kd.C_below Ab.out HB.out));(case side6=>exact Ae.out);rintro e w5 ⟨rfl,hb⟩;refine ⟨_,rfl,?_⟩;replace Aa:=bb_ Aa hb;replace HB:=bs_ hb;(try clear hb)))
 go_ret
 exact ⟨rf_,bx_⟩
set_option maxRecDepth 100000
def cl67 (k:Nat) (x:S26):Option Bool:=garboardlaw57_few_1.f k x.f0 x.f1 x.f2 x.f3 x.f4 x.f5
def api_Event_66.f (k:Nat) (l:List S26):Option Bool:=if l.all (fun x=>(cl67 k x).isSome) = true then some (l.any fun x=>cl67 k x == some true) else none
theorem api_Event_66.calls (k:Nat) (A0:Option Addr) (c0:Nat) (l0:List S26) (r:Bool) (w:World) (hr0:Kd.C k26 w A0 l0.length l0) (hc0:l0.length≤c0) (h:api_Event_66.f k l0 = some r) :
  Calls Tryz.prog 66 #[.slice A0 l0.length c0,.func (.func 67) #[] #[]] w fun e w'=>e = .returned (.bool r)∧Below w.heap.size w w':=by
 unfold api_Event_66.f at h
 by_cases hc:l0.all (fun x=>(cl67 k x).isSome) = true
 ·rw [if_pos hc] at h
  obtain rfl:=Option.some.inj h
  refine hasT26 _ 67 (enters_of Tryz.func67 (by kernel_rfl) rfl) A0 c0 l0 w hr0 fun W x hx hb A3 c3 A4 c4 A5 c5 l3 h3 l4 h4 l5 h5=>?_
  obtain ⟨b,hv⟩:=Option.isSome_iff_exists.1 (List.all_eq_true.1 hc x hx)
  have e:(cl67 k x == some true) = b:=by rw [hv];cases b<;>rfl
  rw [e]
  exact (garboardlaw57_few_1.calls k x.f0 x.f1 x.f2 A3 c3 x.f3 A4 c4 x.f4 A5 c5 x.f5 b W h3 l3 h4 l4 h5 l5 hv).mono fun e' W' ⟨h1,h2⟩=>⟨h1,below_step hb h2⟩
 ·rw [if_neg hc] at h
  cases h
set_option maxHeartbeats 8000000
set_option maxRecDepth 100000
def garboardlaw57_few.f (k:Nat) (l0:List (S26)):Option (Bool):=if (l0.length:Int)≤12 then ((api_Event_66.f k l0).bind fun t468=>(some (!t468))) else (some false)
theorem garboardlaw57_few.calls (k:Nat) (A0:Option Addr) (c0:Nat) (l0:List (S26)) (r:Bool) (w:World) (hr0:Kd.C k26 w A0 l0.length l0) (hc0:l0.length≤c0) (h:garboardlaw57_few.f k l0 = some r) :
  Calls Tryz.prog 25 #[.slice A0 l0.length c0] w fun e w'=>e = .returned (.bool r)∧Below w.heap.size w w':=by
 have Ad:=Aside0.mk hr0
 have Ae:=Aside0.mk hc0
 clear hr0 hc0
 have HB:=Aside0.mk (Below.refl w.heap.size w)
 have H:=h;clear h;unfold garboardlaw57_few.f at H
 by_cases c2:(l0.length:Int)≤12
 ·rw [if_pos c2] at H
  have Ac:decide ((l0.length:Int)≤12) = true:=decide_eq_true c2
  have Ab:decide (l0.length≤12) = true:=decide_eq_true (by omega)
  clear c2
  obtain ⟨Aa,A3,H⟩:=bn_ H
  obtain rfl:=Option.some.inj H
  go_enter Tryz.func25,Tryz.ntmps25
  go_wp2_with (first|(go_at_call 66;(with_reducible refine (api_Event_66.calls k _ _ l0 Aa _ ?side1 ?side2 A3.out).mono ?_);(case side1=>exact cx_ Ad.out);(case side2=>exact Ae.out);rintro e w4 ⟨rfl,hb⟩;replace HB:=bs_ hb;(try clear hb)))
  go_ret
  exact ⟨rf_,bx_⟩
 ·rw [if_neg c2] at H
  have Ac:decide ((l0.length:Int)≤12) = false:=decide_eq_false c2
  have Ab:decide (l0.length≤12) = false:=decide_eq_false (by omega)
  clear c2
  obtain rfl:=Option.some.inj H
  go_enter Tryz.func25,Tryz.ntmps25
  go_wp2
  go_ret
  exact ⟨rf_,bx_⟩
open Go.Lib Go.Proofs.YtcmbggahndfnnaaGreatDoor.NatTh
def ngB (a:ByteArray):Bool:=(bs a).head? == some 45
def abB (a:ByteArray):ByteArray:=if ngB a = true then a.extract 1 a.size else a
def iv (a:ByteArray):Bool:=nv (abB a) && (!ngB a || !((abB a).toList == ([48]:List UInt8)))
theorem one45:(⟨#[45]⟩:ByteArray).toList = ([45]:List UInt8):=toL _
theorem cut_eq (a:ByteArray):strings_CutPrefix.f a (⟨#[45]⟩:ByteArray) = some (abB a,ngB a):=by
 have hsz:=bs_length a
 have s1:((⟨#[45]⟩:ByteArray).size:Int) = 1:=rfl
 have key:stringslite_HasPrefix.f a (⟨#[45]⟩:ByteArray) = some (ngB a):=by
  unfold stringslite_HasPrefix.f
  rw [s1]
  by_cases h:(a.size:Int) ≥ 1
  ·rw [if_pos h,if_pos (by omega),if_pos (by omega),one45,toL,show ((1:Int)).toNat = 1 from rfl,bs_to]
   congr 1
   unfold ngB
   cases hb:bs a with
   | nil=>rw [hb] at hsz;simp at hsz;omega
   | cons c l =>
    simp only [List.take_succ_cons,List.take_zero,List.head?_cons]
    by_cases hc:c = 45
    ·subst hc;rfl
    ·have e1:(([c]:List UInt8) == [45]) = false:=beq_eq_false_iff_ne.2 (fun e=>hc (by simpa using e))
     have e2:((some c:Option UInt8) == some 45) = false:=beq_eq_false_iff_ne.2 (fun e=>hc (Option.some.inj e))
     rw [e1,e2]
  ·rw [if_neg h]
   have h0:bs a = []:=List.length_eq_zero_iff.1 (by omega)
   unfold ngB
   rw [h0]
   rfl
 unfold strings_CutPrefix.f stringslite_CutPrefix.f
 rw [key,Option.bind_some,s1]
 by_cases h:ngB a = true
 ·have hs:1≤(a.size:Int):=by
   unfold ngB at h
   cases hb:bs a with
   | nil=>rw [hb] at h;cases h
   | cons c l=>rw [hb] at hsz;simp at hsz;omega
  rw [if_pos h,if_pos (by omega),if_pos hs,Option.bind_some]
  unfold abB
  rw [if_pos h,h]
  rfl
 ·rw [if_neg h,Option.bind_some]
  unfold abB
  rw [if_neg h,(by simpa using h:ngB a = false)]
theorem ab_size (a:ByteArray):(abB a).size≤a.size:=by
 unfold abB
 split
 ·rw [ByteArray.size_extract];omega
 ·exact Nat.le_refl _
theorem read_ev (a:ByteArray) (hs:a.size < 1152921504606846976):Ev (fun k=>integer_read.f k a) (ngB a,abB a,iv a):=by
 have v:=Valid_ev (abB a) (Nat.lt_of_le_of_lt (ab_size a) hs)
 refine Ev.congr (f:=fun k=>(natural_Valid.f k (abB a)).bind fun Aa=>(if Aa = true then (some (ngB a,abB a,(!ngB a || (!((abB a).toList == ([48]:List UInt8)))))) else (some (ngB a,abB a,false)))) (fun k=>by unfold integer_read.f;rw [cut_eq];rfl) (Ev.bind v (Ev.congr (fun k=>?_) (Ev.now _)))
 unfold iv
 cases nv (abB a) with
 | true=>rw [if_pos rfl,Bool.true_and]
 | false=>rw [if_neg (by simp),Bool.false_and]
theorem ev_t {α:Type} {c:Prop} [Decidable c] {x y:Nat→Option α} {r:α} (h:c) (e:Ev x r):Ev (fun k=>if c then x k else y k) r:=Ev.congr (fun k=>if_pos h) e
theorem ev_e {α:Type} {c:Prop} [Decidable c] {x y:Nat→Option α} {r:α} (h:¬ c) (e:Ev y r):Ev (fun k=>if c then x k else y k) r:=Ev.congr (fun k=>if_neg h) e
theorem sh_lt {a:ByteArray} (h:Sh a):a.size < 1152921504606846976:=by unfold Sh at h;omega
theorem sh_ab {a:ByteArray} (h:Sh a):Sh (abB a):=by have:=ab_size a;unfold Sh at h ⊢;omega
theorem sh_0:Sh ⟨#[48]⟩:=by unfold Sh;decide
theorem bothj_ex (x:Bool) (a:Bool) (b:ByteArray) (c:Bool) (d:ByteArray) (hb:Sh b):∃ r,Ev (fun k=>integer_both.j0 k x a b c d) r∧Sh r.2.1:=by
 cases x with
 | true=>exact ⟨(false,⟨#[48]⟩,false,⟨#[48]⟩,1),Ev.step (fun k=>by rw [integer_both.j0,if_pos rfl];rfl) (Ev.now _),sh_0⟩
 | false=>exact ⟨(a,b,c,d,0),Ev.step (fun k=>by rw [integer_both.j0,if_neg (by decide)]) (Ev.now _),hb⟩
theorem both_ex (a b:ByteArray) (ha:Sh a) (hb:Sh b):∃ r,Ev (fun k=>integer_both.f k a b) r∧Sh r.2.1:=by
 unfold integer_both.f
 cases hi:iv a with
 | true =>
  obtain ⟨r,h1,h2⟩:=bothj_ex (!iv b) (ngB a) (abB a) (ngB b) (abB b) (sh_ab ha)
  refine ⟨r,(read_ev a (sh_lt ha)).bind ((read_ev b (sh_lt hb)).bind ?_),h2⟩
  dsimp only
  rw [hi]
  exact h1
 | false =>
  obtain ⟨r,h1,h2⟩:=bothj_ex true (ngB a) (abB a) (ngB b) (abB b) (sh_ab ha)
  refine ⟨r,(read_ev a (sh_lt ha)).bind ((read_ev b (sh_lt hb)).bind ?_),h2⟩
  dsimp only
  rw [hi]
  exact h1
theorem abs_ex (a:ByteArray) (ha:Sh a):∃ r,Ev (fun k=>integer_Abs.f k a) r∧Sh r.1:=by
 obtain ⟨r,h1,h2⟩:=both_ex a _ ha sh_0
 have h3:Ev (fun k=>integer_one.f k a) (r.1,r.2.1,r.2.2.2.2):=by
  unfold integer_one.f
  exact h1.bind (Ev.now _)
 unfold integer_Abs.f
 by_cases h0:r.2.2.2.2 = 0
 ·exact ⟨(r.2.1,0),h3.bind (by dsimp only;rw [if_pos h0];exact Ev.now _),h2⟩
 ·exact ⟨(⟨#[]⟩,r.2.2.2.2),h3.bind (by dsimp only;rw [if_neg h0];exact Ev.now _),by show (0:Nat)≤_;omega⟩
theorem divisor_ex (a b:ByteArray) (ha:Sh a) (hb:Sh b):∃ g,Ev (fun k=>rational_divisor.f k a b) g:=by
 obtain ⟨r,h1,h2⟩:=abs_ex a ha
 unfold rational_divisor.f
 refine ⟨(gcdV r.1 b).1,h1.bind ?_⟩
 unfold natural_GCD.f
 rw [if_pos ⟨h2,hb⟩]
 exact Ev.now _
theorem cut_sizes (a:ByteArray) (h:Sh a):Sh (cutAt a 47).1∧Sh (cutAt a 47).2.1:=by
 unfold Sh at h ⊢
 unfold cutAt
 split
 ·exact ⟨h,by show (0:Nat)≤_;omega⟩
 ·constructor
  ·show (a.extract _ _).size≤_
   rw [ByteArray.size_extract];omega
  ·show (a.extract _ _).size≤_
   rw [ByteArray.size_extract];omega
theorem valid_ex (a:ByteArray) (ha:Sh a):∃ b,Ev (fun k=>rational_Valid.f k a) b:=by
 have hc:strings_Cut.f a ⟨#[47]⟩ = some (cutAt a 47):=by
  unfold strings_Cut.f
  exact if_pos ⟨rfl,by unfold Sh at ha;omega⟩
 obtain ⟨s1,s2⟩:=cut_sizes a ha
 generalize cutAt a 47 = c at hc s1 s2
 obtain ⟨p,q,d⟩:=c
 dsimp only at s1 s2
 have hp:Ev (fun k=>integer_Valid.f k p) (iv p):=by
  unfold integer_Valid.f
  exact (read_ev p (sh_lt s1)).bind (Ev.now _)
 have hq:=Valid_ev q (sh_lt s2)
 have key:∃ r,Ev (fun k=>rational_read.f k a) r:=by
  unfold rational_read.f
  rw [hc]
  simp only [Option.bind_some]
  cases d with
  | false =>
   simp only [Bool.false_eq_true,if_false]
   exact ⟨_,hp.bind (Ev.now _)⟩
  | true =>
   simp only [if_true]
   cases hi:iv p with
   | false=>exact ⟨_,hp.bind (ev_e (by rw [hi];decide) (Ev.now _))⟩
   | true =>
    by_cases h0:p.toList = ([48]:List UInt8)
    ·exact ⟨_,hp.bind (ev_t hi (ev_t h0 (Ev.now _)))⟩
    ·cases hn:nv q with
     | false=>exact ⟨_,hp.bind (ev_t hi (ev_e h0 (hq.bind (ev_e (by rw [hn];decide) (Ev.now _)))))⟩
     | true =>
      by_cases q0:q.toList = ([48]:List UInt8)
      ·exact ⟨_,hp.bind (ev_t hi (ev_e h0 (hq.bind (ev_t hn (ev_t q0 (Ev.now _))))))⟩
      ·by_cases q1:q.toList = ([49]:List UInt8)
       ·exact ⟨_,hp.bind (ev_t hi (ev_e h0 (hq.bind (ev_t hn (ev_e q0 (ev_t q1 (Ev.now _)))))))⟩
       ·obtain ⟨g,hg⟩:=divisor_ex p q s1 s2
        exact ⟨_,hp.bind (ev_t hi (ev_e h0 (hq.bind (ev_t hn (ev_e q0 (ev_e q1 (hg.bind (Ev.now _))))))))⟩
 obtain ⟨r,hr⟩:=key
 exact ⟨r.2.2,hr.bind (Ev.now _)⟩
theorem short_loop:∀ (m:Nat) (n:Int) (acc:List Int),n < 128 ^ (m + 1)→acc.length + m < 100→∃ t,Ev (fun k=>record_short.l0 k n acc) t∧t.size≤acc.length + m + 1:=by
 intro m
 induction m with
 | zero =>
  intro n acc hn hl
  refine ⟨strOfNums (acc ++ [n % 256]),Ev.step (fun k=>by rw [record_short.l0,if_neg (by simp at hn;omega),if_pos (by omega)]) (Ev.now _),?_⟩
  rw [strOfNums_size,List.length_append]
  simp
 | succ m ih =>
  intro n acc hn hl
  by_cases h:n ≥ 128
  ·obtain ⟨t,h1,h2⟩:=ih (n / 128) (acc ++ [Go.bits .or .u8 (n % 256) 128]) (Int.ediv_lt_of_lt_mul (by decide) (by rw [← Int.pow_succ];exact hn)) (by rw [List.length_append];simp;omega)
   refine ⟨t,Ev.step (fun k=>by rw [record_short.l0,if_pos h,if_pos (by omega)]) h1,?_⟩
   rw [List.length_append] at h2
   simp at h2
   omega
  ·refine ⟨strOfNums (acc ++ [n % 256]),Ev.step (fun k=>by rw [record_short.l0,if_neg h,if_pos (by omega)]) (Ev.now _),?_⟩
   rw [strOfNums_size,List.length_append]
   simp
theorem short_ex (n:Int) (h:n < 9223372036854775808):∃ t,Ev (fun k=>record_short.f k n) t∧t.size≤10:=by
 obtain ⟨t,h1,h2⟩:=short_loop 9 n [] (Int.lt_of_lt_of_le h (by decide)) (by simp)
 exact ⟨t,h1,by simpa using h2⟩
theorem wrap_lt (x:Int):wrap64 x < 9223372036854775808:=by unfold wrap64;omega
theorem signed_ex (n:Int):∃ t,Ev (fun k=>record_signed.f k n) t∧t.size≤10:=by
 unfold record_signed.f
 by_cases h:n < 0
 ·obtain ⟨t,h1,h2⟩:=short_ex (wrap64 (wrap64 (-2 * n) - 1)) (wrap_lt _)
  exact ⟨t,ev_t h (h1.bind (Ev.now _)),h2⟩
 ·obtain ⟨t,h1,h2⟩:=short_ex (wrap64 (2 * n)) (wrap_lt _)
  exact ⟨t,ev_e h (h1.bind (Ev.now _)),h2⟩
theorem encN_ex:∀ (l:List Int) (acc:List UInt8),acc.length + 10 * l.length≤mostB→∃ L,Ev (fun k=>encN k acc l) L∧L.length≤acc.length + 10 * l.length
 | [],acc,_=>⟨acc,Ev.now _,by simp⟩
 | n :: l,acc,h=>by
  obtain ⟨t,h1,h2⟩:=signed_ex n
  have hl:t.data.toList.length = t.size:=rfl
  rw [List.length_cons] at h
  obtain ⟨L,h3,h4⟩:=encN_ex l (acc ++ t.data.toList) (by rw [List.length_append,hl];omega)
  rw [List.length_append,hl] at h4
  refine ⟨L,?_,by rw [List.length_cons];omega⟩
  simp only [encN]
  exact h1.bind (ev_t (by omega) h3)
theorem strsG_ex (S:Nat) (hS:S≤100000):∀ (l:List ByteArray) (acc:List UInt8),(∀ x ∈ l,x.size≤S)→acc.length + (10 + S) * l.length≤mostB→∃ L,Ev (fun k=>strsG k acc l) L∧L.length≤acc.length + (10 + S) * l.length
 | [],acc,_,_=>⟨acc,Ev.now _,by simp⟩
 | x :: l,acc,hx,h=>by
  have hs:=hx x (List.mem_cons_self ..)
  obtain ⟨t,h1,h2⟩:=short_ex (x.size:Int) (by omega)
  have hl:t.data.toList.length = t.size:=rfl
  have hl2:x.data.toList.length = x.size:=rfl
  rw [List.length_cons,Nat.mul_add,Nat.mul_one] at h
  obtain ⟨L,h3,h4⟩:=strsG_ex S hS l (acc ++ (t.data.toList ++ x.data.toList)) (fun y hy=>hx y (List.mem_cons_of_mem _ hy)) (by rw [List.length_append,List.length_append,hl,hl2];omega)
  rw [List.length_append,List.length_append,hl,hl2] at h4
  refine ⟨L,?_,by rw [List.length_cons,Nat.mul_add,Nat.mul_one];omega⟩
  simp only [strsG]
  exact h1.bind (ev_t (by unfold mostB at h;omega) h3)
theorem strs_ex (S:Nat) (hS:S≤100000) (l:List ByteArray) (hl:l.length≤100000) (hx:∀ x ∈ l,x.size≤S):∃ t,Ev (fun k=>record_strs.f k l) t∧t.size≤(10 + S) * l.length:=by
 have hm:(10 + S) * l.length≤100010 * 100000:=Nat.mul_le_mul (by omega) hl
 obtain ⟨L,h1,h2⟩:=strsG_ex S hS l [] hx (by unfold mostB;simp;omega)
 unfold record_strs.f
 refine ⟨⟨L.toArray⟩,ev_t (by omega) (h1.bind (Ev.now _)),?_⟩
 show L.toArray.size≤_
 simpa using h2
theorem encR_ex (S:Nat) (hS:S≤100000):∀ (l:List ByteArray) (acc:List UInt8),(∀ x ∈ l,x.size≤S)→acc.length + (10 + S) * l.length≤mostB→∃ L,Ev (fun k=>encR k acc l) L∧L.length≤acc.length + (10 + S) * l.length
 | [],acc,_,_=>⟨acc,Ev.now _,by simp⟩
 | x :: l,acc,hx,h=>by
  obtain ⟨t,h1,h2⟩:=strs_ex S hS [x] (by simp) (fun y hy=>hx y (by rw [List.mem_singleton.1 hy];exact List.mem_cons_self ..))
  have hl:t.data.toList.length = t.size:=rfl
  simp only [List.length_singleton,Nat.mul_one] at h2
  rw [List.length_cons,Nat.mul_add,Nat.mul_one] at h
  obtain ⟨L,h3,h4⟩:=encR_ex S hS l (acc ++ t.data.toList) (fun y hy=>hx y (List.mem_cons_of_mem _ hy)) (by rw [List.length_append,hl];omega)
  rw [List.length_append,hl] at h4
  refine ⟨L,?_,by rw [List.length_cons,Nat.mul_add,Nat.mul_one];omega⟩
  simp only [encR]
  exact h1.bind (ev_t (by omega) h3)
theorem build_ex (a0 a1 a2:Int) (l3:List Int) (l4 l5:List ByteArray) (h0:a0 < 9223372036854775808) (h1:a1 < 9223372036854775808) (h2:a2 < 9223372036854775808)
  (n3:l3.length≤64) (n4:l4.length≤64) (n5:l5.length≤16) (s4:∀ x ∈ l4,x.size≤200) (s5:∀ x ∈ l5,x.size≤4096):∃ t,Ev (fun k=>strings_Builder_Len.f k a0 a1 a2 l3 l4 l5) t:=by
 obtain ⟨t0,e0,b0⟩:=short_ex a0 h0
 obtain ⟨t1,e1,b1⟩:=short_ex a1 h1
 obtain ⟨t2,e2,b2⟩:=short_ex a2 h2
 obtain ⟨t3,e3,b3⟩:=short_ex (l3.length:Int) (by omega)
 have hz:(t0 ++ t1 ++ t2 ++ t3).data.toList.length = t0.size + t1.size + t2.size + t3.size:=by
  show (t0 ++ t1 ++ t2 ++ t3).size = _
  simp only [ByteArray.size_append]
 obtain ⟨L1,e4,b4⟩:=encN_ex l3 (t0 ++ t1 ++ t2 ++ t3).data.toList (by rw [hz];unfold mostB;omega)
 rw [hz] at b4
 obtain ⟨t4,e5,b5⟩:=short_ex (l4.length:Int) (by omega)
 have Aa:t4.data.toList.length = t4.size:=rfl
 obtain ⟨L2,e6,b6⟩:=encR_ex 200 (by omega) l4 (L1 ++ t4.data.toList) s4 (by rw [List.length_append,Aa];unfold mostB;omega)
 rw [List.length_append,Aa] at b6
 obtain ⟨t5,e7,b7⟩:=short_ex (l5.length:Int) (by omega)
 obtain ⟨t6,e8,b8⟩:=strs_ex 4096 (by omega) l5 (by omega) s5
 unfold strings_Builder_Len.f
 exact ⟨_,e0.bind (e1.bind (e2.bind (e3.bind (ev_t (by unfold mostB;omega) (e4.bind (e5.bind (ev_t (by unfold mostB;omega) (e6.bind (e7.bind (e8.bind (ev_t (by unfold mostB;omega) (Ev.now _))))))))))))⟩
open Classical in
theorem enc4_ex (l:List ByteArray) (hs:∀ x ∈ l,x.size≤200):∃ b,Ev (fun k=>record_Encode_4.f k l) b:=by
 have key:∃ K:Nat,∃ v:ByteArray→Bool,∀ k,K≤k→∀ x ∈ l,rational_Valid.f k x = some (v x):=by
  induction l with
  | nil=>exact ⟨0,fun _=>false,fun _ _ _ h=>by cases h⟩
  | cons x l ih =>
   obtain ⟨K,v,hK⟩:=ih (fun y hy=>hs y (List.mem_cons_of_mem _ hy))
   obtain ⟨b,K2,hb⟩:=valid_ex x (by have:=hs x (List.mem_cons_self ..);unfold Sh;omega)
   refine ⟨max K K2,fun y=>if y ∈ l then v y else b,fun k hk y hy=>?_⟩
   by_cases hm:y ∈ l
   ·dsimp only;rw [if_pos hm];exact hK k (by omega) y hm
   ·dsimp only;rw [if_neg hm]
    rcases List.mem_cons.1 hy with rfl|h
    ·exact hb k (by omega)
    ·exact absurd h hm
 obtain ⟨K,v,hK⟩:=key
 refine ⟨l.any fun x=>!v x,K,fun k hk=>?_⟩
 unfold record_Encode_4.f
 dsimp only
 rw [if_pos (by rw [List.all_eq_true];intro x hx;rw [hK k hk x hx];rfl)]
 congr 1
 rw [Bool.eq_iff_iff,List.any_eq_true,List.any_eq_true]
 constructor
 ·rintro ⟨x,hx,h⟩
  refine ⟨x,hx,?_⟩
  rw [hK k hk x hx] at h
  cases hv:v x<;>rw [hv] at h<;>first|rfl|cases h
 ·rintro ⟨x,hx,h⟩
  refine ⟨x,hx,?_⟩
  rw [hK k hk x hx]
  cases hv:v x<;>rw [hv] at h<;>first|rfl|cases h
theorem encj1_ex (x:Bool) (a0 a1 a2:Int) (l3:List Int) (l4 l5:List ByteArray) (h0:x = false→a0 < 9223372036854775808∧a1 < 9223372036854775808∧a2 < 9223372036854775808)
  (n3:l3.length≤64) (n4:l4.length≤64) (n5:l5.length≤16) (s4:∀ x ∈ l4,x.size≤200) (s5:∀ x ∈ l5,x.size≤4096):∃ r,Ev (fun k=>record_Encode.j1 k x a0 a1 a2 l3 l4 l5) r:=by
 cases x with
 | true=>exact ⟨_,Ev.step (fun k=>by rw [record_Encode.j1,if_pos rfl]) (Ev.now _)⟩
 | false =>
  obtain ⟨b0,b1,b2⟩:=h0 rfl
  obtain ⟨b,hb⟩:=enc4_ex l4 s4
  obtain ⟨t,ht⟩:=build_ex a0 a1 a2 l3 l4 l5 b0 b1 b2 n3 n4 n5 s4 s5
  have hz:Ev (fun n=>(strings_Builder_Len.f n a0 a1 a2 l3 l4 l5).bind fun Aa=>some (Aa,(0:Int))) (t,0):=ht.bind (f:=fun _ Aa=>some (Aa,(0:Int))) (Ev.now _)
  cases hc:b with
  | true=>exact ⟨_,Ev.step (fun k=>by rw [record_Encode.j1,if_neg (by decide)]) (hb.bind (ev_t hc (Ev.now _)))⟩
  | false=>exact ⟨(t,0),Ev.step (fun k=>by rw [record_Encode.j1,if_neg (by decide)]) (hb.bind (ev_e (c:=b = true) (by rw [hc];decide) hz))⟩
theorem encj0_ex (x:Bool) (a0 a1 a2:Int) (l3:List Int) (l4 l5:List ByteArray) (h:x = false→l3.length≤64∧l4.length≤64∧l5.length≤16∧(∀ x ∈ l4,x.size≤200)∧(∀ x ∈ l5,x.size≤4096)):∃ r,Ev (fun k=>record_Encode.j0 k x a0 a1 a2 l3 l4 l5) r:=by
 cases x with
 | true=>exact ⟨_,Ev.step (fun k=>by rw [record_Encode.j0,if_pos rfl]) (Ev.now _)⟩
 | false =>
  obtain ⟨n3,n4,n5,s4,s5⟩:=h rfl
  obtain ⟨r,hr⟩:=encj1_ex true a0 a1 a2 l3 l4 l5 (by intro h;cases h) n3 n4 n5 s4 s5
  have hst:∀ k,record_Encode.j0 (k + 1) false a0 a1 a2 l3 l4 l5 = if a0 < 1 then record_Encode.j1 k true a0 a1 a2 l3 l4 l5 else if a0 > 1073741824 then record_Encode.j1 k true a0 a1 a2 l3 l4 l5 else if a1 < 0 then record_Encode.j1 k true a0 a1 a2 l3 l4 l5 else if a1 > 1073741824 then record_Encode.j1 k true a0 a1 a2 l3 l4 l5 else if a2 < 1 then record_Encode.j1 k true a0 a1 a2 l3 l4 l5 else if a2 > 99 then record_Encode.j1 k true a0 a1 a2 l3 l4 l5 else (record_Encode_3.f l3).bind fun t=>record_Encode.j1 k t a0 a1 a2 l3 l4 l5:=fun k=>by rw [record_Encode.j0,if_neg (by decide)]
  by_cases c1:a0 < 1
  ·exact ⟨r,Ev.step hst (ev_t c1 hr)⟩
  by_cases c2:a0 > 1073741824
  ·exact ⟨r,Ev.step hst (ev_e c1 (ev_t c2 hr))⟩
  by_cases c3:a1 < 0
  ·exact ⟨r,Ev.step hst (ev_e c1 (ev_e c2 (ev_t c3 hr)))⟩
  by_cases c4:a1 > 1073741824
  ·exact ⟨r,Ev.step hst (ev_e c1 (ev_e c2 (ev_e c3 (ev_t c4 hr))))⟩
  by_cases c5:a2 < 1
  ·exact ⟨r,Ev.step hst (ev_e c1 (ev_e c2 (ev_e c3 (ev_e c4 (ev_t c5 hr)))))⟩
  by_cases c6:a2 > 99
  ·exact ⟨r,Ev.step hst (ev_e c1 (ev_e c2 (ev_e c3 (ev_e c4 (ev_e c5 (ev_t c6 hr))))))⟩
  obtain ⟨r2,Aa⟩:=encj1_ex (l3.any fun x=>decide (x < -1099511627776) || decide (1099511627776 < x)) a0 a1 a2 l3 l4 l5 (fun _=>by omega) n3 n4 n5 s4 s5
  exact ⟨r2,Ev.step hst (ev_e c1 (ev_e c2 (ev_e c3 (ev_e c4 (ev_e c5 (ev_e c6 ((Ev.now _).bind Aa)))))))⟩
theorem encode_ex (a0 a1 a2:Int) (l3:List Int) (l4 l5:List ByteArray):∃ r,Ev (fun k=>record_Encode.f k a0 a1 a2 l3 l4 l5) r:=by
 obtain ⟨r,hr⟩:=encj0_ex true a0 a1 a2 l3 l4 l5 (by intro h;cases h)
 unfold record_Encode.f
 by_cases c1:(l3.length:Int) > 64
 ·exact ⟨r,ev_t c1 hr⟩
 by_cases c2:(l4.length:Int) > 64
 ·exact ⟨r,ev_e c1 (ev_t c2 hr)⟩
 by_cases c3:(l5.length:Int) > 16
 ·exact ⟨r,ev_e c1 (ev_e c2 (ev_t c3 hr))⟩
 cases h1:(l4.any fun x=>decide (200 < x.size)) with
 | true=>exact ⟨r,ev_e c1 (ev_e c2 (ev_e c3 ((Ev.now _).bind (ev_t h1 hr))))⟩
 | false =>
  have s4:∀ x ∈ l4,x.size≤200:=fun x hx=>by
   have:=List.any_eq_false.1 h1 x hx
   simpa using this
  obtain ⟨r2,Aa⟩:=encj0_ex (l5.any fun x=>decide (4096 < x.size)) a0 a1 a2 l3 l4 l5 (fun h2=>⟨by omega,by omega,by omega,s4,fun x hx=>by
   have:=List.any_eq_false.1 h2 x hx
   simpa using this⟩)
  exact ⟨r2,ev_e c1 (ev_e c2 (ev_e c3 ((Ev.now _).bind (ev_e (c:=(l4.any fun x=>decide (200 < x.size)) = true) (by rw [h1];decide) ((Ev.now _).bind Aa)))))⟩
theorem ne_pos {s:ByteArray} (h:(s.toList != ([]:List UInt8)) = true):0 < s.size:=by
 rw [toL] at h
 rcases Nat.eq_zero_or_pos s.size with h0|h0
 ·have h1:bs s = []:=List.length_eq_zero_iff.1 (by rw [bs_length,h0])
  rw [h1] at h
  cases h
 ·exact h0
theorem rshort_loop:∀ (m:Nat) (n x4:Int) (s:ByteArray) (b:Bool),m≤9→x4 = 7 * (9 - (m:Int))→∃ r,Ev (fun k=>record_reader_short.l0 k n x4 s b) r∧0≤r.1:=by
 intro m
 induction m with
 | zero =>
  intro n x4 s b _ hx
  exact ⟨(0,s,true),Ev.step (fun k=>by rw [record_reader_short.l0,if_neg (by omega)]) (Ev.step (fun k=>by rw [record_reader_short.j1,if_neg (by decide)]) (Ev.now _)),Int.le_refl _⟩
 | succ m ih =>
  intro n x4 s b hm hx
  have hst:∀ k,record_reader_short.l0 (k + 1) n x4 s b = record_reader_short.j1 k n x4 (s.toList != ([]:List UInt8)) s b:=fun k=>by rw [record_reader_short.l0,if_pos (by omega)]
  cases hc:(s.toList != ([]:List UInt8)) with
  | false=>exact ⟨(0,s,true),Ev.step (fun k=>(hst k).trans (by rw [hc])) (Ev.step (fun k=>by rw [record_reader_short.j1,if_neg (by decide)]) (Ev.now _)),Int.le_refl _⟩
  | true =>
   have hs:=ne_pos hc
   generalize hv:Go.bits .or .i64 n (shl .i64 (wrap64 (Go.bits .and .u8 (bt s 0) 127)) x4) = v
   obtain ⟨r3,h3,p3⟩:=ih v (wrap64 (x4 + 7)) (s.extract 1 s.size) b (by omega) (by unfold wrap64;omega)
   have hj:∀ k,record_reader_short.j1 (k + 1) n x4 true s b = if (bt s 0) < 128 then (if (bt s 0) = 0 then (if x4 > 0 then some (0,s.extract 1 s.size,true) else (if v < 0 then some (0,s.extract 1 s.size,true) else some (v,s.extract 1 s.size,b))) else (if v < 0 then some (0,s.extract 1 s.size,true) else some (v,s.extract 1 s.size,b))) else record_reader_short.l0 k v (wrap64 (x4 + 7)) (s.extract 1 s.size) b:=fun k=>by
    rw [record_reader_short.j1,if_pos rfl,if_pos (by omega),if_pos (by omega),if_pos (by omega),hv]
   have Aa:∀ k,record_reader_short.l0 (k + 1) n x4 s b = record_reader_short.j1 k n x4 true s b:=fun k=>(hst k).trans (by rw [hc])
   by_cases c1:(bt s 0) < 128
   ·by_cases c2:(bt s 0) = 0
    ·by_cases c3:x4 > 0
     ·exact ⟨_,Ev.step Aa (Ev.step hj (ev_t c1 (ev_t c2 (ev_t c3 (Ev.now _))))),Int.le_refl _⟩
     ·by_cases c4:v < 0
      ·exact ⟨_,Ev.step Aa (Ev.step hj (ev_t c1 (ev_t c2 (ev_e c3 (ev_t c4 (Ev.now _)))))),Int.le_refl _⟩
      ·exact ⟨_,Ev.step Aa (Ev.step hj (ev_t c1 (ev_t c2 (ev_e c3 (ev_e c4 (Ev.now _)))))),Int.not_lt.1 c4⟩
    ·by_cases c4:v < 0
     ·exact ⟨_,Ev.step Aa (Ev.step hj (ev_t c1 (ev_e c2 (ev_t c4 (Ev.now _))))),Int.le_refl _⟩
     ·exact ⟨_,Ev.step Aa (Ev.step hj (ev_t c1 (ev_e c2 (ev_e c4 (Ev.now _))))),Int.not_lt.1 c4⟩
   ·exact ⟨r3,Ev.step Aa (Ev.step hj (ev_e c1 h3)),p3⟩
theorem rshort_ex (s:ByteArray) (b:Bool):∃ r,Ev (fun k=>record_reader_short.f k s b) r∧0≤r.1:=rshort_loop 9 0 0 s b (Nat.le_refl _) (by omega)
theorem rcount_ex (s:ByteArray) (b:Bool) (most:Int) (hm:0≤most):∃ r,Ev (fun k=>record_reader_count.f k s b most) r∧0≤r.1∧r.1≤most:=by
 obtain ⟨r,h,p⟩:=rshort_ex s b
 unfold record_reader_count.f
 by_cases c:r.1 > most
 ·exact ⟨_,h.bind (ev_t c (Ev.now _)),Int.le_refl _,hm⟩
 ·exact ⟨_,h.bind (ev_e c (Ev.now _)),p,Int.not_lt.1 c⟩
theorem rbytes_ex (s:ByteArray) (b:Bool):∃ r,Ev (fun k=>record_reader_bytes.f k s b) r:=by
 obtain ⟨r,h,p⟩:=rshort_ex s b
 unfold record_reader_bytes.f
 by_cases c:r.2.2 = true
 ·exact ⟨_,h.bind (ev_t c (Ev.now _))⟩
 ·by_cases c2:r.1 > (r.2.1.size:Int)
  ·exact ⟨_,h.bind (ev_e c (ev_t c2 (Ev.now _)))⟩
  ·exact ⟨_,h.bind (ev_e c (ev_e c2 (ev_t p (ev_t (Int.not_lt.1 c2) (Ev.now _)))))⟩
abbrev DecT:=Int × Int × Int × List Int × List ByteArray × List ByteArray × Int
def DecP (a:ByteArray) (r:DecT):Prop :=
 r = (0,0,0,[],[],[],13) ∨ (r.2.2.2.2.2.2 = 0∧∃ t:ByteArray,t.toList = a.toList∧Ev (fun k=>record_Encode.f k r.1 r.2.1 r.2.2.1 r.2.2.2.1 r.2.2.2.2.1 r.2.2.2.2.2.1) (t,0))
theorem dec2 (a:ByteArray) (x52:Int) (hx:x52≤64) (i t kd:Int) (l3:List Int) (l4:List ByteArray):∀ (m:Nat) (x53:Int) (s:ByteArray) (b:Bool) (l5:List ByteArray),x52 - x53≤m→0≤x53→x53≤64→(l5.length:Int)≤x53 →
  ∃ r,Ev (fun k=>record_Decode.l2 k a x52 x53 s b i t kd l3 l4 l5) r∧DecP a r:=by
 have tail:∀ (x53:Int) (s:ByteArray) (b:Bool) (l5:List ByteArray),¬ x53 < x52→∃ r,Ev (fun k=>record_Decode.l2 k a x52 x53 s b i t kd l3 l4 l5) r∧DecP a r:=by
  intro x53 s b l5 hn
  obtain ⟨e,he⟩:=encode_ex i t kd l3 l4 l5
  have hst:∀ k,record_Decode.l2 (k + 1) a x52 x53 s b i t kd l3 l4 l5 = (record_Encode.f k i t kd l3 l4 l5).bind fun Aa=>(if b = true then (some (0,0,0,([]:List Int),([]:List ByteArray),([]:List ByteArray),13)) else (if s.toList = ([]:List UInt8) then (if Aa.2 = 0 then (if Aa.1.toList = a.toList then (some (i,t,kd,l3,l4,l5,0)) else (some (0,0,0,([]:List Int),([]:List ByteArray),([]:List ByteArray),13))) else (some (0,0,0,([]:List Int),([]:List ByteArray),([]:List ByteArray),13))) else (some (0,0,0,([]:List Int),([]:List ByteArray),([]:List ByteArray),13)))):=fun k=>by rw [record_Decode.l2,if_neg hn]
  by_cases c1:b = true
  ·exact ⟨_,Ev.step hst (he.bind (ev_t c1 (Ev.now _))),Or.inl rfl⟩
  by_cases c2:s.toList = ([]:List UInt8)
  ·by_cases c3:e.2 = 0
   ·by_cases c4:e.1.toList = a.toList
    ·refine ⟨(i,t,kd,l3,l4,l5,0),Ev.step hst (he.bind (ev_e c1 (ev_t c2 (ev_t c3 (ev_t c4 (Ev.now _)))))),Or.inr ⟨rfl,e.1,c4,?_⟩⟩
     rw [← c3]
     exact he
    ·exact ⟨_,Ev.step hst (he.bind (ev_e c1 (ev_t c2 (ev_t c3 (ev_e c4 (Ev.now _)))))),Or.inl rfl⟩
   ·exact ⟨_,Ev.step hst (he.bind (ev_e c1 (ev_t c2 (ev_e c3 (Ev.now _))))),Or.inl rfl⟩
  ·exact ⟨_,Ev.step hst (he.bind (ev_e c1 (ev_e c2 (Ev.now _)))),Or.inl rfl⟩
 intro m
 induction m with
 | zero=>intro x53 s b l5 h1 h2 h3 h4;exact tail x53 s b l5 (by omega)
 | succ m ih =>
  intro x53 s b l5 h1 h2 h3 h4
  by_cases c:x53 < x52
  ·obtain ⟨q,hq⟩:=rbytes_ex s b
   have Ab:l5.length < 8796093022208:=by omega
   have hw:wrap64 (x53 + 1) = x53 + 1:=by unfold wrap64;omega
   obtain ⟨r,hr,hp⟩:=ih (x53 + 1) q.2.1 q.2.2 (l5 ++ [q.1]) (by omega) (by omega) (by omega) (by rw [List.length_append,List.length_singleton];omega)
   rw [← hw] at hr
   exact ⟨r,Ev.step (fun k=>by rw [record_Decode.l2,if_pos c]) (hq.bind (ev_t Ab hr)),hp⟩
  ·exact tail x53 s b l5 c
theorem dec1 (a:ByteArray) (x40:Int) (hx:x40≤64) (i t kd:Int) (l3:List Int):∀ (m:Nat) (x41:Int) (s:ByteArray) (b:Bool) (l4:List ByteArray),x40 - x41≤m→0≤x41→x41≤64→(l4.length:Int)≤x41 →
  ∃ r,Ev (fun k=>record_Decode.l1 k a x40 x41 s b i t kd l3 l4) r∧DecP a r:=by
 have tail:∀ (x41:Int) (s:ByteArray) (b:Bool) (l4:List ByteArray),¬ x41 < x40→∃ r,Ev (fun k=>record_Decode.l1 k a x40 x41 s b i t kd l3 l4) r∧DecP a r:=by
  intro x41 s b l4 hn
  obtain ⟨c,hc,c0,c1⟩:=rcount_ex s b 16 (by decide)
  obtain ⟨r,hr,hp⟩:=dec2 a c.1 (by omega) i t kd l3 l4 c.1.toNat 0 c.2.1 c.2.2 [] (by omega) (by omega) (by omega) (by simp)
  exact ⟨r,Ev.step (fun k=>by rw [record_Decode.l1,if_neg hn]) (hc.bind hr),hp⟩
 intro m
 induction m with
 | zero=>intro x41 s b l4 h1 h2 h3 h4;exact tail x41 s b l4 (by omega)
 | succ m ih =>
  intro x41 s b l4 h1 h2 h3 h4
  by_cases c:x41 < x40
  ·obtain ⟨q,hq⟩:=rbytes_ex s b
   have Aa:l4.length < 8796093022208:=by omega
   have hw:wrap64 (x41 + 1) = x41 + 1:=by unfold wrap64;omega
   obtain ⟨r,hr,hp⟩:=ih (x41 + 1) q.2.1 q.2.2 (l4 ++ [q.1]) (by omega) (by omega) (by omega) (by rw [List.length_append,List.length_singleton];omega)
   rw [← hw] at hr
   exact ⟨r,Ev.step (fun k=>by rw [record_Decode.l1,if_pos c]) (hq.bind (ev_t Aa hr)),hp⟩
  ·exact tail x41 s b l4 c
theorem dec0 (a:ByteArray) (x20:Int) (hx:x20≤64) (i t kd:Int):∀ (m:Nat) (x21:Int) (s:ByteArray) (b:Bool) (l3:List Int),x20 - x21≤m→0≤x21→x21≤64→(l3.length:Int)≤x21 →
  ∃ r,Ev (fun k=>record_Decode.l0 k a x20 x21 s b i t kd l3) r∧DecP a r:=by
 have tail:∀ (x21:Int) (s:ByteArray) (b:Bool) (l3:List Int),¬ x21 < x20→∃ r,Ev (fun k=>record_Decode.l0 k a x20 x21 s b i t kd l3) r∧DecP a r:=by
  intro x21 s b l3 hn
  obtain ⟨c,hc,c0,c1⟩:=rcount_ex s b 64 (by decide)
  obtain ⟨r,hr,hp⟩:=dec1 a c.1 (by omega) i t kd l3 c.1.toNat 0 c.2.1 c.2.2 [] (by omega) (by omega) (by omega) (by simp)
  exact ⟨r,Ev.step (fun k=>by rw [record_Decode.l0,if_neg hn]) (hc.bind hr),hp⟩
 intro m
 induction m with
 | zero=>intro x21 s b l3 h1 h2 h3 h4;exact tail x21 s b l3 (by omega)
 | succ m ih =>
  intro x21 s b l3 h1 h2 h3 h4
  by_cases c:x21 < x20
  ·obtain ⟨q,hq,_⟩:=rshort_ex s b
   have Aa:l3.length < 17592186044416:=by omega
   have hw:wrap64 (x21 + 1) = x21 + 1:=by unfold wrap64;omega
   by_cases c2:(Go.bits .and .i64 q.1 1) = 1
   ·obtain ⟨r,hr,hp⟩:=ih (x21 + 1) q.2.1 q.2.2 (l3 ++ [wrap64 (Int.tdiv (wrap64 ((wrap64 (-q.1)) - 1)) 2)]) (by omega) (by omega) (by omega) (by rw [List.length_append,List.length_singleton];omega)
    rw [← hw] at hr
    exact ⟨r,Ev.step (fun k=>by rw [record_Decode.l0,if_pos c]) (hq.bind (ev_t c2 (ev_t Aa hr))),hp⟩
   ·obtain ⟨r,hr,hp⟩:=ih (x21 + 1) q.2.1 q.2.2 (l3 ++ [wrap64 (Int.tdiv q.1 2)]) (by omega) (by omega) (by omega) (by rw [List.length_append,List.length_singleton];omega)
    rw [← hw] at hr
    exact ⟨r,Ev.step (fun k=>by rw [record_Decode.l0,if_pos c]) (hq.bind (ev_e c2 (ev_t Aa hr))),hp⟩
  ·exact tail x21 s b l3 c
theorem decode_ex (a:ByteArray):∃ r,Ev (fun k=>record_Decode.f k a) r∧DecP a r:=by
 obtain ⟨q1,h1,_⟩:=rshort_ex a false
 obtain ⟨q2,h2,_⟩:=rshort_ex q1.2.1 q1.2.2
 obtain ⟨q3,h3,_⟩:=rshort_ex q2.2.1 q2.2.2
 obtain ⟨c,hc,c0,c1⟩:=rcount_ex q3.2.1 q3.2.2 64 (by decide)
 obtain ⟨r,hr,hp⟩:=dec0 a c.1 c1 q1.1 q2.1 q3.1 c.1.toNat 0 c.2.1 c.2.2 [] (by omega) (by omega) (by omega) (by simp)
 refine ⟨r,?_,hp⟩
 unfold record_Decode.f
 exact (Ev.now (a,false)).bind (h1.bind (h2.bind (h3.bind (hc.bind hr))))
def mkB (l:List UInt8):ByteArray:=⟨l.toArray⟩
theorem bs_mkB (l:List UInt8):bs (mkB l) = l:=rfl
theorem mkB_bs (s:ByteArray):mkB (bs s) = s:=rfl
theorem bs_inj {a b:ByteArray} (h:bs a = bs b):a = b:=by rw [← mkB_bs a,h,mkB_bs]
theorem bs_append (a b:ByteArray):bs (a ++ b) = bs a ++ bs b:=by
 show (a ++ b).data.toList = _
 simp [bs]
theorem mkB_append (a b:List UInt8):mkB a ++ mkB b = mkB (a ++ b):=bs_inj (by rw [bs_append];rfl)
theorem mkB_size (l:List UInt8):(mkB l).size = l.length:=by rw [← bs_length];rfl
def shB (n:Nat):List UInt8:=if n < 128 then [UInt8.ofNat n] else UInt8.ofNat (n % 128 + 128) :: shB (n / 128)
termination_by n
decreasing_by omega
theorem shB_one {n:Nat} (h:n < 128):shB n = [UInt8.ofNat n]:=by rw [shB,if_pos h]
theorem shB_more {n:Nat} (h:¬ n < 128):shB n = UInt8.ofNat (n % 128 + 128) :: shB (n / 128):=by rw [shB,if_neg h]
def sgB (z:Int):List UInt8:=shB (if z < 0 then -2 * z - 1 else 2 * z).toNat
def txB (s:ByteArray):List UInt8:=shB s.size ++ bs s
def evB (a0 a1 a2:Int) (l3:List Int) (l4 l5:List ByteArray):List UInt8 :=
 shB a0.toNat ++ (shB a1.toNat ++ (shB a2.toNat ++ (shB l3.length ++ (l3.flatMap sgB ++ (shB l4.length ++ (l4.flatMap txB ++ (shB l5.length ++ l5.flatMap txB)))))))
theorem or128 (x:Int) (h0:0≤x) (h1:x < 256):Go.bits .or .u8 x 128 = x % 128 + 128:=by
 have key:∀ i:Fin 256,Go.bits .or .u8 (i.val:Int) 128 = (i.val:Int) % 128 + 128:=by decide +kernel
 have:=key ⟨x.toNat,by omega⟩
 simp only [Int.toNat_of_nonneg h0] at this
 exact this
theorem and127 (x:Int) (h0:0≤x) (h1:x < 256):Go.bits .and .u8 x 127 = x % 128:=by
 have key:∀ i:Fin 256,Go.bits .and .u8 (i.val:Int) 127 = (i.val:Int) % 128:=by decide +kernel
 have:=key ⟨x.toNat,by omega⟩
 simp only [Int.toNat_of_nonneg h0] at this
 exact this
theorem i64_id {x:Int} (h0:-9223372036854775808≤x) (h1:x < 9223372036854775808):Go.IntKind.i64.wrap x = x:=by rw [Go.IntKind.wrap_i64];omega
theorem bits_nat (x y:Nat) (hx:x < 2^63) (hy:y < 2^63):Go.bits .or .i64 (x:Int) (y:Int) = ((x ||| y:Nat):Int):=by
 unfold Go.bits
 show Go.IntKind.i64.wrap ((BitVec.ofInt 64 (x:Int) ||| BitVec.ofInt 64 (y:Int)).toNat:Int) = _
 rw [BitVec.ofInt_natCast,BitVec.ofInt_natCast,BitVec.toNat_or,BitVec.toNat_ofNat,BitVec.toNat_ofNat,Nat.mod_eq_of_lt (by omega),Nat.mod_eq_of_lt (by omega)]
 have:=Nat.or_lt_two_pow hx hy
 exact i64_id (by omega) (by omega)
theorem and1 (x:Nat) (hx:x < 2^63):Go.bits .and .i64 (x:Int) 1 = ((x % 2:Nat):Int):=by
 unfold Go.bits
 show Go.IntKind.i64.wrap ((BitVec.ofInt 64 (x:Int) &&& BitVec.ofInt 64 ((1:Nat):Int)).toNat:Int) = _
 rw [BitVec.ofInt_natCast,BitVec.ofInt_natCast,BitVec.toNat_and,BitVec.toNat_ofNat,BitVec.toNat_ofNat,Nat.mod_eq_of_lt (by omega),Nat.mod_eq_of_lt (by omega),Nat.and_one_is_mod]
 exact i64_id (by omega) (by omega)
theorem or_add (n c x:Nat) (hn:n < 2 ^ x) (h:n + c * 2 ^ x < 2 ^ 63):Go.bits .or .i64 (n:Int) ((c * 2 ^ x:Nat):Int) = ((n + c * 2 ^ x:Nat):Int):=by
 rw [bits_nat _ _ (by omega) (by omega),Nat.or_comm,← Nat.shiftLeft_eq,← Nat.shiftLeft_add_eq_or_of_lt hn,Nat.shiftLeft_eq,Nat.add_comm]
theorem shl_nat (c x:Nat) (hx:x≤64) (h:c * 2 ^ x < 2 ^ 63):shl .i64 (c:Int) (x:Int) = ((c * 2 ^ x:Nat):Int):=by
 unfold shl
 rw [show min (x:Int).toNat Go.IntKind.i64.bits = x from by show min x 64 = x;omega]
 have:(c:Int) * 2 ^ x = ((c * 2 ^ x:Nat):Int):=by rw [Int.natCast_mul,Int.natCast_pow];rfl
 rw [this]
 exact i64_id (by omega) (by omega)
theorem ofNat_toNat {n:Nat} (h:n < 256):(UInt8.ofNat n).toNat = n:=by
 rw [UInt8.toNat_ofNat'];omega
theorem bt_cons {s:ByteArray} {c:UInt8} {l:List UInt8} (h:bs s = c :: l):bt s 0 = (c.toNat:Int):=by
 have hs:=bs_length s
 rw [h] at hs
 have:=bt_get s 0 (by rw [← hs];simp)
 rw [h] at this
 exact this
theorem tail_cons {s:ByteArray} {c:UInt8} {l:List UInt8} (h:bs s = c :: l):bs (s.extract 1 s.size) = l:=by rw [bs_from,h];rfl
theorem strOfNums_nat (l:List UInt8):strOfNums (l.map fun c=>(c.toNat:Int)) = mkB l:=by
 unfold strOfNums mkB
 congr 2
 rw [List.map_map]
 conv=>rhs;rw [← List.map_id l]
 apply List.map_congr_left
 intro c _
 simp
theorem short_b:∀ (m n:Nat) (acc:List UInt8),n < 128 ^ (m + 1)→acc.length + m < 100→Ev (fun k=>record_short.l0 k (n:Int) (acc.map fun c=>(c.toNat:Int))) (mkB (acc ++ shB n)):=by
 intro m
 induction m with
 | zero =>
  intro n acc hn hl
  have hn':n < 128:=by simpa using hn
  refine Ev.step (fun k=>by rw [record_short.l0,if_neg (by omega),if_pos (by simp;omega)]) ?_
  have e:(acc.map fun c=>(c.toNat:Int)) ++ [((n:Int) % 256)] = (acc ++ shB n).map fun c=>(c.toNat:Int):=by
   rw [shB_one hn',List.map_append,List.map_cons,List.map_nil,ofNat_toNat (by omega)]
   congr 2
   omega
  rw [e,strOfNums_nat]
  exact Ev.now _
 | succ m ih =>
  intro n acc hn hl
  by_cases h:n < 128
  ·refine Ev.step (fun k=>by rw [record_short.l0,if_neg (by omega),if_pos (by simp;omega)]) ?_
   have e:(acc.map fun c=>(c.toNat:Int)) ++ [((n:Int) % 256)] = (acc ++ shB n).map fun c=>(c.toNat:Int):=by
    rw [shB_one h,List.map_append,List.map_cons,List.map_nil,ofNat_toNat (by omega)]
    congr 2
    omega
   rw [e,strOfNums_nat]
   exact Ev.now _
  ·have h2:=ih (n / 128) (acc ++ [UInt8.ofNat (n % 128 + 128)]) (by rw [Nat.pow_succ] at hn;exact Nat.div_lt_of_lt_mul (by rw [Nat.mul_comm];exact hn)) (by rw [List.length_append];simp;omega)
   rw [List.append_assoc,show [UInt8.ofNat (n % 128 + 128)] ++ shB (n / 128) = shB n from (shB_more h).symm,List.map_append,List.map_cons,List.map_nil,ofNat_toNat (by omega)] at h2
   refine Ev.step (fun k=>by rw [record_short.l0,if_pos (by omega),if_pos (by simp;omega),or128 _ (by omega) (by omega)]) ?_
   rw [show ((n:Int) % 256 % 128 + 128) = ((n % 128 + 128:Nat):Int) from by omega,show (n:Int) / 128 = ((n / 128:Nat):Int) from by omega]
   exact h2
theorem short_ev (n:Nat) (h:n < 9223372036854775808):Ev (fun k=>record_short.f k (n:Int)) (mkB (shB n)):=short_b 8 n [] (Nat.lt_of_lt_of_le h (by decide)) (by simp)
theorem signed_ev (z:Int) (h:-1152921504606846976≤z) (h2:z≤1152921504606846976):Ev (fun k=>record_signed.f k z) (mkB (sgB z)):=by
 unfold record_signed.f sgB
 by_cases c:z < 0
 ·have e:=short_ev (-2 * z - 1).toNat (by omega)
  rw [Int.toNat_of_nonneg (by omega)] at e
  rw [if_pos c]
  have e1:wrap64 (-2 * z) = -2 * z:=by unfold wrap64;omega
  have e2:wrap64 (-2 * z - 1) = -2 * z - 1:=by unfold wrap64;omega
  simp only [e1,e2]
  exact ev_t c (e.bind (Ev.now _))
 ·have e:=short_ev (2 * z).toNat (by omega)
  rw [Int.toNat_of_nonneg (by omega)] at e
  rw [if_neg c]
  have e1:wrap64 (2 * z) = 2 * z:=by unfold wrap64;omega
  simp only [e1]
  exact ev_e c (e.bind (Ev.now _))
theorem shB_len:∀ (m n:Nat),n < 128 ^ (m + 1)→(shB n).length≤m + 1:=by
 intro m
 induction m with
 | zero=>intro n h;rw [shB_one (by simpa using h)];simp
 | succ m ih =>
  intro n h
  by_cases c:n < 128
  ·rw [shB_one c];simp
  ·rw [shB_more c,List.length_cons]
   have:=ih (n / 128) (by rw [Nat.pow_succ] at h;exact Nat.div_lt_of_lt_mul (by rw [Nat.mul_comm];exact h))
   omega
theorem shB_len9 {n:Nat} (h:n < 9223372036854775808):(shB n).length≤9:=shB_len 8 n (Nat.lt_of_lt_of_le h (by decide))
theorem shB_ne (n:Nat):shB n≠[]:=by
 by_cases c:n < 128
 ·rw [shB_one c];simp
 ·rw [shB_more c];simp
theorem rsh_at:∀ (m i acc n:Nat) (s:ByteArray) (r:List UInt8) (b:Bool),i + m = 8→n < 128 ^ (m + 1)→acc < 2 ^ (7 * i)→(i = 0 ∨ 0 < n)→bs s = shB n ++ r →
  Ev (fun k=>record_reader_short.l0 k (acc:Int) (7 * (i:Int)) s b) (((acc + n * 2 ^ (7 * i):Nat):Int),mkB r,b):=by
 have fin:∀ (m i acc n:Nat) (s:ByteArray) (r:List UInt8) (b:Bool),i + m = 8→n < 128→acc < 2 ^ (7 * i)→(i = 0 ∨ 0 < n)→bs s = shB n ++ r →
  Ev (fun k=>record_reader_short.l0 k (acc:Int) (7 * (i:Int)) s b) (((acc + n * 2 ^ (7 * i):Nat):Int),mkB r,b):=by
  intro m i acc n s r b hi hn ha h0 hs
  rw [shB_one hn] at hs
  have hc:(s.toList != ([]:List UInt8)) = true:=by rw [toL,hs];rfl
  have Aa:=bt_cons hs
  rw [ofNat_toNat (by omega)] at Aa
  have ht:=tail_cons hs
  have hle:2 ^ (7 * i)≤2 ^ 56:=Nat.pow_le_pow_right (by decide) (by omega)
  have hm:n * 2 ^ (7 * i)≤127 * 2 ^ (7 * i):=Nat.mul_le_mul_right _ (by omega)
  have Ab:acc + n * 2 ^ (7 * i) < 2 ^ 63:=by omega
  have hv:Go.bits .or .i64 (acc:Int) (shl .i64 (wrap64 (Go.bits .and .u8 (bt s 0) 127)) (7 * (i:Int))) = ((acc + n * 2 ^ (7 * i):Nat):Int):=by
   rw [Aa,and127 _ (by omega) (by omega),show wrap64 ((n:Int) % 128) = (n:Int) from by unfold wrap64;omega,show (7 * (i:Int)) = ((7 * i:Nat):Int) from by omega,shl_nat _ _ (by omega) (by omega),or_add _ _ _ ha Ab]
  generalize hV:acc + n * 2 ^ (7 * i) = V at hv ⊢
  have hsz:1≤s.size:=by rw [← bs_length,hs];simp
  have Ac:s.extract 1 s.size = mkB r:=bs_inj (by rw [ht];rfl)
  refine Ev.step (fun k=>by rw [record_reader_short.l0,if_pos (by omega),hc]) (Ev.step (fun k=>by rw [record_reader_short.j1,if_pos rfl,if_pos (by omega),if_pos (by omega),if_pos (by omega),hv,Aa,if_pos (show (n:Int) < 128 by omega),if_neg (show ¬ (V:Int) < 0 by omega),Ac]) ?_)
  by_cases c:(n:Int) = 0
  ·exact ev_t c (ev_e (by omega) (Ev.now _))
  ·exact ev_e c (Ev.now _)
 intro m
 induction m with
 | zero=>intro i acc n s r b hi hn ha h0 hs;exact fin 0 i acc n s r b hi (by simpa using hn) ha h0 hs
 | succ m ih =>
  intro i acc n s r b hi hn ha h0 hs
  by_cases c:n < 128
  ·exact fin (m + 1) i acc n s r b hi c ha h0 hs
  rw [shB_more c] at hs
  have hc:(s.toList != ([]:List UInt8)) = true:=by rw [toL,hs];rfl
  have Aa:=bt_cons hs
  rw [ofNat_toNat (by omega)] at Aa
  have ht:=tail_cons hs
  have hsz:1≤s.size:=by rw [← bs_length,hs];simp
  have hle:2 ^ (7 * i)≤2 ^ 49:=Nat.pow_le_pow_right (by decide) (by omega)
  have hm:n % 128 * 2 ^ (7 * i)≤127 * 2 ^ (7 * i):=Nat.mul_le_mul_right _ (by omega)
  have hp:2 ^ (7 * (i + 1)) = 128 * 2 ^ (7 * i):=by rw [show 7 * (i + 1) = 7 * i + 7 from by omega,Nat.pow_add];omega
  have hv:Go.bits .or .i64 (acc:Int) (shl .i64 (wrap64 (Go.bits .and .u8 (bt s 0) 127)) (7 * (i:Int))) = ((acc + n % 128 * 2 ^ (7 * i):Nat):Int):=by
   rw [Aa,and127 _ (by omega) (by omega),show wrap64 (((n % 128 + 128:Nat):Int) % 128) = ((n % 128:Nat):Int) from by unfold wrap64;omega,show (7 * (i:Int)) = ((7 * i:Nat):Int) from by omega,shl_nat _ _ (by omega) (by omega),or_add _ _ _ ha (by omega)]
  have h2:=ih (i + 1) (acc + n % 128 * 2 ^ (7 * i)) (n / 128) (s.extract 1 s.size) r b (by omega) (by rw [Nat.pow_succ] at hn;exact Nat.div_lt_of_lt_mul (by rw [Nat.mul_comm];exact hn)) (by rw [hp];omega) (Or.inr (by omega)) ht
  have e:acc + n % 128 * 2 ^ (7 * i) + n / 128 * 2 ^ (7 * (i + 1)) = acc + n * 2 ^ (7 * i):=by
   rw [hp,Nat.add_assoc,show n / 128 * (128 * 2 ^ (7 * i)) = (128 * (n / 128)) * 2 ^ (7 * i) from by rw [← Nat.mul_assoc,Nat.mul_comm (n / 128) 128],← Nat.add_mul,Nat.mod_add_div]
  rw [e] at h2
  have hw:wrap64 (7 * (i:Int) + 7) = 7 * ((i + 1:Nat):Int):=by unfold wrap64;omega
  refine Ev.step (fun k=>by rw [record_reader_short.l0,if_pos (by omega),hc]) (Ev.step (fun k=>by rw [record_reader_short.j1,if_pos rfl,if_pos (by omega),if_pos (by omega),if_pos (by omega),hv,Aa,if_neg (by omega),hw]) h2)
theorem rsh_ev (n:Nat) (hn:n < 9223372036854775808) (s:ByteArray) (r:List UInt8) (b:Bool) (hs:bs s = shB n ++ r):Ev (fun k=>record_reader_short.f k s b) ((n:Int),mkB r,b):=by
 have h:=rsh_at 8 0 0 n s r b rfl (Nat.lt_of_lt_of_le hn (by decide)) (by decide) (Or.inl rfl) hs
 unfold record_reader_short.f
 simpa using h
theorem rct_ev (n:Nat) (most:Int) (hm:(n:Int)≤most) (h2:most < 9223372036854775808) (s:ByteArray) (r:List UInt8) (b:Bool) (hs:bs s = shB n ++ r):Ev (fun k=>record_reader_count.f k s b most) ((n:Int),mkB r,b):=by
 unfold record_reader_count.f
 exact (rsh_ev n (by omega) s r b hs).bind (ev_e (by show ¬ (n:Int) > most;omega) (Ev.now _))
theorem rby_ev (x:ByteArray) (hx:x.size < 9223372036854775808) (s:ByteArray) (r:List UInt8) (hs:bs s = txB x ++ r):Ev (fun k=>record_reader_bytes.f k s false) (x,mkB r,false):=by
 unfold record_reader_bytes.f
 rw [txB,List.append_assoc] at hs
 have hl:=bs_length x
 have e1:(mkB (bs x ++ r)).extract 0 x.size = x:=bs_inj (by rw [bs_to,bs_mkB,← hl,List.take_left])
 have e2:(mkB (bs x ++ r)).extract x.size (mkB (bs x ++ r)).size = mkB r:=bs_inj (by rw [bs_from,bs_mkB,← hl,List.drop_left];rfl)
 have hz:(mkB (bs x ++ r)).size = x.size + r.length:=by rw [mkB_size,List.length_append,hl]
 refine (rsh_ev x.size hx s _ false hs).bind (ev_e Bool.false_ne_true (ev_e (by show ¬ (x.size:Int) > ((mkB (bs x ++ r)).size:Int);omega) (ev_t (by show (0:Int)≤x.size;omega) (ev_t (by show (x.size:Int)≤((mkB (bs x ++ r)).size:Int);omega) ?_))))
 simp only [Int.toNat_natCast,e1,e2]
 exact Ev.now _
theorem evU {α:Type} {g:Nat→Option α} {a b:α} (h:Ev g a) (k:Ev g b):a = b:=by
 obtain ⟨K,h⟩:=h
 obtain ⟨L,k⟩:=k
 have h1:=h (max K L) (by omega)
 rw [k (max K L) (by omega)] at h1
 exact (Option.some.inj h1).symm
theorem flat_len {α:Type} (f:α→List UInt8) (S:Nat):∀ (l:List α),(∀ x ∈ l,(f x).length≤S)→(l.flatMap f).length≤S * l.length
 | [],_=>by simp
 | x :: l,h=>by
  have h1:=h x (List.mem_cons_self ..)
  have h2:=flat_len f S l (fun y hy=>h y (List.mem_cons_of_mem _ hy))
  rw [List.flatMap_cons,List.length_append,List.length_cons,Nat.mul_add,Nat.mul_one]
  omega
theorem sgB_len {z:Int} (h:-1099511627776≤z) (h2:z≤1099511627776):(sgB z).length≤9:=shB_len9 (by split<;>omega)
theorem txB_len {x:ByteArray} {S:Nat} (h:x.size≤S) (hS:S≤1000000):(txB x).length≤9 + S:=by
 unfold txB
 rw [List.length_append,bs_length]
 have:=shB_len9 (n:=x.size) (by omega)
 omega
theorem encN_ev:∀ (l:List Int) (acc:List UInt8),(∀ z ∈ l,-1099511627776≤z∧z≤1099511627776)→acc.length + 9 * l.length≤mostB→Ev (fun k=>encN k acc l) (acc ++ l.flatMap sgB)
 | [],acc,_,_=>by rw [List.flatMap_nil,List.append_nil];exact Ev.now _
 | z :: l,acc,hz,h=>by
  have hb:=hz z (List.mem_cons_self ..)
  have hl:=sgB_len hb.1 hb.2
  rw [List.length_cons] at h
  have h3:=encN_ev l (acc ++ sgB z) (fun y hy=>hz y (List.mem_cons_of_mem _ hy)) (by rw [List.length_append];omega)
  rw [List.append_assoc,← List.flatMap_cons] at h3
  simp only [encN]
  exact (signed_ev z (by omega) (by omega)).bind (ev_t (by rw [mkB_size];omega) h3)
theorem strsG_ev (S:Nat) (hS:S≤100000):∀ (l:List ByteArray) (acc:List UInt8),(∀ x ∈ l,x.size≤S)→acc.length + (9 + S) * l.length≤mostB→Ev (fun k=>strsG k acc l) (acc ++ l.flatMap txB)
 | [],acc,_,_=>by rw [List.flatMap_nil,List.append_nil];exact Ev.now _
 | x :: l,acc,hx,h=>by
  have hs:=hx x (List.mem_cons_self ..)
  have hl:=txB_len hs (by omega)
  have hl2:=shB_len9 (n:=x.size) (by omega)
  rw [List.length_cons,Nat.mul_add,Nat.mul_one] at h
  have h3:=strsG_ev S hS l (acc ++ txB x) (fun y hy=>hx y (List.mem_cons_of_mem _ hy)) (by rw [List.length_append];omega)
  rw [List.append_assoc,← List.flatMap_cons] at h3
  simp only [strsG]
  exact (short_ev x.size (by omega)).bind (ev_t (by rw [mkB_size];unfold mostB at h;omega) h3)
theorem strs_ev (S:Nat) (hS:S≤100000) (l:List ByteArray) (hl:l.length≤100000) (hx:∀ x ∈ l,x.size≤S):Ev (fun k=>record_strs.f k l) (mkB (l.flatMap txB)):=by
 have hm:(9 + S) * l.length≤100010 * 100000:=Nat.mul_le_mul (by omega) hl
 have h1:=strsG_ev S hS l [] hx (by unfold mostB;simp;omega)
 unfold record_strs.f
 exact ev_t (by omega) (h1.bind (Ev.now _))
theorem encR_ev (S:Nat) (hS:S≤100000):∀ (l:List ByteArray) (acc:List UInt8),(∀ x ∈ l,x.size≤S)→acc.length + (9 + S) * l.length≤mostB→Ev (fun k=>encR k acc l) (acc ++ l.flatMap txB)
 | [],acc,_,_=>by rw [List.flatMap_nil,List.append_nil];exact Ev.now _
 | x :: l,acc,hx,h=>by
  have hs:=hx x (List.mem_cons_self ..)
  have h1:=strs_ev S hS [x] (by simp) (fun y hy=>hx y (by rw [List.mem_singleton.1 hy];exact List.mem_cons_self ..))
  rw [List.flatMap_cons,List.flatMap_nil,List.append_nil] at h1
  have hl:=txB_len hs (by omega)
  rw [List.length_cons,Nat.mul_add,Nat.mul_one] at h
  have h3:=encR_ev S hS l (acc ++ txB x) (fun y hy=>hx y (List.mem_cons_of_mem _ hy)) (by rw [List.length_append];omega)
  rw [List.append_assoc,← List.flatMap_cons] at h3
  simp only [encR]
  exact h1.bind (ev_t (by rw [mkB_size];omega) h3)
open Classical in
noncomputable def vl (x:ByteArray):Bool:=decide (Ev (fun k=>rational_Valid.f k x) true)
open Classical in
theorem vl_ev {x:ByteArray} (h:x.size≤200):Ev (fun k=>rational_Valid.f k x) (vl x):=by
 obtain ⟨b,hb⟩:=valid_ex x (by unfold Sh;omega)
 cases b with
 | true=>rw [show vl x = true from decide_eq_true hb];exact hb
 | false=>rw [show vl x = false from decide_eq_false (fun h=>by cases evU h hb)];exact hb
structure EvG (e:S26):Prop where
 i1:1≤e.f0
 i2:e.f0≤1073741824
 t1:0≤e.f1
 t2:e.f1≤1073741824
 k1:1≤e.f2
 k2:e.f2≤99
 n3:e.f3.length≤64
 n4:e.f4.length≤64
 n5:e.f5.length≤16
 r3:∀ z ∈ e.f3,-1099511627776≤z∧z≤1099511627776
 s4:∀ x ∈ e.f4,x.size≤200
 v4:∀ x ∈ e.f4,vl x = true
 s5:∀ x ∈ e.f5,x.size≤4096
def eB (e:S26):List UInt8:=evB e.f0 e.f1 e.f2 e.f3 e.f4 e.f5
theorem eB_len {e:S26} (g:EvG e):(eB e).length≤100000:=by
 have a0:=shB_len9 (n:=e.f0.toNat) (by have:=g.i2;omega)
 have a1:=shB_len9 (n:=e.f1.toNat) (by have:=g.t2;omega)
 have a2:=shB_len9 (n:=e.f2.toNat) (by have:=g.k2;omega)
 have a3:=shB_len9 (n:=e.f3.length) (by have:=g.n3;omega)
 have a4:=shB_len9 (n:=e.f4.length) (by have:=g.n4;omega)
 have a5:=shB_len9 (n:=e.f5.length) (by have:=g.n5;omega)
 have b3:=flat_len sgB 9 e.f3 (fun z hz=>sgB_len (g.r3 z hz).1 (g.r3 z hz).2)
 have b4:=flat_len txB 209 e.f4 (fun z hz=>txB_len (g.s4 z hz) (by omega))
 have b5:=flat_len txB 4105 e.f5 (fun z hz=>txB_len (g.s5 z hz) (by omega))
 have:=g.n3;have:=g.n4;have:=g.n5
 unfold eB evB
 simp only [List.length_append]
 omega
theorem build_ev {e:S26} (g:EvG e):Ev (fun k=>strings_Builder_Len.f k e.f0 e.f1 e.f2 e.f3 e.f4 e.f5) (mkB (eB e)):=by
 have:=g.n3;have:=g.n4;have:=g.n5;have:=g.i1;have:=g.i2;have:=g.t1;have:=g.t2;have:=g.k1;have:=g.k2
 have a0:=shB_len9 (n:=e.f0.toNat) (by omega)
 have a1:=shB_len9 (n:=e.f1.toNat) (by omega)
 have a2:=shB_len9 (n:=e.f2.toNat) (by omega)
 have a3:=shB_len9 (n:=e.f3.length) (by omega)
 have a4:=shB_len9 (n:=e.f4.length) (by omega)
 have a5:=shB_len9 (n:=e.f5.length) (by omega)
 have b3:=flat_len sgB 9 e.f3 (fun z hz=>sgB_len (g.r3 z hz).1 (g.r3 z hz).2)
 have b4:=flat_len txB 209 e.f4 (fun z hz=>txB_len (g.s4 z hz) (by omega))
 have b5:=flat_len txB 4105 e.f5 (fun z hz=>txB_len (g.s5 z hz) (by omega))
 have e0:=short_ev e.f0.toNat (by omega)
 have e1:=short_ev e.f1.toNat (by omega)
 have e2:=short_ev e.f2.toNat (by omega)
 rw [Int.toNat_of_nonneg (by omega)] at e0 e1 e2
 have e3:=short_ev e.f3.length (by omega)
 have e4:=short_ev e.f4.length (by omega)
 have e5:=short_ev e.f5.length (by omega)
 have f3:=encN_ev e.f3 (shB e.f0.toNat ++ shB e.f1.toNat ++ shB e.f2.toNat ++ shB e.f3.length) g.r3 (by simp only [List.length_append];unfold mostB;omega)
 have f4:=encR_ev 200 (by omega) e.f4 ((shB e.f0.toNat ++ shB e.f1.toNat ++ shB e.f2.toNat ++ shB e.f3.length) ++ e.f3.flatMap sgB ++ shB e.f4.length) g.s4 (by simp only [List.length_append];unfold mostB;omega)
 have f5:=strs_ev 4096 (by omega) e.f5 (by omega) g.s5
 unfold strings_Builder_Len.f
 refine e0.bind (e1.bind (e2.bind (e3.bind (ev_t ⟨by simp only [mkB_size];unfold mostB;omega,by unfold mostB;omega,by unfold mostB;omega⟩ ?_))))
 rw [mkB_append,mkB_append,mkB_append]
 refine f3.bind (e4.bind (ev_t (by simp only [mkB_size,List.length_append];unfold mostB;omega) (f4.bind (e5.bind (f5.bind (ev_t (by simp only [mkB_size,List.length_append];unfold mostB;omega) ?_))))))
 rw [mkB_append]
 have:(⟨(((shB e.f0.toNat ++ shB e.f1.toNat ++ shB e.f2.toNat ++ shB e.f3.length) ++ e.f3.flatMap sgB ++ shB e.f4.length) ++ e.f4.flatMap txB ++ (mkB (shB e.f5.length ++ e.f5.flatMap txB)).data.toList).toArray⟩:ByteArray) = mkB (eB e):=by
  refine bs_inj ?_
  show _ ++ (shB e.f5.length ++ e.f5.flatMap txB) = eB e
  unfold eB evB
  simp only [List.append_assoc]
 rw [this]
 exact Ev.now _
theorem enc4_ev (l:List ByteArray) (hs:∀ x ∈ l,x.size≤200):Ev (fun k=>record_Encode_4.f k l) (l.any fun x=>!vl x):=by
 have key:∃ K:Nat,∀ k,K≤k→∀ x ∈ l,rational_Valid.f k x = some (vl x):=by
  induction l with
  | nil=>exact ⟨0,fun _ _ _ h=>by cases h⟩
  | cons x l ih =>
   obtain ⟨K,hK⟩:=ih (fun y hy=>hs y (List.mem_cons_of_mem _ hy))
   obtain ⟨K2,hb⟩:=vl_ev (hs x (List.mem_cons_self ..))
   refine ⟨max K K2,fun k hk y hy=>?_⟩
   rcases List.mem_cons.1 hy with rfl|h
   ·exact hb k (by omega)
   ·exact hK k (by omega) y h
 obtain ⟨K,hK⟩:=key
 refine ⟨K,fun k hk=>?_⟩
 unfold record_Encode_4.f
 dsimp only
 rw [if_pos (by rw [List.all_eq_true];intro x hx;rw [hK k hk x hx];rfl)]
 congr 1
 rw [Bool.eq_iff_iff,List.any_eq_true,List.any_eq_true]
 constructor
 ·rintro ⟨x,hx,h⟩
  refine ⟨x,hx,?_⟩
  rw [hK k hk x hx] at h
  cases hv:vl x<;>rw [hv] at h<;>first|rfl|cases h
 ·rintro ⟨x,hx,h⟩
  refine ⟨x,hx,?_⟩
  rw [hK k hk x hx]
  cases hv:vl x<;>rw [hv] at h<;>first|rfl|cases h
def bigE (e:S26):Bool:=decide (64 < e.f3.length) || (decide (64 < e.f4.length) || (decide (16 < e.f5.length) || ((e.f4.any fun x=>decide (200 < x.size)) || (e.f5.any fun x=>decide (4096 < x.size)))))
def rngE (e:S26):Bool:=decide (e.f0 < 1) || (decide (1073741824 < e.f0) || (decide (e.f1 < 0) || (decide (1073741824 < e.f1) || (decide (e.f2 < 1) || (decide (99 < e.f2) || (e.f3.any fun x=>decide (x < -1099511627776) || decide (1099511627776 < x)))))))
noncomputable def encV (e:S26):ByteArray × Int:=if bigE e = true then (⟨#[]⟩,8) else if rngE e = true then (⟨#[]⟩,2) else if (e.f4.any fun x=>!vl x) = true then (⟨#[]⟩,1) else (mkB (eB e),0)
theorem evG_of {e:S26} (h1:bigE e = false) (h2:rngE e = false) (h3:(e.f4.any fun x=>!vl x) = false):EvG e:=by
 unfold bigE at h1
 unfold rngE at h2
 simp only [Bool.or_eq_false_iff,decide_eq_false_iff_not,List.any_eq_false,Bool.not_eq_true,Bool.not_eq_false'] at h1 h2 h3
 obtain ⟨b1,b2,b3,b4,b5⟩:=h1
 obtain ⟨c1,c2,c3,c4,c5,c6,c7⟩:=h2
 exact ⟨by omega,by omega,by omega,by omega,by omega,by omega,by omega,by omega,by omega,fun z hz=>by have:=c7 z hz;omega,fun x hx=>by have:=b4 x hx;omega,fun x hx=>h3 x hx,fun x hx=>by have:=b5 x hx;omega⟩
theorem evG_no {e:S26} (g:EvG e):bigE e = false∧rngE e = false∧(e.f4.any fun x=>!vl x) = false:=by
 refine ⟨?_,?_,?_⟩
 ·unfold bigE
  simp only [Bool.or_eq_false_iff,decide_eq_false_iff_not,List.any_eq_false,Bool.not_eq_true]
  exact ⟨by have:=g.n3;omega,by have:=g.n4;omega,by have:=g.n5;omega,fun x hx=>by have:=g.s4 x hx;omega,fun x hx=>by have:=g.s5 x hx;omega⟩
 ·unfold rngE
  simp only [Bool.or_eq_false_iff,decide_eq_false_iff_not,List.any_eq_false,Bool.not_eq_true]
  exact ⟨by have:=g.i1;omega,by have:=g.i2;omega,by have:=g.t1;omega,by have:=g.t2;omega,by have:=g.k1;omega,by have:=g.k2;omega,fun x hx=>by have:=g.r3 x hx;omega⟩
 ·simp only [List.any_eq_false,Bool.not_eq_true,Bool.not_eq_false']
  exact g.v4
theorem encV_good {e:S26} (g:EvG e):encV e = (mkB (eB e),0):=by
 obtain ⟨h1,h2,h3⟩:=evG_no g
 unfold encV
 rw [h1,h2,h3]
 rfl
theorem encV_ok {e:S26} (h:(encV e).2 = 0):EvG e:=by
 unfold encV at h
 cases h1:bigE e with
 | true=>rw [h1] at h;cases h
 | false =>
  cases h2:rngE e with
  | true=>rw [h1,h2] at h;cases h
  | false =>
   cases h3:(e.f4.any fun x=>!vl x) with
   | true=>rw [h1,h2,h3] at h;cases h
   | false=>exact evG_of h1 h2 h3
def encF (k:Nat) (e:S26):Option (ByteArray × Int):=record_Encode.f k e.f0 e.f1 e.f2 e.f3 e.f4 e.f5
theorem encode_ev (e:S26):Ev (fun k=>encF k e) (encV e):=by
 unfold encF
 obtain ⟨a0,a1,a2,l3,l4,l5⟩:=e
 dsimp only
 have T:∀ {x:Bool},x = true→Ev (fun k=>record_Encode.j0 k x a0 a1 a2 l3 l4 l5) (⟨#[]⟩,8):=by rintro x rfl;exact Ev.step (fun k=>by rw [record_Encode.j0,if_pos rfl]) (Ev.now _)
 unfold record_Encode.f encV
 cases hb:bigE ⟨a0,a1,a2,l3,l4,l5⟩ with
 | true =>
  rw [if_pos rfl]
  unfold bigE at hb
  dsimp only at hb
  by_cases c1:(l3.length:Int) > 64
  ·exact ev_t c1 (T rfl)
  by_cases c2:(l4.length:Int) > 64
  ·exact ev_e c1 (ev_t c2 (T rfl))
  by_cases c3:(l5.length:Int) > 16
  ·exact ev_e c1 (ev_e c2 (ev_t c3 (T rfl)))
  rw [decide_eq_false (by omega),decide_eq_false (by omega),decide_eq_false (by omega),Bool.false_or,Bool.false_or,Bool.false_or] at hb
  refine ev_e c1 (ev_e c2 (ev_e c3 ((Ev.now _).bind ?_)))
  cases h1:(l4.any fun x=>decide (200 < x.size)) with
  | true=>exact ev_t rfl (T rfl)
  | false =>
   rw [h1,Bool.false_or] at hb
   exact ev_e (by decide) ((Ev.now _).bind (T hb))
 | false =>
  rw [if_neg (by decide)]
  unfold bigE at hb
  dsimp only at hb
  simp only [Bool.or_eq_false_iff,decide_eq_false_iff_not] at hb
  obtain ⟨b1,b2,b3,b4,b5⟩:=hb
  refine ev_e (by omega) (ev_e (by omega) (ev_e (by omega) ((Ev.now _).bind ?_)))
  rw [b4]
  refine ev_e (by decide) ((Ev.now _).bind ?_)
  rw [b5]
  have T1:∀ {x:Bool},x = true→Ev (fun k=>record_Encode.j1 k x a0 a1 a2 l3 l4 l5) (⟨#[]⟩,2):=by rintro x rfl;exact Ev.step (fun k=>by rw [record_Encode.j1,if_pos rfl]) (Ev.now _)
  have hst:∀ k,record_Encode.j0 (k + 1) false a0 a1 a2 l3 l4 l5 = if a0 < 1 then record_Encode.j1 k true a0 a1 a2 l3 l4 l5 else if a0 > 1073741824 then record_Encode.j1 k true a0 a1 a2 l3 l4 l5 else if a1 < 0 then record_Encode.j1 k true a0 a1 a2 l3 l4 l5 else if a1 > 1073741824 then record_Encode.j1 k true a0 a1 a2 l3 l4 l5 else if a2 < 1 then record_Encode.j1 k true a0 a1 a2 l3 l4 l5 else if a2 > 99 then record_Encode.j1 k true a0 a1 a2 l3 l4 l5 else (record_Encode_3.f l3).bind fun t=>record_Encode.j1 k t a0 a1 a2 l3 l4 l5:=fun k=>by rw [record_Encode.j0,if_neg (by decide)]
  refine Ev.step hst ?_
  cases hr:rngE ⟨a0,a1,a2,l3,l4,l5⟩ with
  | true =>
   rw [if_pos rfl]
   unfold rngE at hr
   dsimp only at hr
   by_cases c1:a0 < 1
   ·exact ev_t c1 (T1 rfl)
   by_cases c2:a0 > 1073741824
   ·exact ev_e c1 (ev_t c2 (T1 rfl))
   by_cases c3:a1 < 0
   ·exact ev_e c1 (ev_e c2 (ev_t c3 (T1 rfl)))
   by_cases c4:a1 > 1073741824
   ·exact ev_e c1 (ev_e c2 (ev_e c3 (ev_t c4 (T1 rfl))))
   by_cases c5:a2 < 1
   ·exact ev_e c1 (ev_e c2 (ev_e c3 (ev_e c4 (ev_t c5 (T1 rfl)))))
   by_cases c6:a2 > 99
   ·exact ev_e c1 (ev_e c2 (ev_e c3 (ev_e c4 (ev_e c5 (ev_t c6 (T1 rfl))))))
   rw [decide_eq_false c1,decide_eq_false c2,decide_eq_false c3,decide_eq_false c4,decide_eq_false c5,decide_eq_false c6] at hr
   simp only [Bool.false_or] at hr
   exact ev_e c1 (ev_e c2 (ev_e c3 (ev_e c4 (ev_e c5 (ev_e c6 ((Ev.now _).bind (T1 hr)))))))
  | false =>
   rw [if_neg (by decide)]
   have hr':=hr
   unfold rngE at hr
   dsimp only at hr
   simp only [Bool.or_eq_false_iff,decide_eq_false_iff_not] at hr
   obtain ⟨c1,c2,c3,c4,c5,c6,c7⟩:=hr
   refine ev_e c1 (ev_e c2 (ev_e c3 (ev_e c4 (ev_e c5 (ev_e c6 ((Ev.now (l3.any fun x=>decide (x < -1099511627776) || decide (1099511627776 < x))).bind ?_))))))
   rw [show (l3.any fun x=>decide (x < -1099511627776) || decide (1099511627776 < x)) = false from c7]
   have s4:∀ x ∈ l4,x.size≤200:=fun x hx=>by
    have:=List.any_eq_false.1 b4 x hx
    simpa using this
   refine Ev.step (fun k=>by rw [record_Encode.j1,if_neg (by decide)]) ((enc4_ev l4 s4).bind ?_)
   cases hv:(l4.any fun x=>!vl x) with
   | true=>exact ev_t rfl (Ev.now _)
   | false =>
    rw [if_neg (by decide)]
    refine ev_e (by decide) ?_
    have g:EvG ⟨a0,a1,a2,l3,l4,l5⟩:=evG_of (by unfold bigE;simp only [Bool.or_eq_false_iff,decide_eq_false_iff_not];exact ⟨b1,b2,b3,b4,b5⟩) hr' hv
    exact (build_ev g).bind (Ev.now _)
def decT (e:S26):DecT:=(e.f0,e.f1,e.f2,e.f3,e.f4,e.f5,0)
theorem dback (e:S26) (g:EvG e):∀ (l5 done:List ByteArray),done ++ l5 = e.f5→Ev (fun k=>record_Decode.l2 k (mkB (eB e)) (e.f5.length:Int) (done.length:Int) (mkB (l5.flatMap txB)) false e.f0 e.f1 e.f2 e.f3 e.f4 done) (decT e)
 | [],done,h=>by
  rw [List.append_nil] at h
  subst h
  have he:=encode_ev e
  rw [encV_good g] at he
  unfold encF at he
  refine Ev.step (fun k=>by rw [record_Decode.l2,if_neg (by omega)]) ?_
  exact he.bind (ev_e Bool.false_ne_true (ev_t (by rw [toL];rfl) (ev_t rfl (ev_t rfl (Ev.now _)))))
 | x :: l5,done,h=>by
  have hl:e.f5.length = done.length + (l5.length + 1):=by rw [← h,List.length_append,List.length_cons]
  have:=g.n5
  have hx:=g.s5 x (by rw [← h];simp)
  have ih:=dback e g l5 (done ++ [x]) (by rw [List.append_assoc];exact h)
  have hb:=rby_ev x (by omega) (mkB ((x :: l5).flatMap txB)) (l5.flatMap txB) (by rw [bs_mkB,List.flatMap_cons])
  refine Ev.step (fun k=>by rw [record_Decode.l2,if_pos (by omega)]) ?_
  refine hb.bind (ev_t (by omega) ?_)
  rw [show wrap64 ((done.length:Int) + 1) = ((done ++ [x]).length:Int) from by unfold wrap64;rw [List.length_append];simp;omega]
  exact ih
theorem dback1 (e:S26) (g:EvG e):∀ (l4 done:List ByteArray),done ++ l4 = e.f4→Ev (fun k=>record_Decode.l1 k (mkB (eB e)) (e.f4.length:Int) (done.length:Int) (mkB (l4.flatMap txB ++ (shB e.f5.length ++ e.f5.flatMap txB))) false e.f0 e.f1 e.f2 e.f3 done) (decT e)
 | [],done,h=>by
  rw [List.append_nil] at h
  subst h
  have:=g.n5
  have hb:=rct_ev e.f5.length 16 (by omega) (by omega) (mkB (([]:List ByteArray).flatMap txB ++ (shB e.f5.length ++ e.f5.flatMap txB))) (e.f5.flatMap txB) false rfl
  refine Ev.step (fun k=>by rw [record_Decode.l1,if_neg (by omega)]) ?_
  exact hb.bind (dback e g e.f5 [] rfl)
 | x :: l4,done,h=>by
  have hl:e.f4.length = done.length + (l4.length + 1):=by rw [← h,List.length_append,List.length_cons]
  have:=g.n4
  have hx:=g.s4 x (by rw [← h];simp)
  have ih:=dback1 e g l4 (done ++ [x]) (by rw [List.append_assoc];exact h)
  have hb:=rby_ev x (by omega) (mkB ((x :: l4).flatMap txB ++ (shB e.f5.length ++ e.f5.flatMap txB))) (l4.flatMap txB ++ (shB e.f5.length ++ e.f5.flatMap txB)) (by rw [bs_mkB,List.flatMap_cons,List.append_assoc])
  refine Ev.step (fun k=>by rw [record_Decode.l1,if_pos (by omega)]) ?_
  refine hb.bind (ev_t (by omega) ?_)
  rw [show wrap64 ((done.length:Int) + 1) = ((done ++ [x]).length:Int) from by unfold wrap64;rw [List.length_append];simp;omega]
  exact ih
theorem dback0 (e:S26) (g:EvG e):∀ (l3 done:List Int),done ++ l3 = e.f3→Ev (fun k=>record_Decode.l0 k (mkB (eB e)) (e.f3.length:Int) (done.length:Int) (mkB (l3.flatMap sgB ++ (shB e.f4.length ++ (e.f4.flatMap txB ++ (shB e.f5.length ++ e.f5.flatMap txB))))) false e.f0 e.f1 e.f2 done) (decT e)
 | [],done,h=>by
  rw [List.append_nil] at h
  subst h
  have:=g.n4
  have hb:=rct_ev e.f4.length 64 (by omega) (by omega) (mkB (([]:List Int).flatMap sgB ++ (shB e.f4.length ++ (e.f4.flatMap txB ++ (shB e.f5.length ++ e.f5.flatMap txB))))) (e.f4.flatMap txB ++ (shB e.f5.length ++ e.f5.flatMap txB)) false rfl
  refine Ev.step (fun k=>by rw [record_Decode.l0,if_neg (by omega)]) ?_
  exact hb.bind (dback1 e g e.f4 [] rfl)
 | z :: l3,done,h=>by
  have hl:e.f3.length = done.length + (l3.length + 1):=by rw [← h,List.length_append,List.length_cons]
  have:=g.n3
  have hz:=g.r3 z (by rw [← h];simp)
  have ih:=dback0 e g l3 (done ++ [z]) (by rw [List.append_assoc];exact h)
  have hb:=rsh_ev (if z < 0 then -2 * z - 1 else 2 * z).toNat (by split<;>omega) (mkB ((z :: l3).flatMap sgB ++ (shB e.f4.length ++ (e.f4.flatMap txB ++ (shB e.f5.length ++ e.f5.flatMap txB))))) (l3.flatMap sgB ++ (shB e.f4.length ++ (e.f4.flatMap txB ++ (shB e.f5.length ++ e.f5.flatMap txB)))) false (by rw [bs_mkB,List.flatMap_cons,List.append_assoc];rfl)
  rw [show ((done ++ [z]).length:Int) = wrap64 ((done.length:Int) + 1) from by unfold wrap64;rw [List.length_append];simp;omega] at ih
  refine Ev.step (fun k=>by rw [record_Decode.l0,if_pos (by omega)]) ?_
  refine hb.bind ?_
  dsimp only
  rw [and1 _ (by split<;>omega)]
  by_cases c:z < 0
  ·rw [if_pos c]
   refine ev_t (by omega) (ev_t (by omega) ?_)
   have e1:wrap64 (Int.tdiv (wrap64 (wrap64 (-(((-2 * z - 1).toNat:Nat):Int)) - 1)) 2) = z:=by
    have h1:wrap64 (wrap64 (-(((-2 * z - 1).toNat:Nat):Int)) - 1) = 2 * z:=by unfold wrap64;omega
    have h2:Int.tdiv (2 * z) 2 = z:=Int.mul_tdiv_cancel_left z (by decide)
    rw [h1,h2]
    unfold wrap64
    omega
   rw [e1]
   exact ih
  ·rw [if_neg c]
   refine ev_e (by omega) (ev_t (by omega) ?_)
   have e1:wrap64 (Int.tdiv (((2 * z).toNat:Nat):Int) 2) = z:=by
    have h1:(((2 * z).toNat:Nat):Int) = 2 * z:=by omega
    have h2:Int.tdiv (2 * z) 2 = z:=Int.mul_tdiv_cancel_left z (by decide)
    rw [h1,h2]
    unfold wrap64
    omega
   rw [e1]
   exact ih
theorem decode_back {e:S26} (g:EvG e):Ev (fun k=>record_Decode.f k (mkB (eB e))) (decT e):=by
 have:=g.n3;have:=g.i1;have:=g.i2;have:=g.t1;have:=g.t2;have:=g.k1;have:=g.k2
 have h1:=rsh_ev e.f0.toNat (by omega) (mkB (eB e)) _ false rfl
 have h2:=rsh_ev e.f1.toNat (by omega) (mkB _) _ false (bs_mkB (shB e.f1.toNat ++ (shB e.f2.toNat ++ (shB e.f3.length ++ (e.f3.flatMap sgB ++ (shB e.f4.length ++ (e.f4.flatMap txB ++ (shB e.f5.length ++ e.f5.flatMap txB))))))))
 have h3:=rsh_ev e.f2.toNat (by omega) (mkB _) _ false (bs_mkB (shB e.f2.toNat ++ (shB e.f3.length ++ (e.f3.flatMap sgB ++ (shB e.f4.length ++ (e.f4.flatMap txB ++ (shB e.f5.length ++ e.f5.flatMap txB)))))))
 have h4:=rct_ev e.f3.length 64 (by omega) (by omega) (mkB _) _ false (bs_mkB (shB e.f3.length ++ (e.f3.flatMap sgB ++ (shB e.f4.length ++ (e.f4.flatMap txB ++ (shB e.f5.length ++ e.f5.flatMap txB))))))
 rw [Int.toNat_of_nonneg (by omega)] at h1 h2 h3
 unfold record_Decode.f
 exact (Ev.now (mkB (eB e),false)).bind (h1.bind (h2.bind (h3.bind (h4.bind (dback0 e g e.f3 [] rfl)))))
theorem decode_sound (a:ByteArray):∃ r,Ev (fun k=>record_Decode.f k a) r∧(r = (0,0,0,[],[],[],13) ∨ ∃ e:S26,EvG e∧r = decT e∧a = mkB (eB e)):=by
 obtain ⟨r,hr,hp⟩:=decode_ex a
 refine ⟨r,hr,?_⟩
 rcases hp with h|⟨h0,t,ht,he⟩
 ·exact Or.inl h
 ·obtain ⟨r0,r1,r2,r3,r4,r5,r6⟩:=r
  dsimp only at h0 he
  subst h0
  have hv:=encode_ev ⟨r0,r1,r2,r3,r4,r5⟩
  unfold encF at hv
  have hq:=evU hv he
  have g:EvG ⟨r0,r1,r2,r3,r4,r5⟩:=encV_ok (by rw [hq])
  rw [encV_good g] at hq
  refine Or.inr ⟨⟨r0,r1,r2,r3,r4,r5⟩,g,rfl,?_⟩
  rw [toL,toL] at ht
  rw [← bs_inj ht]
  exact (Prod.mk.inj hq).1.symm
theorem shaSum_size (s:ByteArray):(shaSum s).size = 32:=by
 unfold shaSum
 dsimp only
 rw [strOfNums_size]
 rfl
theorem rd52_at (l:List S52) (i:Nat) (x:S52) (h:l[i]? = some x):rd_T52 l (i:Int) = x:=by
 unfold rd_T52
 rw [List.getD_eq_getElem?_getD,Int.toNat_natCast,h]
 rfl
theorem rd52_last (l:List S52) (x:S52):rd_T52 (l ++ [x]) (wrap64 (((l ++ [x]).length:Int) - 1)) = x ∨ 1152921504606846976≤l.length:=by
 rcases Nat.lt_or_ge l.length 1152921504606846976 with h|h
 ·left
  have e:wrap64 (((l ++ [x]).length:Int) - 1) = (l.length:Int):=by rw [List.length_append];unfold wrap64;simp;omega
  rw [e]
  exact rd52_at _ _ _ (by simp)
 ·exact Or.inr h
def ordB (l:List S52) (e:S26):Bool:=match l.getLast? with
 | none=>true
 | some y=>decide (y.f0.f0 < e.f0) && decide (y.f0.f1≤e.f1)
def befB (l:List S52):ByteArray:=match l.getLast? with
 | none=>strOfNums (List.replicate 32 0)
 | some y=>y.f1
def sealV (l:List S52) (s:ByteArray):ByteArray:=shaSum (befB l ++ s)
noncomputable def fitV (l:List S52) (e:S26):ByteArray × Int:=if (encV e).2 = 0 then (if ordB l e = true then ((encV e).1,0) else (⟨#[]⟩,5)) else (⟨#[]⟩,(encV e).2)
def fitF (k:Nat) (l:List S52) (e:S26):Option (ByteArray × Int):=record_fits.f k l e.f0 e.f1 e.f2 e.f3 e.f4 e.f5
theorem fits_ev (l:List S52) (hl:l.length < 1000000) (e:S26):Ev (fun k=>fitF k l e) (fitV l e):=by
 have he:=encode_ev e
 unfold encF at he
 unfold fitF record_fits.f
 by_cases c:(encV e).2 = 0
 ·refine he.bind (ev_t c ?_)
  rcases List.eq_nil_or_concat l with rfl|⟨l',y,rfl⟩
  ·have hv:fitV [] e = ((encV e).1,0):=by unfold fitV;rw [if_pos c,if_pos (show ordB [] e = true from rfl)]
   rw [hv]
   exact ev_e (by decide) (Ev.now _)
  ·rw [List.concat_eq_append] at hl ⊢
   have Aa:(l' ++ [y]).length = l'.length + 1:=by simp
   have hr:=(rd52_last l' y).resolve_right (by omega)
   have ho:ordB (l' ++ [y]) e = (decide (y.f0.f0 < e.f0) && decide (y.f0.f1≤e.f1)):=by unfold ordB;rw [List.getLast?_concat]
   refine ev_t (by omega) (ev_t (by unfold wrap64;omega) (ev_t (by unfold wrap64;omega) ?_))
   rw [hr]
   by_cases c1:y.f0.f0 ≥ e.f0
   ·have hv:fitV (l' ++ [y]) e = (⟨#[]⟩,5):=by unfold fitV;rw [if_pos c,ho,decide_eq_false (by omega:¬ y.f0.f0 < e.f0),Bool.false_and,if_neg Bool.false_ne_true]
    rw [hv]
    exact ev_t c1 (Ev.now _)
   ·by_cases c2:y.f0.f1 > e.f1
    ·have hv:fitV (l' ++ [y]) e = (⟨#[]⟩,5):=by unfold fitV;rw [if_pos c,ho,decide_eq_false (by omega:¬ y.f0.f1≤e.f1),Bool.and_false,if_neg Bool.false_ne_true]
     rw [hv]
     exact ev_e c1 (ev_t c2 (Ev.now _))
    ·have hv:fitV (l' ++ [y]) e = ((encV e).1,0):=by unfold fitV;rw [if_pos c,ho,decide_eq_true (by omega:y.f0.f0 < e.f0),decide_eq_true (by omega:y.f0.f1≤e.f1),Bool.and_true,if_pos rfl]
     rw [hv]
     exact ev_e c1 (ev_e c2 (Ev.now _))
 ·have hv:fitV l e = (⟨#[]⟩,(encV e).2):=by unfold fitV;rw [if_neg c]
  rw [hv]
  exact he.bind (ev_e c (Ev.now _))
theorem fitV_good {l:List S52} {e:S26} (g:EvG e) (o:ordB l e = true):fitV l e = (mkB (eB e),0):=by
 unfold fitV
 rw [encV_good g,if_pos rfl,if_pos o]
theorem fitV_ok {l:List S52} {e:S26} (h:(fitV l e).2 = 0):EvG e∧ordB l e = true:=by
 unfold fitV at h
 by_cases c:(encV e).2 = 0
 ·rw [if_pos c] at h
  by_cases o:ordB l e = true
  ·exact ⟨encV_ok c,o⟩
  ·rw [if_neg o] at h;cases h
 ·rw [if_neg c] at h;exact absurd h c
theorem seal_eq (l:List S52) (hl:l.length < 1000000) (s:ByteArray) (hs:(befB l).size + s.size≤1048576):record_seal.f l s = some (sealV l s):=by
 unfold record_seal.f sealV
 rw [if_pos (by decide),Option.bind_some]
 have sum:∀ a:ByteArray,a.size≤1048576→(record_Sum.f a).bind (fun t=>some t) = some (shaSum a):=fun a ha=>by unfold record_Sum.f;rw [if_pos ha];rfl
 rcases List.eq_nil_or_concat l with rfl|⟨l',y,rfl⟩
 ·have hb:befB [] = strOfNums (List.replicate 32 0):=rfl
  rw [hb] at hs ⊢
  rw [if_neg (by decide),if_pos (by omega)]
  exact sum _ (by rw [ByteArray.size_append];exact hs)
 ·rw [List.concat_eq_append] at hl hs ⊢
  have Aa:(l' ++ [y]).length = l'.length + 1:=by simp
  have hr:=(rd52_last l' y).resolve_right (by omega)
  have hb:befB (l' ++ [y]) = y.f1:=by unfold befB;rw [List.getLast?_concat]
  rw [hb] at hs ⊢
  rw [if_pos (by omega),if_pos (by unfold wrap64;omega),if_pos (by unfold wrap64;omega),hr,if_pos (by omega)]
  exact sum _ (by rw [ByteArray.size_append];exact hs)
def Cd (l:List S52) (x:S52):Prop:=EvG x.f0∧ordB l x.f0 = true∧x.f1 = sealV l (mkB (eB x.f0))
def Rt (l:List S52):Prop:=∀ i x,l[i]? = some x→Cd (l.take i) x
theorem Rt.nil:Rt []:=fun i x h=>by simp at h
theorem Rt.snoc {l:List S52} {x:S52} (h:Rt l) (c:Cd l x):Rt (l ++ [x]):=fun i y hy=>by
 rcases Nat.lt_trichotomy i l.length with hi|hi|hi
 ·rw [List.getElem?_append_left hi] at hy
  rw [List.take_append_of_le_length (by omega)]
  exact h i y hy
 ·subst hi
  rw [List.getElem?_append_right (Nat.le_refl _),Nat.sub_self] at hy
  obtain rfl:x = y:=by simpa using hy
  rw [List.take_left]
  exact c
 ·rw [List.getElem?_eq_none (by simp;omega)] at hy
  cases hy
theorem Rt.take {l:List S52} (h:Rt l) (n:Nat):Rt (l.take n):=fun i x hx=>by
 by_cases hi:i < n
 ·rw [List.getElem?_take_of_lt hi] at hx
  have:=h i x hx
  rw [List.take_take,Nat.min_eq_left (by omega)]
  exact this
 ·rw [List.getElem?_eq_none (by simp;omega)] at hx
  cases hx
def En (x:S52):Prop:=EvG x.f0∧x.f1.size = 32
theorem Cd.ok {l:List S52} {x:S52} (h:Cd l x):En x:=⟨h.1,by rw [h.2.2];exact shaSum_size _⟩
theorem Rt.ok {l:List S52} (h:Rt l):∀ x ∈ l,En x:=fun x hx=>by
 obtain ⟨i,hi⟩:=List.getElem?_of_mem hx
 exact (h i x hi).ok
theorem Rt.bef {l:List S52} (h:Rt l):(befB l).size = 32:=by
 rcases List.eq_nil_or_concat l with rfl|⟨l',y,rfl⟩
 ·show (strOfNums (List.replicate 32 0)).size = 32
  rw [strOfNums_size]
  rfl
 ·rw [List.concat_eq_append] at h ⊢
  have hb:befB (l' ++ [y]) = y.f1:=by unfold befB;rw [List.getLast?_concat]
  rw [hb]
  exact (h.ok y (by simp)).2
theorem Rt.seal {l:List S52} (h:Rt l) (hl:l.length < 1000000) {e:S26} (g:EvG e):record_seal.f l (mkB (eB e)) = some (sealV l (mkB (eB e))):=by
 refine seal_eq l hl _ ?_
 rw [h.bef,mkB_size]
 have:=eB_len g
 omega
theorem check_at (l:List S52) (h:Rt l) (hl:l.length≤1024):∀ (m i:Nat),i + m = l.length→Ev (fun k=>record_Check.l0 k l l (l.length:Int) (i:Int)) (-1,0):=by
 intro m
 induction m with
 | zero=>intro i hi;exact Ev.step (fun k=>by rw [record_Check.l0,if_neg (by omega)]) (Ev.now _)
 | succ m ih =>
  intro i hi
  obtain ⟨x,hx⟩:∃ x,l[i]? = some x:=⟨l[i]'(by omega),List.getElem?_eq_getElem (by omega)⟩
  have c:=h i x hx
  have hr:=rd52_at l i x hx
  have hf:=fits_ev (l.take i) (by rw [List.length_take];omega) x.f0
  rw [fitV_good c.1 c.2.1] at hf
  unfold fitF at hf
  have hs:=(h.take i).seal (by rw [List.length_take];omega) c.1
  rw [← c.2.2] at hs
  have h2:=ih (i + 1) (by omega)
  have hw:wrap64 ((i:Int) + 1) = ((i + 1:Nat):Int):=by unfold wrap64;omega
  rw [← hw] at h2
  refine Ev.step (fun k=>by rw [record_Check.l0,if_pos (by omega),if_pos (by omega),if_pos (by omega),if_pos (by omega),Int.toNat_natCast,hr]) (hf.bind (ev_t rfl ?_))
  rw [hs]
  refine Ev.step (fun k=>by rw [Option.bind_some,record_Check.j1,if_neg (by simp),if_pos rfl]) h2
theorem check_ev {l:List S52} (h:Rt l) (hl:l.length≤1024):Ev (fun k=>record_Check.f k l) (-1,0):=by
 unfold record_Check.f
 exact ev_e (by omega) (check_at l h hl l.length 0 (by omega))
def enB (x:S52):List UInt8:=txB (mkB (eB x.f0)) ++ bs x.f1
def recB (l:List S52):List UInt8:=l.flatMap enB
theorem recB_append (a b:List S52):recB (a ++ b) = recB a ++ recB b:=List.flatMap_append
theorem recB_snoc (a:List S52) (x:S52):recB (a ++ [x]) = recB a ++ enB x:=by rw [recB_append];unfold recB;simp
theorem enB_len {x:S52} (h:En x):32 < (enB x).length∧(enB x).length≤100050:=by
 have h1:=eB_len h.1
 have h2:=txB_len (x:=mkB (eB x.f0)) (S:=100000) (by rw [mkB_size];exact h1) (by omega)
 have h3:txB (mkB (eB x.f0)) = shB (mkB (eB x.f0)).size ++ bs (mkB (eB x.f0)):=rfl
 have h4:0 < (shB (mkB (eB x.f0)).size).length:=List.length_pos_iff.2 (shB_ne _)
 unfold enB
 rw [List.length_append,bs_length,h.2]
 rw [h3,List.length_append] at h2 ⊢
 omega
theorem recB_len:∀ (l:List S52),(∀ x ∈ l,En x)→(recB l).length≤100050 * l.length∧32 * l.length≤(recB l).length
 | [],_=>by simp [recB]
 | x :: l,h=>by
  have h1:=enB_len (h x (List.mem_cons_self ..))
  have h2:=recB_len l (fun y hy=>h y (List.mem_cons_of_mem _ hy))
  have e:recB (x :: l) = enB x ++ recB l:=List.flatMap_cons
  rw [e,List.length_append,List.length_cons,Nat.mul_add,Nat.mul_add]
  omega
theorem writeG_ev:∀ (l:List S52) (acc:List UInt8),(∀ x ∈ l,En x)→acc.length + 100050 * l.length≤mostB→Ev (fun k=>writeG k acc l) (acc ++ recB l)
 | [],acc,_,_=>by
  have:acc ++ recB [] = acc:=by simp [recB]
  rw [this]
  exact Ev.now _
 | x :: l,acc,h,hl=>by
  have hx:=h x (List.mem_cons_self ..)
  have h1:=enB_len hx
  have he:=encode_ev x.f0
  rw [encV_good hx.1] at he
  have hz:=eB_len hx.1
  have hs:=strs_ev 100000 (Nat.le_refl _) [mkB (eB x.f0)] (by simp) (fun y hy=>by rw [List.mem_singleton.1 hy,mkB_size];exact hz)
  rw [List.flatMap_cons,List.flatMap_nil,List.append_nil] at hs
  rw [List.length_cons,Nat.mul_add,Nat.mul_one] at hl
  have h3:=writeG_ev l (acc ++ enB x) (fun y hy=>h y (List.mem_cons_of_mem _ hy)) (by rw [List.length_append];omega)
  have e:recB (x :: l) = enB x ++ recB l:=List.flatMap_cons
  rw [List.append_assoc,← e] at h3
  have e2:(mkB (txB (mkB (eB x.f0))) ++ x.f1).data.toList = enB x:=by show bs (_ ++ _) = _;rw [bs_append];rfl
  have e3:(mkB (txB (mkB (eB x.f0)))).size + x.f1.size = (enB x).length:=by unfold enB;rw [List.length_append,mkB_size,bs_length]
  simp only [writeG]
  refine he.bind (hs.bind (ev_t (by rw [e3];omega) ?_))
  rw [e2]
  exact h3
theorem write_ev {l:List S52} (h:Rt l) (hl:l.length≤1024):Ev (fun k=>record_Write.f k l) (mkB (recB l),0):=by
 unfold record_Write.f
 exact (check_ev h hl).bind (ev_t rfl (ev_t (by unfold mostB;omega) ((writeG_ev l [] h.ok (by unfold mostB;simp;omega)).bind (Ev.now _))))
theorem event_eq {e:S26} (g:EvG e):record_event.f e.f0 e.f1 e.f2 e.f3 e.f4 e.f5 = some (e.f0,e.f1,e.f2,e.f3,e.f4,e.f5):=by
 have:=g.n3;have:=g.n4;have:=g.n5
 unfold record_event.f slices_Clone_int_int.f api_Rat_82.f slices_Clone_string_string.f
 rw [if_pos (by omega),if_pos (by omega),if_pos (by omega)]
 rfl
theorem append_at (l:List S52) (h:Rt l) (hl:l.length < 1024) (e:S26) (g:EvG e):∀ (m i:Nat),i + m = l.length→Ev (fun k=>record_Append.l0 k l (mkB (eB e)) (l.take i) l (l.length:Int) (i:Int) e.f0 e.f1 e.f2 e.f3 e.f4 e.f5) (l ++ [⟨e,sealV l (mkB (eB e))⟩],0):=by
 intro m
 induction m with
 | zero =>
  intro i hi
  have ht:l.take i = l:=List.take_of_length_le (by omega)
  refine Ev.step (fun k=>by rw [record_Append.l0,if_neg (by omega),event_eq g,Option.bind_some,h.seal (by omega) g,Option.bind_some,if_pos (by rw [List.length_take];omega),ht]) (Ev.now _)
 | succ m ih =>
  intro i hi
  obtain ⟨x,hx⟩:∃ x,l[i]? = some x:=⟨l[i]'(by omega),List.getElem?_eq_getElem (by omega)⟩
  have hr:=rd52_at l i x hx
  have h2:=ih (i + 1) (by omega)
  have hw:wrap64 ((i:Int) + 1) = ((i + 1:Nat):Int):=by unfold wrap64;omega
  rw [← hw,List.take_add_one,hx] at h2
  refine Ev.step (fun k=>by rw [record_Append.l0,if_pos (by omega),if_pos (by omega),if_pos (by omega),hr,event_eq (h i x hx).1,Option.bind_some,if_pos (by rw [List.length_take];omega)];rfl) h2
theorem append_ev {l:List S52} (h:Rt l) (hl:l.length < 1024) (e:S26):∃ r,Ev (fun k=>record_Append.f k l e.f0 e.f1 e.f2 e.f3 e.f4 e.f5) r∧(r.2 = 0→r.1 = l ++ [⟨e,sealV l (mkB (eB e))⟩]∧Cd l ⟨e,sealV l (mkB (eB e))⟩):=by
 have hf:=fits_ev l (by omega) e
 unfold fitF at hf
 unfold record_Append.f
 by_cases c:(fitV l e).2 = 0
 ·obtain ⟨g,o⟩:=fitV_ok c
  rw [fitV_good g o] at hf
  exact ⟨_,(check_ev h (by omega)).bind (ev_t rfl (hf.bind (ev_t rfl (ev_e (by omega) (append_at l h hl e g l.length 0 (by omega)))))),fun _=>⟨rfl,g,o,rfl⟩⟩
 ·exact ⟨([],(fitV l e).2),(check_ev h (by omega)).bind (ev_t rfl (hf.bind (ev_e c (Ev.now _)))),fun h0=>absurd h0 c⟩
theorem bt_cons_of {s:ByteArray} (h:s.toList≠([]:List UInt8)):∃ c l,bs s = c :: l:=by
 rw [toL] at h
 cases hb:bs s with
 | nil=>exact absurd hb h
 | cons c l=>exact ⟨c,l,rfl⟩
theorem shB_byte (c:UInt8) (h:c.toNat < 128):shB c.toNat = [c]:=by
 rw [shB_one h]
 congr 1
 exact UInt8.toNat_inj.1 (ofNat_toNat (by omega))
theorem rsh_sound:∀ (m i acc:Nat) (s:ByteArray) (b:Bool),i + m = 9→acc < 2 ^ (7 * i) →
  ∃ r,Ev (fun k=>record_reader_short.l0 k (acc:Int) (7 * (i:Int)) s b) r∧(r.2.2 = true ∨ (r.2.2 = b∧∃ n:Nat,n < 128 ^ m∧(i = 0 ∨ 0 < n)∧r.1 = ((acc + n * 2 ^ (7 * i):Nat):Int)∧bs s = shB n ++ bs r.2.1)):=by
 intro m
 induction m with
 | zero =>
  intro i acc s b hi ha
  exact ⟨(0,s,true),Ev.step (fun k=>by rw [record_reader_short.l0,if_neg (by omega)]) (Ev.step (fun k=>by rw [record_reader_short.j1,if_neg (by decide)]) (Ev.now _)),Or.inl rfl⟩
 | succ m ih =>
  intro i acc s b hi ha
  by_cases hn:s.toList = ([]:List UInt8)
  ·refine ⟨(0,s,true),Ev.step (fun k=>by rw [record_reader_short.l0,if_pos (by omega),hn]) (Ev.step (fun k=>by rw [record_reader_short.j1,if_neg (by decide)]) (Ev.now _)),Or.inl rfl⟩
  obtain ⟨c,l,hs⟩:=bt_cons_of hn
  have hc:(s.toList != ([]:List UInt8)) = true:=by rw [toL,hs];rfl
  have hsz:1≤s.size:=by rw [← bs_length,hs];simp
  have Ac:=bt_cons hs
  have hcl:c.toNat < 256:=c.toNat_lt
  have ht:s.extract 1 s.size = mkB l:=bs_inj (by rw [tail_cons hs];rfl)
  have hle:2 ^ (7 * i)≤2 ^ 56:=Nat.pow_le_pow_right (by decide) (by omega)
  have hm:c.toNat % 128 * 2 ^ (7 * i)≤127 * 2 ^ (7 * i):=Nat.mul_le_mul_right _ (by omega)
  have hp:2 ^ (7 * (i + 1)) = 128 * 2 ^ (7 * i):=by rw [show 7 * (i + 1) = 7 * i + 7 from by omega,Nat.pow_add];omega
  have hv:Go.bits .or .i64 (acc:Int) (shl .i64 (wrap64 (Go.bits .and .u8 (bt s 0) 127)) (7 * (i:Int))) = ((acc + c.toNat % 128 * 2 ^ (7 * i):Nat):Int):=by
   rw [Ac,and127 _ (by omega) (by omega),show wrap64 ((c.toNat:Int) % 128) = ((c.toNat % 128:Nat):Int) from by unfold wrap64;omega,show (7 * (i:Int)) = ((7 * i:Nat):Int) from by omega,shl_nat _ _ (by omega) (by omega),or_add _ _ _ ha (by omega)]
  generalize hV:acc + c.toNat % 128 * 2 ^ (7 * i) = V at hv
  have hst:∀ k,record_reader_short.l0 (k + 1) (acc:Int) (7 * (i:Int)) s b = record_reader_short.j1 k (acc:Int) (7 * (i:Int)) true s b:=fun k=>by rw [record_reader_short.l0,if_pos (by omega),hc]
  have hw:wrap64 (7 * (i:Int) + 7) = 7 * ((i + 1:Nat):Int):=by unfold wrap64;omega
  have hj:∀ k,record_reader_short.j1 (k + 1) (acc:Int) (7 * (i:Int)) true s b = if (c.toNat:Int) < 128 then (if (c.toNat:Int) = 0 then (if 7 * (i:Int) > 0 then some (0,mkB l,true) else some ((V:Int),mkB l,b)) else some ((V:Int),mkB l,b)) else record_reader_short.l0 k (V:Int) (7 * ((i + 1:Nat):Int)) (mkB l) b:=fun k=>by
   rw [record_reader_short.j1,if_pos rfl,if_pos (by omega),if_pos (by omega),if_pos (by omega),hv,Ac,hw,ht,if_neg (show ¬ (V:Int) < 0 by omega)]
  by_cases c1:c.toNat < 128
  ·have Ab:=shB_byte c c1
   have hVV:V = acc + c.toNat * 2 ^ (7 * i):=by rw [← hV,Nat.mod_eq_of_lt c1]
   have Aa:(i = 0 ∨ 0 < c.toNat)→(((V:Int),mkB l,b):Int × ByteArray × Bool).2.2 = true ∨ ((((V:Int),mkB l,b):Int × ByteArray × Bool).2.2 = b∧∃ n:Nat,n < 128 ^ (m + 1)∧(i = 0 ∨ 0 < n)∧(((V:Int),mkB l,b):Int × ByteArray × Bool).1 = ((acc + n * 2 ^ (7 * i):Nat):Int)∧bs s = shB n ++ bs (((V:Int),mkB l,b):Int × ByteArray × Bool).2.1):=fun h0=>by
    refine Or.inr ⟨rfl,c.toNat,?_,h0,by rw [hVV],by rw [Ab,hs];rfl⟩
    calc c.toNat < 128 ^ 1:=by omega
     _≤128 ^ (m + 1):=Nat.pow_le_pow_right (by decide) (by omega)
   by_cases c2:c.toNat = 0
   ·by_cases c3:i = 0
    ·exact ⟨_,Ev.step hst (Ev.step hj (ev_t (by omega) (ev_t (by omega) (ev_e (by omega) (Ev.now _))))),Aa (Or.inl c3)⟩
    ·exact ⟨_,Ev.step hst (Ev.step hj (ev_t (by omega) (ev_t (by omega) (ev_t (by omega) (Ev.now _))))),Or.inl rfl⟩
   ·exact ⟨_,Ev.step hst (Ev.step hj (ev_t (by omega) (ev_e (by omega) (Ev.now _)))),Aa (Or.inr (by omega))⟩
  ·obtain ⟨r,hr,h2⟩:=ih (i + 1) V (mkB l) b (by omega) (by rw [hp,← hV];omega)
   refine ⟨r,Ev.step hst (Ev.step hj (ev_e (by omega) hr)),?_⟩
   rcases h2 with h2|⟨h2,n,hn,h0,hv,hb⟩
   ·exact Or.inl h2
   ·have Ad:0 < n:=by omega
    have e1:c.toNat % 128 + 128 * n < 128 ^ (m + 1):=by
     rw [Nat.pow_succ]
     omega
    have e2:shB (c.toNat % 128 + 128 * n) = c :: shB n:=by
     rw [shB_more (by omega),show (c.toNat % 128 + 128 * n) % 128 + 128 = c.toNat from by omega,show (c.toNat % 128 + 128 * n) / 128 = n from by omega]
     congr 1
     exact UInt8.toNat_inj.1 (ofNat_toNat hcl)
    refine Or.inr ⟨h2,c.toNat % 128 + 128 * n,e1,Or.inr (by omega),?_,by rw [e2,hs,List.cons_append,← hb];rfl⟩
    rw [hv,hp,← hV,Nat.add_mul,Nat.add_assoc,show n * (128 * 2 ^ (7 * i)) = 128 * n * 2 ^ (7 * i) from by rw [← Nat.mul_assoc,Nat.mul_comm n 128]]
theorem rby_sound (s:ByteArray):∃ r,Ev (fun k=>record_reader_bytes.f k s false) r∧(r.2.2 = true ∨ (r.2.2 = false∧bs s = txB r.1 ++ bs r.2.1)):=by
 obtain ⟨r,hr,h⟩:=rsh_sound 9 0 0 s false rfl (by decide)
 have hr':Ev (fun k=>record_reader_short.f k s false) r:=hr
 unfold record_reader_bytes.f
 rcases h with h|⟨h,n,hn,_,hv,hb⟩
 ·exact ⟨_,hr'.bind (ev_t h (Ev.now _)),Or.inl rfl⟩
 ·obtain ⟨r1,r2,r3⟩:=r
  dsimp only at h hv hb
  subst h
  simp only [Nat.zero_add,Nat.mul_zero,Nat.pow_zero,Nat.mul_one] at hv
  subst hv
  by_cases c:(n:Int) > (r2.size:Int)
  ·exact ⟨_,hr'.bind (ev_e Bool.false_ne_true (ev_t c (Ev.now _))),Or.inl rfl⟩
  ·refine ⟨_,hr'.bind (ev_e Bool.false_ne_true (ev_e c (ev_t (by omega) (ev_t (by show (n:Int)≤(r2.size:Int);omega) (Ev.now _))))),Or.inr ⟨rfl,?_⟩⟩
   dsimp only
   have hz:(r2.extract 0 n).size = n:=by rw [ByteArray.size_extract];omega
   rw [Int.toNat_natCast,txB,hz,bs_to,bs_from,List.append_assoc,List.take_append_drop]
   exact hb
theorem txB_free {a b:ByteArray} {r r':List UInt8} (ha:a.size < 9223372036854775808) (hb:b.size < 9223372036854775808) (h:txB a ++ r = txB b ++ r'):a = b∧r = r':=by
 have h1:=rby_ev a ha (mkB (txB a ++ r)) r rfl
 have h2:=rby_ev b hb (mkB (txB a ++ r)) r' h
 have:=evU h1 h2
 obtain ⟨e1,e2,_⟩:=(by simpa using this:a = b∧mkB r = mkB r')
 refine ⟨by simp_all,?_⟩
 have:=congrArg bs (Prod.mk.inj (Prod.mk.inj this).2).1
 exact this
theorem eB_inj {e f:S26} (g:EvG e) (h:EvG f) (he:eB e = eB f):e = f:=by
 have h1:=decode_back g
 rw [he] at h1
 have h2:=evU h1 (decode_back h)
 unfold decT at h2
 obtain ⟨a0,a1,a2,a3,a4,a5⟩:=e
 obtain ⟨b0,b1,b2,b3,b4,b5⟩:=f
 simp only [Prod.mk.injEq] at h2
 obtain ⟨rfl,rfl,rfl,rfl,rfl,rfl,_⟩:=h2
 rfl
theorem mk_size {e:S26} (g:EvG e):(mkB (eB e)).size < 9223372036854775808:=by have:=eB_len g;rw [mkB_size];omega
theorem enB_free {x y:S52} {r r':List UInt8} (hx:En x) (hy:En y) (h:enB x ++ r = enB y ++ r'):x = y∧r = r':=by
 unfold enB at h
 rw [List.append_assoc,List.append_assoc] at h
 obtain ⟨h1,h2⟩:=txB_free (mk_size hx.1) (mk_size hy.1) h
 have h3:=eB_inj hx.1 hy.1 (congrArg bs h1)
 obtain ⟨h4,h5⟩:=List.append_inj h2 (by rw [bs_length,bs_length,hx.2,hy.2])
 obtain ⟨x0,x1⟩:=x
 obtain ⟨y0,y1⟩:=y
 dsimp only at h3 h4
 subst h3
 rw [bs_inj h4]
 exact ⟨rfl,h5⟩
def Stuck (l:List S52) (rest:List UInt8):Prop:=∀ x r,Cd l x→rest≠enB x ++ r
theorem recover_at (a:ByteArray) (ha:a.size < 1099511627776):∀ (m:Nat) (done:List S52) (rest:List UInt8),done.length + m = 1024→Rt done→bs a = recB done ++ rest →
  ∃ got,Ev (fun k=>record_Recover.l0 k a done ((recB done).length:Int) (mkB rest) false) (got,((recB got).length:Int))∧Rt got∧got.length≤1024∧∃ rest',bs a = recB got ++ rest'∧(got.length = 1024 ∨ Stuck got rest'):=by
 intro m
 induction m with
 | zero =>
  intro done rest hl hR hb
  exact ⟨done,Ev.step (fun k=>by rw [record_Recover.l0,if_neg (by omega)]) (Ev.now _),hR,by omega,rest,hb,Or.inl (by omega)⟩
 | succ m ih =>
  intro done rest hl hR hb
  have Ad:(∃ r:Option (List S52 × Int),True)→Stuck done rest→Ev (fun k=>record_Recover.l0 k a done ((recB done).length:Int) (mkB rest) false) (done,((recB done).length:Int))→∃ got,Ev (fun k=>record_Recover.l0 k a done ((recB done).length:Int) (mkB rest) false) (got,((recB got).length:Int))∧Rt got∧got.length≤1024∧∃ rest',bs a = recB got ++ rest'∧(got.length = 1024 ∨ Stuck got rest') :=
   fun _ hS he=>⟨done,he,hR,by omega,rest,hb,Or.inr hS⟩
  obtain ⟨q,hq,hqs⟩:=rby_sound (mkB rest)
  have Ac:∀ x r,Cd done x→rest = enB x ++ r→q = (mkB (eB x.f0),mkB (bs x.f1 ++ r),false):=fun x r hc hr=>by
   have:=rby_ev (mkB (eB x.f0)) (mk_size hc.1) (mkB rest) (bs x.f1 ++ r) (by rw [bs_mkB,hr];unfold enB;rw [List.append_assoc])
   exact evU hq this
  have hst:∀ k,record_Recover.l0 (k + 1) a done ((recB done).length:Int) (mkB rest) false = (record_reader_bytes.f k (mkB rest) false).bind fun Ab=>(if Ab.2.2 = true then (record_Recover.j1 k a done ((recB done).length:Int) Ab.1 true Ab.2.1 Ab.2.2) else (record_Recover.j1 k a done ((recB done).length:Int) Ab.1 (decide ((Ab.2.1.size:Int) < 32)) Ab.2.1 Ab.2.2)):=fun k=>by rw [record_Recover.l0,if_pos (by omega)]
  have jt:∀ (t s:ByteArray) (b:Bool) {x:Bool},x = true→Ev (fun k=>record_Recover.j1 k a done ((recB done).length:Int) t x s b) (done,((recB done).length:Int)):=by
   rintro t s b x rfl
   exact Ev.step (fun k=>by rw [record_Recover.j1,if_pos rfl]) (Ev.now _)
  rcases hqs with hbad|⟨hok,hbs⟩
  ·refine Ad ⟨none,trivial⟩ (fun x r hc hr=>?_) (Ev.step hst (hq.bind (ev_t hbad (jt _ _ _ rfl))))
   rw [Ac x r hc hr] at hbad
   cases hbad
  obtain ⟨t,s,bq⟩:=q
  dsimp only at hok hbs
  subst hok
  by_cases Ag:(s.size:Int) < 32
  ·refine Ad ⟨none,trivial⟩ (fun x r hc hr=>?_) (Ev.step hst (hq.bind (ev_e Bool.false_ne_true (jt _ _ _ (decide_eq_true Ag)))))
   have:=Ac x r hc hr
   simp only [Prod.mk.injEq] at this
   rw [this.2.1,mkB_size,List.length_append,bs_length,hc.ok.2] at Ag
   omega
  obtain ⟨d,hd,hds⟩:=decode_sound t
  have hj:∀ k,record_Recover.j1 (k + 1) a done ((recB done).length:Int) t (decide ((s.size:Int) < 32)) s false = (record_Decode.f k t).bind fun Aa=>(if Aa.2.2.2.2.2.2 = 0 then ((record_fits.f k done Aa.1 Aa.2.1 Aa.2.2.1 Aa.2.2.2.1 Aa.2.2.2.2.1 Aa.2.2.2.2.2.1).bind fun Ae=>(if Ae.2 = 0 then ((record_seal.f done t).bind fun Af=>(if (s.extract 0 32).toList = Af.toList then (if done.length < 1256584717458 then (record_Recover.l0 k a (done ++ [(⟨(⟨Aa.1,Aa.2.1,Aa.2.2.1,Aa.2.2.2.1,Aa.2.2.2.2.1,Aa.2.2.2.2.2.1⟩:S26),s.extract 0 32⟩:S52)]) (wrap64 ((a.size:Int) - ((s.extract 32 s.size).size:Int))) (s.extract 32 s.size) false) else (none)) else (some (done,((recB done).length:Int))))) else (some (done,((recB done).length:Int))))) else (some (done,((recB done).length:Int)))):=fun k=>by
   rw [record_Recover.j1,if_neg (by rw [decide_eq_false Ag];decide),if_pos (by decide),if_pos (by omega)]
  have pre:∀ {f:Nat→Option (List S52 × Int)} {r},(∀ k,record_Recover.j1 (k + 1) a done ((recB done).length:Int) t (decide ((s.size:Int) < 32)) s false = f k)→Ev f r→Ev (fun k=>record_Recover.l0 k a done ((recB done).length:Int) (mkB rest) false) r:=fun h1 h2=>Ev.step hst (hq.bind (ev_e Bool.false_ne_true (Ev.step h1 h2)))
  rcases hds with rfl|⟨e,g,rfl,rfl⟩
  ·refine Ad ⟨none,trivial⟩ (fun x r hc hr=>?_) (pre hj (hd.bind (ev_e (by decide) (Ev.now _))))
   have:=Ac x r hc hr
   simp only [Prod.mk.injEq] at this
   rw [this.1] at hd
   have h2:=evU hd (decode_back hc.1)
   unfold decT at h2
   simp only [Prod.mk.injEq] at h2
   omega
  have hf:=fits_ev done (by omega) e
  by_cases ho:ordB done e = true
  ·rw [fitV_good g ho] at hf
   unfold fitF at hf
   have hsl:Ev (fun _=>record_seal.f done (mkB (eB e))) (sealV done (mkB (eB e))):=by rw [hR.seal (by omega) g];exact Ev.now _
   by_cases hdg:(s.extract 0 32).toList = (sealV done (mkB (eB e))).toList
   ·have Ai:s.extract 0 32 = sealV done (mkB (eB e)):=bs_inj (by rw [← toL,← toL];exact hdg)
    have hc:Cd done ⟨e,s.extract 0 32⟩:=⟨g,ho,Ai⟩
    have Aj:=hR.snoc hc
    have Ah:bs a = recB (done ++ [⟨e,s.extract 0 32⟩]) ++ bs (s.extract 32 s.size):=by
     rw [recB_snoc,hb,show rest = txB (mkB (eB e)) ++ bs s from hbs,List.append_assoc]
     unfold enB
     dsimp only
     rw [List.append_assoc,bs_to,bs_from,List.take_append_drop]
    obtain ⟨got,hg,h1,h2,h3⟩:=ih (done ++ [⟨e,s.extract 0 32⟩]) (bs (s.extract 32 s.size)) (by rw [List.length_append];simp;omega) Aj Ah
    have hn:wrap64 ((a.size:Int) - ((s.extract 32 s.size).size:Int)) = ((recB (done ++ [⟨e,s.extract 0 32⟩])).length:Int):=by
     have:=congrArg List.length Ah
     rw [List.length_append,bs_length,bs_length] at this
     unfold wrap64
     omega
    rw [← hn] at hg
    exact ⟨got,pre hj (hd.bind (ev_t rfl (hf.bind (ev_t rfl (hsl.bind (ev_t hdg (ev_t (by omega) hg))))))),h1,h2,h3⟩
   ·refine Ad ⟨none,trivial⟩ (fun x r hc hr=>?_) (pre hj (hd.bind (ev_t rfl (hf.bind (ev_t rfl (hsl.bind (ev_e hdg (Ev.now _))))))))
    have:=Ac x r hc hr
    simp only [Prod.mk.injEq] at this
    have he:e = x.f0:=eB_inj g hc.1 (congrArg bs this.1)
    subst he
    apply hdg
    rw [toL,toL,bs_to,this.2.1,bs_mkB,hc.2.2,List.take_left' (by rw [bs_length];exact shaSum_size _)]
  ·have hne:¬ (fitV done e).2 = 0:=fun h=>ho (fitV_ok h).2
   unfold fitF at hf
   refine Ad ⟨none,trivial⟩ (fun x r hc hr=>?_) (pre hj (hd.bind (ev_t rfl (hf.bind (ev_e hne (Ev.now _))))))
   have:=Ac x r hc hr
   simp only [Prod.mk.injEq] at this
   have he:e = x.f0:=eB_inj g hc.1 (congrArg bs this.1)
   subst he
   exact ho hc.2.1
theorem recover_ev (a:ByteArray) (ha:a.size < 1099511627776):∃ got,Ev (fun k=>record_Recover.f k a) (got,((recB got).length:Int))∧Rt got∧got.length≤1024∧∃ rest,bs a = recB got ++ rest∧(got.length = 1024 ∨ Stuck got rest):=by
 obtain ⟨got,h,h2⟩:=recover_at a ha 1024 [] (bs a) (by simp) Rt.nil (by simp [recB])
 refine ⟨got,?_,h2⟩
 unfold record_Recover.f
 exact (Ev.now (a,false)).bind h
theorem rec_prefix:∀ (a b:List S52) (r r':List UInt8),(∀ x ∈ a,En x)→(∀ x ∈ b,En x)→recB a ++ r = recB b ++ r'→(∃ t,b = a ++ t) ∨ (∃ t,a = b ++ t)
 | [],b,_,_,_,_,_=>Or.inl ⟨b,rfl⟩
 | x :: a,[],_,_,_,_,_=>Or.inr ⟨x :: a,rfl⟩
 | x :: a,y :: b,r,r',ha,hb,h=>by
  have e1:recB (x :: a) = enB x ++ recB a:=List.flatMap_cons
  have e2:recB (y :: b) = enB y ++ recB b:=List.flatMap_cons
  rw [e1,e2,List.append_assoc,List.append_assoc] at h
  obtain ⟨rfl,h2⟩:=enB_free (ha x (List.mem_cons_self ..)) (hb y (List.mem_cons_self ..)) h
  rcases rec_prefix a b r r' (fun z hz=>ha z (List.mem_cons_of_mem _ hz)) (fun z hz=>hb z (List.mem_cons_of_mem _ hz)) h2 with ⟨t,rfl⟩|⟨t,rfl⟩
  ·exact Or.inl ⟨t,rfl⟩
  ·exact Or.inr ⟨t,rfl⟩
theorem torn_core {l got:List S52} {at_:Nat} {rest:List UInt8} (hl:Rt l) (hlen:l.length≤1023) (hg:Rt got) (hat:at_≤(recB l).length) (hb:(recB l).take at_ = recB got ++ rest) (hs:got.length = 1024 ∨ Stuck got rest) :
  got = l.take got.length∧got.length≤l.length∧(recB got).length≤at_∧(got.length < l.length→at_ < (recB (l.take (got.length + 1))).length):=by
 have h1:recB l ++ [] = recB got ++ (rest ++ (recB l).drop at_):=by rw [List.append_nil,← List.append_assoc,← hb,List.take_append_drop]
 have hle:(recB got).length≤at_:=by
  have:=congrArg List.length hb
  rw [List.length_append,List.length_take] at this
  omega
 have key:got = l.take got.length∧got.length≤l.length:=by
  rcases rec_prefix l got _ _ hl.ok hg.ok h1 with ⟨t,rfl⟩|⟨t,rfl⟩
  ·have h2:=recB_len t (fun x hx=>hg.ok x (by simp [hx]))
   rw [recB_append,List.length_append] at hle
   have:t = []:=List.length_eq_zero_iff.1 (by omega)
   subst this
   rw [List.append_nil]
   exact ⟨by rw [List.take_length],Nat.le_refl _⟩
  ·exact ⟨by rw [List.take_left],by simp⟩
 refine ⟨key.1,key.2,hle,fun hlt=>?_⟩
 obtain ⟨x,hx⟩:∃ x,l[got.length]? = some x:=⟨l[got.length]'hlt,List.getElem?_eq_getElem hlt⟩
 have hc:=hl _ _ hx
 rw [← key.1] at hc
 have ht:l.take (got.length + 1) = got ++ [x]:=by rw [List.take_add_one,hx,← key.1];rfl
 rw [ht]
 apply Nat.lt_of_not_le
 intro hge
 have Aa:recB l = recB (got ++ [x]) ++ recB (l.drop (got.length + 1)):=by rw [← ht,← recB_append,List.take_append_drop]
 have:(recB l).take at_ = recB got ++ (enB x ++ ((recB (l.drop (got.length + 1))).take (at_ - (recB (got ++ [x])).length))):=by
  rw [Aa,List.take_append,List.take_of_length_le (by omega),recB_snoc,List.append_assoc]
 rw [hb] at this
 rcases hs with hs|hs
 ·omega
 ·exact hs x _ hc (List.append_cancel_left this)
def Sm (e:S26):Prop:=e.f3.length < 1099511627776∧e.f4.length < 1099511627776∧e.f5.length < 1099511627776
theorem EvG.sm {e:S26} (g:EvG e):Sm e:=⟨by have:=g.n3;omega,by have:=g.n4;omega,by have:=g.n5;omega⟩
theorem copyE_eq {e:S26} (h:Sm e):garboardref57_CopyEvent.f e.f0 e.f1 e.f2 e.f3 e.f4 e.f5 = some (e.f0,e.f1,e.f2,e.f3,e.f4,e.f5):=by
 obtain ⟨h3,h4,h5⟩:=h
 unfold garboardref57_CopyEvent.f
 simp only [Option.bind_some,List.length_nil,Nat.zero_add,List.nil_append]
 rw [if_pos (by omega),if_pos (by omega),if_pos (by omega)]
theorem copy_at (l:List S52) (h:∀ x ∈ l,Sm x.f0) (hl:l.length < 1000000):∀ (m i:Nat),i + m = l.length→Ev (fun k=>garboardref57_Copy.l0 k l (l.take i) (i:Int)) l:=by
 intro m
 induction m with
 | zero =>
  intro i hi
  have ht:l.take i = l:=List.take_of_length_le (by omega)
  exact Ev.step (fun k=>by rw [garboardref57_Copy.l0,if_neg (by omega),ht]) (Ev.now _)
 | succ m ih =>
  intro i hi
  obtain ⟨x,hx⟩:∃ x,l[i]? = some x:=⟨l[i]'(by omega),List.getElem?_eq_getElem (by omega)⟩
  have hr:=rd52_at l i x hx
  have h2:=ih (i + 1) (by omega)
  have hw:wrap64 ((i:Int) + 1) = ((i + 1:Nat):Int):=by unfold wrap64;omega
  rw [← hw,List.take_add_one,hx] at h2
  exact Ev.step (fun k=>by rw [garboardref57_Copy.l0,if_pos (by omega),if_pos (by omega),hr,copyE_eq (h x (List.mem_of_getElem? hx)),Option.bind_some,if_pos (by rw [List.length_take];omega)];rfl) h2
theorem copy_ev {l:List S52} (h:∀ x ∈ l,Sm x.f0) (hl:l.length < 1000000):Ev (fun k=>garboardref57_Copy.f k l) l:=by
 unfold garboardref57_Copy.f
 exact copy_at l h hl l.length 0 (by omega)
theorem Rt.sm {l:List S52} (h:Rt l):∀ x ∈ l,Sm x.f0:=fun x hx=>(h.ok x hx).1.sm
theorem sameE2 (a:S26) (h:Sm a):∀ (m i:Nat),i + m = a.f5.length→Ev (fun k=>garboardref57_SameEvent.l2 k (i:Int) a.f0 a.f1 a.f2 a.f3 a.f4 a.f5 a.f0 a.f1 a.f2 a.f3 a.f4 a.f5) true:=by
 obtain ⟨h3,h4,h5⟩:=h
 intro m
 induction m with
 | zero=>intro i hi;exact Ev.step (fun k=>by rw [garboardref57_SameEvent.l2,if_neg (by omega)]) (Ev.now _)
 | succ m ih =>
  intro i hi
  have hw:wrap64 ((i:Int) + 1) = ((i + 1:Nat):Int):=by unfold wrap64;omega
  exact Ev.step (fun k=>by rw [garboardref57_SameEvent.l2,if_pos (by omega),if_pos (by omega),if_pos (by omega),if_pos rfl,hw]) (ih (i + 1) (by omega))
theorem sameE1 (a:S26) (h:Sm a):∀ (m i:Nat),i + m = a.f4.length→Ev (fun k=>garboardref57_SameEvent.l1 k (i:Int) a.f0 a.f1 a.f2 a.f3 a.f4 a.f5 a.f0 a.f1 a.f2 a.f3 a.f4 a.f5) true:=by
 have hh:=h
 obtain ⟨h3,h4,h5⟩:=h
 intro m
 induction m with
 | zero=>intro i hi;exact Ev.step (fun k=>by rw [garboardref57_SameEvent.l1,if_neg (by omega)];rfl) (sameE2 a hh a.f5.length 0 (by omega))
 | succ m ih =>
  intro i hi
  have hw:wrap64 ((i:Int) + 1) = ((i + 1:Nat):Int):=by unfold wrap64;omega
  exact Ev.step (fun k=>by rw [garboardref57_SameEvent.l1,if_pos (by omega),if_pos (by omega),if_pos (by omega),if_pos rfl,hw]) (ih (i + 1) (by omega))
theorem sameE0 (a:S26) (h:Sm a):∀ (m i:Nat),i + m = a.f3.length→Ev (fun k=>garboardref57_SameEvent.l0 k (i:Int) a.f0 a.f1 a.f2 a.f3 a.f4 a.f5 a.f0 a.f1 a.f2 a.f3 a.f4 a.f5) true:=by
 have hh:=h
 obtain ⟨h3,h4,h5⟩:=h
 intro m
 induction m with
 | zero=>intro i hi;exact Ev.step (fun k=>by rw [garboardref57_SameEvent.l0,if_neg (by omega)];rfl) (sameE1 a hh a.f4.length 0 (by omega))
 | succ m ih =>
  intro i hi
  have hw:wrap64 ((i:Int) + 1) = ((i + 1:Nat):Int):=by unfold wrap64;omega
  exact Ev.step (fun k=>by rw [garboardref57_SameEvent.l0,if_pos (by omega),if_pos (by omega),if_pos (by omega),if_pos rfl,hw]) (ih (i + 1) (by omega))
theorem sameE_refl {a:S26} (h:Sm a):Ev (fun k=>garboardref57_SameEvent.f k a.f0 a.f1 a.f2 a.f3 a.f4 a.f5 a.f0 a.f1 a.f2 a.f3 a.f4 a.f5) true:=by
 unfold garboardref57_SameEvent.f
 refine ev_t rfl (ev_t rfl (ev_t rfl (ev_t rfl (ev_t rfl ?_))))
 exact Ev.step (fun k=>by rw [garboardref57_SameEvent.j0,if_neg (by simp)];rfl) (sameE0 a h a.f3.length 0 (by omega))
theorem same_at (l:List S52) (h:∀ x ∈ l,Sm x.f0) (hl:l.length < 1000000):∀ (m i:Nat),i + m = l.length→Ev (fun k=>garboardref57_Same.l0 k l l (i:Int)) true:=by
 intro m
 induction m with
 | zero=>intro i hi;exact Ev.step (fun k=>by rw [garboardref57_Same.l0,if_neg (by omega)]) (Ev.now _)
 | succ m ih =>
  intro i hi
  obtain ⟨x,hx⟩:∃ x,l[i]? = some x:=⟨l[i]'(by omega),List.getElem?_eq_getElem (by omega)⟩
  have hr:=rd52_at l i x hx
  have h2:=ih (i + 1) (by omega)
  have hw:wrap64 ((i:Int) + 1) = ((i + 1:Nat):Int):=by unfold wrap64;omega
  rw [← hw] at h2
  refine Ev.step (fun k=>by rw [garboardref57_Same.l0,if_pos (by omega),if_pos (by omega),if_pos (by omega),if_pos rfl,hr]) ?_
  exact (sameE_refl (h x (List.mem_of_getElem? hx))).bind (ev_t rfl h2)
theorem same_refl {l:List S52} (h:∀ x ∈ l,Sm x.f0) (hl:l.length < 1000000):Ev (fun k=>garboardref57_Same.f k l l) true:=by
 unfold garboardref57_Same.f
 exact ev_t rfl (same_at l h hl l.length 0 (by omega))
theorem few1 (a:S26) (h:a.f5.length < 9223372036854775808):∀ (m i:Nat),i + m = a.f5.length→∃ b,Ev (fun k=>garboardref57_Few.l1 k (i:Int) a.f0 a.f1 a.f2 a.f3 a.f4 a.f5) b∧(b = true→Sm a):=by
 intro m
 induction m with
 | zero =>
  intro i hi
  have hst:∀ k,garboardref57_Few.l1 (k + 1) (i:Int) a.f0 a.f1 a.f2 a.f3 a.f4 a.f5 = if (a.f3.length:Int)≤65 then (if (a.f4.length:Int)≤65 then some (decide ((a.f5.length:Int)≤17)) else some false) else some false:=fun k=>by rw [garboardref57_Few.l1,if_neg (by omega)]
  by_cases c3:(a.f3.length:Int)≤65
  ·by_cases c4:(a.f4.length:Int)≤65
   ·refine ⟨_,Ev.step hst (ev_t c3 (ev_t c4 (Ev.now _))),fun hb=>?_⟩
    have:=of_decide_eq_true hb
    exact ⟨by omega,by omega,by omega⟩
   ·exact ⟨_,Ev.step hst (ev_t c3 (ev_e c4 (Ev.now _))),fun hb=>by cases hb⟩
  ·exact ⟨_,Ev.step hst (ev_e c3 (Ev.now _)),fun hb=>by cases hb⟩
 | succ m ih =>
  intro i hi
  obtain ⟨b,hb,hS⟩:=ih (i + 1) (by omega)
  have hw:wrap64 ((i:Int) + 1) = ((i + 1:Nat):Int):=by unfold wrap64;omega
  rw [← hw] at hb
  have hst:∀ k,garboardref57_Few.l1 (k + 1) (i:Int) a.f0 a.f1 a.f2 a.f3 a.f4 a.f5 = if ((rdOf ByteArray.empty a.f5 (i:Int)).size:Int) > 100 then (if ((rdOf ByteArray.empty a.f5 (i:Int)).size:Int)≤4096 then some false else (if ((rdOf ByteArray.empty a.f5 (i:Int)).size:Int) > 4097 then some false else garboardref57_Few.l1 k (wrap64 ((i:Int) + 1)) a.f0 a.f1 a.f2 a.f3 a.f4 a.f5)) else (if ((rdOf ByteArray.empty a.f5 (i:Int)).size:Int) > 4097 then some false else garboardref57_Few.l1 k (wrap64 ((i:Int) + 1)) a.f0 a.f1 a.f2 a.f3 a.f4 a.f5):=fun k=>by rw [garboardref57_Few.l1,if_pos (by omega),if_pos (by omega)]
  by_cases c1:((rdOf ByteArray.empty a.f5 (i:Int)).size:Int) > 100
  ·by_cases c2:((rdOf ByteArray.empty a.f5 (i:Int)).size:Int)≤4096
   ·exact ⟨_,Ev.step hst (ev_t c1 (ev_t c2 (Ev.now _))),fun hb=>by cases hb⟩
   ·by_cases c3:((rdOf ByteArray.empty a.f5 (i:Int)).size:Int) > 4097
    ·exact ⟨_,Ev.step hst (ev_t c1 (ev_e c2 (ev_t c3 (Ev.now _)))),fun hb=>by cases hb⟩
    ·exact ⟨_,Ev.step hst (ev_t c1 (ev_e c2 (ev_e c3 hb))),hS⟩
  ·exact ⟨_,Ev.step hst (ev_e c1 (ev_e (by omega) hb)),hS⟩
theorem few0 (a:S26) (h4:a.f4.length < 9223372036854775808) (h:a.f5.length < 9223372036854775808):∀ (m i:Nat),i + m = a.f4.length→∃ b,Ev (fun k=>garboardref57_Few.l0 k (i:Int) a.f0 a.f1 a.f2 a.f3 a.f4 a.f5) b∧(b = true→Sm a):=by
 intro m
 induction m with
 | zero =>
  intro i hi
  obtain ⟨b,hb,hS⟩:=few1 a h a.f5.length 0 (by omega)
  exact ⟨b,Ev.step (fun k=>by rw [garboardref57_Few.l0,if_neg (by omega)];rfl) hb,hS⟩
 | succ m ih =>
  intro i hi
  obtain ⟨b,hb,hS⟩:=ih (i + 1) (by omega)
  have hw:wrap64 ((i:Int) + 1) = ((i + 1:Nat):Int):=by unfold wrap64;omega
  rw [← hw] at hb
  have hst:∀ k,garboardref57_Few.l0 (k + 1) (i:Int) a.f0 a.f1 a.f2 a.f3 a.f4 a.f5 = if ((rdOf ByteArray.empty a.f4 (i:Int)).size:Int) > 201 then some false else garboardref57_Few.l0 k (wrap64 ((i:Int) + 1)) a.f0 a.f1 a.f2 a.f3 a.f4 a.f5:=fun k=>by rw [garboardref57_Few.l0,if_pos (by omega),if_pos (by omega)]
  by_cases c1:((rdOf ByteArray.empty a.f4 (i:Int)).size:Int) > 201
  ·exact ⟨_,Ev.step hst (ev_t c1 (Ev.now _)),fun hb=>by cases hb⟩
  ·exact ⟨_,Ev.step hst (ev_e c1 hb),hS⟩
theorem Few_ex (a:S26) (h4:a.f4.length < 9223372036854775808) (h:a.f5.length < 9223372036854775808):∃ b,Ev (fun k=>garboardref57_Few.f k a.f0 a.f1 a.f2 a.f3 a.f4 a.f5) b∧(b = true→Sm a):=by
 unfold garboardref57_Few.f
 exact few0 a h4 h a.f4.length 0 (by omega)
theorem all_ev {α:Type} (f:Nat→α→Option Bool):∀ (l:List α) (P:α→Prop),(∀ x ∈ l,∃ b,Ev (fun k=>f k x) b∧(b = false→P x))→∃ b,Ev (fun k=>if l.all (fun x=>(f k x).isSome) = true then some (l.any fun x=>f k x == some true) else none) b∧(b = false→∀ x ∈ l,P x)
 | [],P,_=>⟨false,Ev.now _,fun _ x hx=>by cases hx⟩
 | x :: l,P,h=>by
  obtain ⟨b,⟨K,hK⟩,hP⟩:=h x (List.mem_cons_self ..)
  obtain ⟨c,⟨L,hL⟩,hQ⟩:=all_ev f l P (fun y hy=>h y (List.mem_cons_of_mem _ hy))
  refine ⟨b || c,⟨max K L,fun k hk=>?_⟩,fun hbc=>?_⟩
  ·have h1:=hK k (by omega)
   have h2:=hL k (by omega)
   dsimp only at h1 h2 ⊢
   by_cases hc:l.all (fun x=>(f k x).isSome) = true
   ·rw [if_pos hc] at h2
    rw [if_pos (by rw [List.all_cons,h1,hc];rfl),List.any_cons,h1,Option.some.inj h2]
    cases b<;>rfl
   ·rw [if_neg hc] at h2;cases h2
  ·obtain ⟨h1,h2⟩:=Bool.or_eq_false_iff.1 hbc
   intro y hy
   rcases List.mem_cons.1 hy with rfl|hy
   ·exact hP h1
   ·exact hQ h2 y hy
def Ar (l:List S26):Prop:=∀ e ∈ l,e.f4.length < 9223372036854775808∧e.f5.length < 9223372036854775808
theorem few_ex {l:List S26} (h:Ar l):∃ b,Ev (fun k=>garboardlaw57_few.f k l) b∧(b = true→l.length≤12∧∀ e ∈ l,Sm e):=by
 unfold garboardlaw57_few.f api_Event_66.f
 by_cases c:(l.length:Int)≤12
 ·obtain ⟨b,hb,hS⟩:=all_ev cl67 l Sm (fun x hx=>by
   obtain ⟨b,hb,hS⟩:=Few_ex x (h x hx).1 (h x hx).2
   refine ⟨!b,?_,fun hn=>hS (by simpa using hn)⟩
   unfold cl67 garboardlaw57_few_1.f
   exact hb.bind (Ev.now _))
  refine ⟨!b,ev_t c (hb.bind (Ev.now _)),fun hn=>⟨by omega,hS (by simpa using hn)⟩⟩
 ·exact ⟨false,ev_e c (Ev.now _),fun hn=>by cases hn⟩
theorem rd26_at (l:List S26) (i:Nat) (x:S26) (h:l[i]? = some x):rd_T26 l (i:Int) = x:=by
 unfold rd_T26
 rw [List.getD_eq_getElem?_getD,Int.toNat_natCast,h]
 rfl
theorem chain_at (l:List S26) (h:∀ e ∈ l,Sm e) (hl:l.length≤12):∀ (m i:Nat) (acc:List S52),i + m = l.length→Rt acc→acc.length≤i→∃ r,Ev (fun k=>garboardlaw57_chain.l0 k acc l (l.length:Int) (i:Int)) r∧Rt r∧r.length≤12:=by
 intro m
 induction m with
 | zero=>intro i acc hi hR ha;exact ⟨acc,Ev.step (fun k=>by rw [garboardlaw57_chain.l0,if_neg (by omega)]) (Ev.now _),hR,by omega⟩
 | succ m ih =>
  intro i acc hi hR ha
  obtain ⟨x,hx⟩:∃ x,l[i]? = some x:=⟨l[i]'(by omega),List.getElem?_eq_getElem (by omega)⟩
  have hr:=rd26_at l i x hx
  have hw:wrap64 ((i:Int) + 1) = ((i + 1:Nat):Int):=by unfold wrap64;omega
  obtain ⟨t,ht,h0⟩:=append_ev hR (by omega) x
  have hst:∀ k,garboardlaw57_chain.l0 (k + 1) acc l (l.length:Int) (i:Int) = (garboardref57_Copy.f k acc).bind fun Ab=>(record_Append.f k Ab x.f0 x.f1 x.f2 x.f3 x.f4 x.f5).bind fun Aa=>(if Aa.2 = 0 then (garboardlaw57_chain.l0 k Aa.1 l (l.length:Int) (((i + 1:Nat):Int))) else (garboardlaw57_chain.l0 k acc l (l.length:Int) (((i + 1:Nat):Int)))):=fun k=>by
   rw [garboardlaw57_chain.l0,if_pos (by omega),if_pos (by omega),if_pos (by omega),hr,copyE_eq (h x (List.mem_of_getElem? hx)),hw]
   simp only [Option.bind_some]
  by_cases c:t.2 = 0
  ·obtain ⟨e,hc⟩:=h0 c
   obtain ⟨r,h1,h2,h3⟩:=ih (i + 1) t.1 (by omega) (by rw [e];exact hR.snoc hc) (by rw [e,List.length_append];simp;omega)
   exact ⟨r,Ev.step hst ((copy_ev hR.sm (by omega)).bind (ht.bind (ev_t c h1))),h2,h3⟩
  ·obtain ⟨r,h1,h2,h3⟩:=ih (i + 1) acc (by omega) hR (by omega)
   exact ⟨r,Ev.step hst ((copy_ev hR.sm (by omega)).bind (ht.bind (ev_e c h1))),h2,h3⟩
theorem chain_ev {l:List S26} (h:∀ e ∈ l,Sm e) (hl:l.length≤12):∃ r,Ev (fun k=>garboardlaw57_chain.f k l) r∧Rt r∧r.length≤12:=by
 unfold garboardlaw57_chain.f
 exact chain_at l h hl l.length 0 [] (by omega) Rt.nil (by simp)
end Go.Proofs.YtcmbggahndfnnaaGreatDoor.Pr
namespace Go.Proofs.YtcmbggahndfnnaaGreatDoor.Pr
open Go.ChangeShapes Go.WideShapes Go.ChangeAt Go.Deep Go.Joins Go.RowKit Go.Proofs.YtcmbggahndfnnaaGreatDoorW.PrintWords
section
variable {H : Type} {enc : TypeId × Value → H} {W : World}
theorem rows_of {α:Type} (d:Kd α) (t e:TypeId) (ht:Tryz.prog.underlying t = some (.slice e)) (hC:Tryz.prog.cellsOf e = d.sz) (Q:α→Prop)
  (hK:∀ {n:Nat} {cs:List Value} {x:DataW H × List MemPlace},DataW.trod enc Tryz.prog W 0 (fun _=>true) true n e cs = some x→∃ p,d.K W p cs∧Q p)
  {n:Nat} {A:Option Addr} {len cap:Nat} {x:DataW H × List MemPlace} (h:DataW.trod enc Tryz.prog W 0 (fun _=>true) true n t [.slice A len cap] = some x) :
  len≤cap∧cap≤maxLen∧∃ xs:List α,xs.length = len∧Kd.C d W A len xs∧∀ p ∈ xs,Q p:=by
 rcases open_slice ht h with ⟨h0,_⟩|⟨a,len',cap',m,n',D,Pl,hcs,hb,hl,hm,hmm,hx,hi⟩
 ·simp at h0
  obtain ⟨rfl,rfl,rfl⟩:=h0
  exact ⟨by omega,by unfold maxLen;omega,[],rfl,⟨rfl,by omega,fun h=>by omega⟩,fun s hs=>by cases hs⟩
 ·simp at hcs
  obtain ⟨rfl,rfl,rfl⟩:=hcs
  simp only [if_true] at hmm
  have hx:∀ i:Fin len,∃ p:α,Q p∧∃ cs,d.K W p cs∧W.cells? 0 (a.add (i * d.sz)) d.sz = some cs:=fun i=>by
   obtain ⟨cs',hc,ht'⟩:=hi i (by have:=i.2;omega)
   obtain ⟨p,hp,hq⟩:=hK ht'
   rw [hC] at hc
   exact ⟨p,hq,cs',hp,hc⟩
  have hg:=fun i=>(hx i).choose_spec
  refine ⟨hl,hm,List.ofFn fun i=>(hx i).choose,by simp,⟨by simp,by unfold maxLen at hm;omega,fun _=>⟨a,rfl,fun j p hj=>?_⟩⟩,fun s hs=>?_⟩
  ·have hjl:j < len:=by
    have:=(List.getElem?_eq_some_iff.1 hj).1
    simpa using this
   have hp:(hx ⟨j,hjl⟩).choose = p:=by
    rw [List.getElem?_ofFn] at hj
    simpa [hjl] using hj
   obtain ⟨cs,hk,hc⟩:=(hg ⟨j,hjl⟩).2
   rw [hp] at hk
   obtain ⟨_,hcl,hat⟩:=World.cells?_some hc
   refine ⟨cs,d.K_len hk,hk,fun i u hu=>?_⟩
   have hil:i < d.sz:=by
    have:=(List.getElem?_eq_some_iff.1 hu).1
    rw [d.K_len hk] at this
    exact this
   rw [← Go.Deep.add_add,hat i hil,hu]
  ·obtain ⟨i,rfl⟩:=List.mem_ofFn.1 hs
   exact (hg i).1
theorem openInts {t e:TypeId} (ht:Tryz.prog.underlying t = some (.slice e)) (he:Tryz.prog.underlying e = some (.int .i64)) (hc:Tryz.prog.cellsOf e = 1) {n:Nat} {v:Value} {x:DataW H × List MemPlace} (h:DataW.trod enc Tryz.prog W 0 (fun _=>true) true n t [v] = some x) :
  ∃ A cap,∃ xs:List Int,v = .slice A xs.length cap∧xs.length≤cap∧cap≤maxLen∧Kd.C (Kd.int .i64) W A xs.length xs:=by
 rcases slice_form ht h with ⟨A,len,cap,hv⟩
 obtain rfl:v = .slice A len cap:=by simpa using hv
 obtain ⟨h1,h2,xs,rfl,h3,_⟩:=rows_of (Kd.int .i64) t e ht hc (fun _=>True) (fun {n cs x} h=>by
  obtain ⟨a,e0,_,w0⟩:=DataW.trod_int he h
  exact ⟨a,e0,trivial⟩) h
 exact ⟨A,cap,xs,rfl,h1,h2,h3⟩
theorem openStrs {t e:TypeId} (ht:Tryz.prog.underlying t = some (.slice e)) (he:Tryz.prog.underlying e = some .string) (hc:Tryz.prog.cellsOf e = 1) {n:Nat} {v:Value} {x:DataW H × List MemPlace} (h:DataW.trod enc Tryz.prog W 0 (fun _=>true) true n t [v] = some x) :
  ∃ A cap,∃ xs:List ByteArray,v = .slice A xs.length cap∧xs.length≤cap∧cap≤maxLen∧Kd.C Kd.string W A xs.length xs∧∀ s ∈ xs,s.size≤maxLen:=by
 rcases slice_form ht h with ⟨A,len,cap,hv⟩
 obtain rfl:v = .slice A len cap:=by simpa using hv
 obtain ⟨h1,h2,xs,rfl,h3,h4⟩:=rows_of Kd.string t e ht hc (fun s=>s.size≤maxLen) (fun {n cs x} h=>by
  obtain ⟨a,e0,_,w0⟩:=DataW.trod_string he h
  exact ⟨a,e0,w0⟩) h
 exact ⟨A,cap,xs,rfl,h1,h2,h3,h4⟩
theorem trod_struct6 {t:TypeId} {f0 f1 f2 f3 f4 f5:Field} {fuel:Nat} {cs:List Value} {x:DataW H × List MemPlace} (ht:Tryz.prog.underlying t = some (.struct #[f0,f1,f2,f3,f4,f5])) (h:DataW.trod enc Tryz.prog W 0 (fun _=>true) true fuel t cs = some x) :
  ∃ y0 y1 y2 y3 y4 y5 n,cs.length = Tryz.prog.cellsOf t∧DataW.trod enc Tryz.prog W 0 (fun _=>true) true n f0.type ((cs.drop f0.offset).take (Tryz.prog.cellsOf f0.type)) = some y0 ∧
   DataW.trod enc Tryz.prog W 0 (fun _=>true) true n f1.type ((cs.drop f1.offset).take (Tryz.prog.cellsOf f1.type)) = some y1∧DataW.trod enc Tryz.prog W 0 (fun _=>true) true n f2.type ((cs.drop f2.offset).take (Tryz.prog.cellsOf f2.type)) = some y2 ∧
   DataW.trod enc Tryz.prog W 0 (fun _=>true) true n f3.type ((cs.drop f3.offset).take (Tryz.prog.cellsOf f3.type)) = some y3∧DataW.trod enc Tryz.prog W 0 (fun _=>true) true n f4.type ((cs.drop f4.offset).take (Tryz.prog.cellsOf f4.type)) = some y4 ∧
   DataW.trod enc Tryz.prog W 0 (fun _=>true) true n f5.type ((cs.drop f5.offset).take (Tryz.prog.cellsOf f5.type)) = some y5:=by
 obtain ⟨xs,n,_,rfl,hl,Aa,hf⟩:=DataW.trod_struct ht h
 match xs,Aa with
 | [y0,y1,y2,y3,y4,y5],_=>exact ⟨y0,y1,y2,y3,y4,y5,n,hl,by simpa using hf 0 f0 rfl,by simpa using hf 1 f1 rfl,by simpa using hf 2 f2 rfl,by simpa using hf 3 f3 rfl,by simpa using hf 4 f4 rfl,by simpa using hf 5 f5 rfl⟩
theorem list6 {α:Type} {cs:List α} (h:cs.length = 6):∃ c0 c1 c2 c3 c4 c5,cs = [c0,c1,c2,c3,c4,c5]:=by
 match cs,h with
 | [c0,c1,c2,c3,c4,c5],_=>exact ⟨c0,c1,c2,c3,c4,c5,rfl⟩
def Az (e:S26):Prop:=e.f3.length≤maxLen∧e.f4.length≤maxLen∧e.f5.length≤maxLen∧(∀ s ∈ e.f4,s.size≤maxLen)∧∀ s ∈ e.f5,s.size≤maxLen
theorem event_at {t:TypeId} {f0 f1 f2 f3 f4 f5:Field} {e3 e4 e5:TypeId} (he:Tryz.prog.underlying t = some (.struct #[f0,f1,f2,f3,f4,f5])) (hone:oneCellFields Tryz.prog #[f0,f1,f2,f3,f4,f5] = true) (hC:Tryz.prog.cellsOf t = 6)
  (t0:Tryz.prog.underlying f0.type = some (.int .i64)) (t1:Tryz.prog.underlying f1.type = some (.int .i64)) (t2:Tryz.prog.underlying f2.type = some (.int .i64))
  (t3:Tryz.prog.underlying f3.type = some (.slice e3)) (t4:Tryz.prog.underlying f4.type = some (.slice e4)) (t5:Tryz.prog.underlying f5.type = some (.slice e5))
  (u3:Tryz.prog.underlying e3 = some (.int .i64)) (u4:Tryz.prog.underlying e4 = some .string) (u5:Tryz.prog.underlying e5 = some .string) (n3:Tryz.prog.cellsOf e3 = 1) (n4:Tryz.prog.cellsOf e4 = 1) (n5:Tryz.prog.cellsOf e5 = 1)
  {n:Nat} {cs:List Value} {x:DataW H × List MemPlace} (h:DataW.trod enc Tryz.prog W 0 (fun _=>true) true n t cs = some x):∃ e:S26,k26.K W e cs∧Az e:=by
 obtain ⟨y0,y1,y2,y3,y4,y5,m,hl,h0,h1,h2,h3,h4,h5⟩:=trod_struct6 he h
 rw [hC] at hl
 obtain ⟨c0,c1,c2,c3,c4,c5,rfl⟩:=list6 hl
 obtain ⟨o0,k0⟩:=hone_of hone 0 f0 rfl
 obtain ⟨o1,k1⟩:=hone_of hone 1 f1 rfl
 obtain ⟨o2,k2⟩:=hone_of hone 2 f2 rfl
 obtain ⟨o3,k3⟩:=hone_of hone 3 f3 rfl
 obtain ⟨o4,k4⟩:=hone_of hone 4 f4 rfl
 obtain ⟨o5,k5⟩:=hone_of hone 5 f5 rfl
 rw [o0,k0] at h0
 rw [o1,k1] at h1
 rw [o2,k2] at h2
 rw [o3,k3] at h3
 rw [o4,k4] at h4
 rw [o5,k5] at h5
 obtain ⟨a,e0,_,_⟩:=DataW.trod_int t0 h0
 obtain ⟨b,e1,_,_⟩:=DataW.trod_int t1 h1
 obtain ⟨c,e2,_,_⟩:=DataW.trod_int t2 h2
 obtain ⟨A3,p3,Ac,e3,l3,m3,g3⟩:=openInts t3 u3 n3 (v:=c3) h3
 obtain ⟨A4,p4,Ab,e4,l4,m4,g4,s4⟩:=openStrs t4 u4 n4 (v:=c4) h4
 obtain ⟨A5,p5,Aa,e5,l5,m5,g5,s5⟩:=openStrs t5 u5 n5 (v:=c5) h5
 simp at e0 e1 e2
 subst e0 e1 e2 e3 e4 e5
 exact ⟨⟨a,b,c,Ac,Ab,Aa⟩,k26_mk W ⟨a,b,c,Ac,Ab,Aa⟩ l3 g3 l4 g4 l5 g5,by show Ac.length≤_;omega,by show Ab.length≤_;omega,by show Aa.length≤_;omega,s4,s5⟩
set_option maxRecDepth 100000 in
theorem event_K {n:Nat} {cs:List Value} {x:DataW H × List MemPlace} (h:DataW.trod enc Tryz.prog W 0 (fun _=>true) true n 26 cs = some x):∃ e:S26,k26.K W e cs∧Az e :=
 event_at (e4:=65) (e5:=9) Tryz.underlying26 (by kernel_rfl) (by kernel_rfl) Tryz.underlying3 Tryz.underlying3 Tryz.underlying3 Tryz.underlying22 (by kernel_rfl) (by kernel_rfl) Tryz.underlying3 (by kernel_rfl) (by kernel_rfl) (by kernel_rfl) (by kernel_rfl) (by kernel_rfl) h
set_option maxRecDepth 100000 in
theorem openEs {v:Value} {d:DataW H} {p:List MemPlace} (h:DataW.Trod enc Tryz.prog W 0 (fun _=>true) true 45 v d p) (hf:∃ A len cap,v = .slice A len cap) :
  ∃ A cap,∃ xs:List S26,v = .slice A xs.length cap∧xs.length≤cap∧Kd.C k26 W A xs.length xs∧∀ e ∈ xs,Az e:=by
 obtain ⟨A,len,cap,rfl⟩:=hf
 obtain ⟨n,hn⟩:=h
 obtain ⟨h1,h2,xs,rfl,h3,h4⟩:=rows_of k26 45 26 Tryz.underlying45 (by kernel_rfl) Az event_K hn
 exact ⟨A,cap,xs,rfl,h1,h3,h4⟩
end
end Go.Proofs.YtcmbggahndfnnaaGreatDoor.Pr
