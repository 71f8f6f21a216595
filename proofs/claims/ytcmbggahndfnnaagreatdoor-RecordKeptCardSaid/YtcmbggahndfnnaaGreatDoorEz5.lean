/- Part 5 of 6: walks and laws of functions that the last part joins. The words of the print (W..) are the kit's, cut down by program to what is used here. -/
import Derived.Test.YtcmbggahndfnnaaGreatDoorEz4
set_option linter.unusedVariables false
set_option linter.unusedSimpArgs false
namespace Go.Proofs.YtcmbggahndfnnaaGreatDoor.Pr
open Go.RowKit Go.Proofs.YtcmbggahndfnnaaGreatDoorW.PrintWords Go.Proofs.YtcmbggahndfnnaaGreatDoorW.PrintLast Go.Proofs.YtcmbggahndfnnaaGreatDoorW.PrintMore
attribute [local go_sem] max2_int min2_int max_two min_two max_three min_three max_four min_four
set_option maxHeartbeats 8000000
set_option maxRecDepth 100000
mutual
def record_Recover.l0:Nat→ByteArray→List (S52)→Int→ByteArray→Bool→Option ((List (S52)) × Int)
 | 0,_,_,_,_,_=>none
 | k + 1,x0,x4,x5,x304000,x304001=>if (x4.length:Int) < 1024 then ((record_reader_bytes.f k x304000 x304001).bind fun bt304=>(if bt304.2.2 = true then (record_Recover.j1 k x0 x4 x5 bt304.1 true bt304.2.1 bt304.2.2) else (record_Recover.j1 k x0 x4 x5 bt304.1 (decide ((bt304.2.1.size:Int) < 32)) bt304.2.1 bt304.2.2))) else (some (x4,x5))
def record_Recover.j1:Nat→ByteArray→List (S52)→Int→ByteArray→Bool→ByteArray→Bool→Option ((List (S52)) × Int)
 | 0,_,_,_,_,_,_,_=>none
 | k + 1,x0,x4,x5,x7,x31,x304000,x304001=>if x31 = true then (some (x4,x5)) else (if 0≤32 then (if 32≤(x304000.size:Int) then ((record_Decode.f k x7).bind fun bt308=>(if bt308.2.2.2.2.2.2 = 0 then ((record_fits.f k x4 bt308.1 bt308.2.1 bt308.2.2.1 bt308.2.2.2.1 bt308.2.2.2.2.1 bt308.2.2.2.2.2.1).bind fun bt321=>(if bt321.2 = 0 then ((record_seal.f x4 x7).bind fun t323=>(if (x304000.extract 0 32).toList = t323.toList then (if x4.length < 1256584717458 then (record_Recover.l0 k x0 (x4 ++ [(⟨(⟨bt308.1,bt308.2.1,bt308.2.2.1,bt308.2.2.2.1,bt308.2.2.2.2.1,bt308.2.2.2.2.2.1⟩:S26),x304000.extract 0 32⟩:S52)]) (wrap64 ((x0.size:Int) - ((x304000.extract 32 x304000.size).size:Int))) (x304000.extract 32 x304000.size) x304001) else (none)) else (some (x4,x5)))) else (some (x4,x5)))) else (some (x4,x5)))) else (none)) else (none))
end
def record_Recover.f (k:Nat) (a0:ByteArray):Option ((List (S52)) × Int):=(abi_NoEscape.f a0).bind fun bt301=>(record_Recover.l0 k a0 ([]:List (S52)) 0 bt301.1 bt301.2)
theorem record_Recover.mono_l:∀ k,(∀ y0 y1 y2 y3 y4,LeO (record_Recover.l0 k y0 y1 y2 y3 y4) (record_Recover.l0 (k + 1) y0 y1 y2 y3 y4))∧(∀ y0 y1 y2 y3 y4 y5 y6,LeO (record_Recover.j1 k y0 y1 y2 y3 y4 y5 y6) (record_Recover.j1 (k + 1) y0 y1 y2 y3 y4 y5 y6))
 | 0=>⟨fun _ _ _ _ _ r h=>by simp [record_Recover.l0] at h,fun _ _ _ _ _ _ _ r h=>by simp [record_Recover.j1] at h⟩
 | k + 1=>by
  obtain ⟨ih0,ih1⟩:=record_Recover.mono_l k
  refine ⟨?_,?_⟩
  ·intro y0 y1 y2 y3 y4
   unfold record_Recover.l0
   repeat' first
   | (with_reducible exact ih0 _ _ _ _ _)
   | (with_reducible exact ih1 _ _ _ _ _ _ _)
   | (with_reducible exact record_Decode.mono _ _)
   | (with_reducible exact record_fits.mono _ _ _ _ _ _ _ _)
   | (with_reducible exact record_reader_bytes.mono _ _ _)
   | (with_reducible exact LeO.refl _)
   | (with_reducible exact LeO.none _)
   | (with_reducible refine LeO.ite ?_ ?_)
   | (with_reducible refine LeO.bind ?_ (fun _=>?_))
   | exact ih0 _ _ _ _ _
   | exact ih1 _ _ _ _ _ _ _
   | exact record_Decode.mono _ _
   | exact record_fits.mono _ _ _ _ _ _ _ _
   | exact record_reader_bytes.mono _ _ _
   | exact LeO.none _
   | refine LeO.ite ?_ ?_
   | refine LeO.bind ?_ (fun _=>?_)
  ·intro y0 y1 y2 y3 y4 y5 y6
   unfold record_Recover.j1
   repeat' first
   | (with_reducible exact ih0 _ _ _ _ _)
   | (with_reducible exact ih1 _ _ _ _ _ _ _)
   | (with_reducible exact record_Decode.mono _ _)
   | (with_reducible exact record_fits.mono _ _ _ _ _ _ _ _)
   | (with_reducible exact record_reader_bytes.mono _ _ _)
   | (with_reducible exact LeO.refl _)
   | (with_reducible exact LeO.none _)
   | (with_reducible refine LeO.ite ?_ ?_)
   | (with_reducible refine LeO.bind ?_ (fun _=>?_))
   | exact ih0 _ _ _ _ _
   | exact ih1 _ _ _ _ _ _ _
   | exact record_Decode.mono _ _
   | exact record_fits.mono _ _ _ _ _ _ _ _
   | exact record_reader_bytes.mono _ _ _
   | exact LeO.none _
   | refine LeO.ite ?_ ?_
   | refine LeO.bind ?_ (fun _=>?_)
theorem record_Recover.mono:∀ a0 k,LeO (record_Recover.f k a0) (record_Recover.f (k + 1) a0):=by
 intro a0 k
 obtain ⟨Ab,Aa⟩:=record_Recover.mono_l k
 unfold record_Recover.f
 repeat' first
   | (with_reducible exact Ab _ _ _ _ _)
   | (with_reducible exact Aa _ _ _ _ _ _ _)
   | (with_reducible exact record_Decode.mono _ _)
   | (with_reducible exact record_fits.mono _ _ _ _ _ _ _ _)
   | (with_reducible exact record_reader_bytes.mono _ _ _)
   | (with_reducible exact LeO.refl _)
   | (with_reducible exact LeO.none _)
   | (with_reducible refine LeO.ite ?_ ?_)
   | (with_reducible refine LeO.bind ?_ (fun _=>?_))
   | exact Ab _ _ _ _ _
   | exact Aa _ _ _ _ _ _ _
   | exact record_Decode.mono _ _
   | exact record_fits.mono _ _ _ _ _ _ _ _
   | exact record_reader_bytes.mono _ _ _
   | exact LeO.none _
   | refine LeO.ite ?_ ?_
   | refine LeO.bind ?_ (fun _=>?_)
def record_Recover.T13:Bool × List (List Nat × List Nat):=(true,[([],[]),([0],[0]),([1],[1]),([2],[2]),([3,2],[2,3]),([2],[2]),([2],[2]),([5,6,2,2],[2,5,6]),([4,7,2],[2,4,7]),([2,8],[2,8])])
def record_Recover.B13:List Nat:=[0,1,3,7,15,7,7,103,255,511]
theorem record_Recover.tab13:rtab .any (opsOf Tryz.f22 13) = record_Recover.T13:=by kernel_rfl
theorem record_Recover.bits13:waitsOk record_Recover.T13.2 record_Recover.B13 = true:=by kernel_rfl
theorem record_Recover.calls (k:Nat) (a0:ByteArray) (r1:List (S52)) (r2:Int) (w:World) (hL:LaidW w) (h:record_Recover.f k a0 = some (r1,r2)) :
  Calls Tryz.prog 22 #[.string a0] w fun e w'=>∃ v0_:Value,e = .returned (.tuple #[v0_,.int .i64 r2])∧Kd.S k52 52 w' w.heap.size (fun _=>True) v0_ r1∧Below w.heap.size w w':=by
 have Ga:=Tryz.underlying52
 have Gb:=Tryz.underlying26
 have HB:=Aside0.mk (Below.refl w.heap.size w)
 have HLW:=Aside0.mk hL
 clear hL
 have H:=h;clear h;unfold record_Recover.f at H
 obtain ⟨⟨Ey,Ex⟩,A2,H⟩:=bn_ H
 dsimp only at H
 have H':=Aside0.mk H
 clear H
 go_enter Tryz.func22,Tryz.ntmps22
 go_wp2_with (first|((with_reducible refine gate_dst (N:=14) rfl ?_);refine nr_ A2 ?_;intro Bi w3 hi hb Gc;have Aw:=Aside0.mk (hb);have Av:=Aside0.mk (hi);clear HB;have HB:=Aw;have Ab:=Av;clear Aw Av;(try clear hb);(try clear Gc);(try clear hi)))
 go_loopg [4,5] k (fun kq v4 v5 w'=>∃ (Ai:List (S52)) (Bo:Int) (At:ByteArray) (As:Bool),v5 = .int .i64 Bo∧Aside0 (record_Recover.l0 kq a0 Ai Bo At As = some (r1,r2))∧Aside0 (kq≤k)∧Aside0 (Kd.S k52 52 w' w.heap.size (fun _=>True) v4 Ai)∧Aside0 (IsS84 w w' Bi At As)∧Aside0 (Below w.heap.size w w'))
 case atStart=>exact ⟨(([]:List (S52))),(0),(Ey),(Ex),rg_,H',⟨Nat.le_refl _⟩,⟨by first|exact Kd.S_nil _ _ _ _ _|exact Kd.N_nil _ _ _ _ _|exact Kd.V_nil _ _ _ _ _|exact Kd.Q_nil _ _ _ _ _|exact Kd.R_nil _ _ _ _ _⟩,⟨by repeat (first|(with_reducible first|exact Ab.out|apply IsS84.alloc|apply IsS84.drewN|apply IsS84.drew|apply IsS84.set_0|apply IsS84.set_1)|exact Ab.out)⟩,⟨by repeat (first|(with_reducible first|exact HB.out|apply below_alloc|apply pw_below_drewN|apply below_drew1|refine below_set ?_ (IsS84.ge Ab.out))|exact HB.out)⟩⟩
 case round =>
  clear H'
  obtain ⟨Ai,Bo,At,As,rfl,HA,Et,Ad,Ab,HB⟩:=hrel
  cases gk with
  | zero=>exact absurd HA.out (by simp [record_Recover.l0])
  | succ k1 =>
   have H:=HA.out
   clear HA
   simp only [record_Recover.l0] at H
   by_cases c4:(Ai.length:Int) < 1024
   ·rw [if_pos c4] at H
    have Dw:decide ((Ai.length:Int) < 1024) = true:=decide_eq_true c4
    have Dv:decide (Ai.length < 1024) = true:=decide_eq_true (by omega)
    clear c4
    obtain ⟨⟨Bn,Ae,Bm⟩,A5,H⟩:=bn_ H
    dsimp only at H
    have Fg:=Aside0.mk H
    clear H
    obtain ⟨Bz,By,Gd⟩:=Kd.S_slice Ad.out
    subst Gd
    go_upto_region 6 with (first|((with_reducible refine gate_callee (f:=56) rfl ?_);refine gm_ (some 19) Tryz.func56 #[.pointer (some ⟨Bi,0,none⟩)] ?_;(with_reducible refine (record_reader_bytes.calls k1 Bi At As Bn Ae Bm w _ ?side1 ?side2 A5.out).mono ?_);(case side1=>repeat (first|(with_reducible first|exact Ab.out|apply IsS84.alloc|apply IsS84.drewN|apply IsS84.drew|apply IsS84.set_0|apply IsS84.set_1)|exact Ab.out));(case side2=>repeat (first|(with_reducible first|exact HB.out|apply below_alloc|apply pw_below_drewN|apply below_drew1|refine below_set ?_ (IsS84.ge Ab.out))|exact HB.out));rintro e w8 ⟨rfl,hi,hb,hk⟩;refine ⟨_,rfl,?_⟩;have Aw:=Aside0.mk (Kd.S_mono (Kd.S_keep (IsS84.apartS (show IsS84 w _ Bi At As from by repeat (first|(with_reducible first|exact Ab.out|apply IsS84.alloc|apply IsS84.drewN|apply IsS84.drew|apply IsS84.set_0|apply IsS84.set_1)|exact Ab.out)) (by (with_reducible repeat (first|apply Kd.S_alloc|apply Kd.S_drewN|apply Kd.S_drew));exact Ad.out) de_) hk (fun _ h=>h.2)) (fun _ h=>h.1));have Av:=Aside0.mk (hb);have Ba:=Aside0.mk (hi);clear Ad;clear HB;clear Ab;have Ad:=Aw;have HB:=Av;have Ab:=Ba;clear Aw Av Ba;(try clear hb);(try clear hk);(try clear hi)))
    (try simp only [Act.put,List.setIfInBounds_toArray,List.set_cons_zero,List.set_cons_succ])
    go_cut [31] (fun Fz wc=>∃ (kq:Nat) (Bu:Bool),Fz = .bool Bu∧Aside0 (record_Recover.j1 kq a0 Ai Bo Bn Bu Ae Bm = some (r1,r2))∧Aside0 (kq≤k1)∧Aside0 (Kd.S k52 52 wc w.heap.size (fun _=>True) (.slice Bz Ai.length By) Ai)∧Aside0 (IsS84 w wc Bi Ae Bm)∧Aside0 (Below w.heap.size w wc))
    case first =>
     have H:=Fg.out
     clear Fg
     by_cases c9:Bm = true
     ·subst c9
      have H1:(record_Recover.j1 k1 a0 Ai Bo Bn true Ae true) = some (r1,r2):=by rw [if_pos rfl] at H;exact H
      clear H
      have H:=H1
      clear H1
      have H':=Aside0.mk H
      clear H
      obtain ⟨Bc,Ca⟩:=Ab.out
      have Dm:=cellS84_0 Bc
      have Dl:=cellS84_1 Bc
      have Cu:=blk_frozen Bc 0
      have Ct:=blk_frozen Bc 1
      clear Bc Ca
      go_wp2
      go_meet
      case rel=>exact ⟨_,(true),rg_,H',⟨by have:=Et.out;first|omega|exact Nat.le_refl _⟩,⟨by (with_reducible repeat (first|apply Kd.S_alloc|apply Kd.S_drewN|apply Kd.S_drew));exact Ad.out⟩,⟨by repeat (first|(with_reducible first|exact Ab.out|apply IsS84.alloc|apply IsS84.drewN|apply IsS84.drew|apply IsS84.set_0|apply IsS84.set_1)|exact Ab.out)⟩,⟨by repeat (first|(with_reducible first|exact HB.out|apply below_alloc|apply pw_below_drewN|apply below_drew1|refine below_set ?_ (IsS84.ge Ab.out))|exact HB.out)⟩⟩
     ·replace c9:=Bool.eq_false_iff.mpr c9
      subst c9
      have H1:(record_Recover.j1 k1 a0 Ai Bo Bn (decide ((Ae.size:Int) < 32)) Ae false) = some (r1,r2):=by rw [if_neg (show ¬ (false = true) by decide)] at H;exact H
      clear H
      have H:=H1
      clear H1
      have H':=Aside0.mk H
      clear H
      obtain ⟨Bt,Dt⟩:=Ab.out
      have Ep:=cellS84_0 Bt
      have Eo:=cellS84_1 Bt
      have Em:=blk_frozen Bt 0
      have El:=blk_frozen Bt 1
      clear Bt Dt
      go_wp2
      go_meet
      case rel=>exact ⟨_,(decide ((Ae.size:Int) < 32)),rg_,H',⟨by have:=Et.out;first|omega|exact Nat.le_refl _⟩,⟨by (with_reducible repeat (first|apply Kd.S_alloc|apply Kd.S_drewN|apply Kd.S_drew));exact Ad.out⟩,⟨by repeat (first|(with_reducible first|exact Ab.out|apply IsS84.alloc|apply IsS84.drewN|apply IsS84.drew|apply IsS84.set_0|apply IsS84.set_1)|exact Ab.out)⟩,⟨by repeat (first|(with_reducible first|exact HB.out|apply below_alloc|apply pw_below_drewN|apply below_drew1|refine below_set ?_ (IsS84.ge Ab.out))|exact HB.out)⟩⟩
    case rest =>
     clear Fg
     try clear c4
     try clear Dw
     try clear Dv
     obtain ⟨kq,Bu,rfl,HA,Fq,Ad,Ab,HB⟩:=hcut
     cases kq with
     | zero=>exact absurd HA.out (by simp [record_Recover.j1])
     | succ kj5 =>
      have H:=HA.out
      clear HA
      simp only [record_Recover.j1] at H
      by_cases Es:Bu = true
      ·subst Es
       have H1:(some (Ai,Bo)) = some (r1,r2):=by rw [if_pos rfl] at H;exact H
       clear H
       have H:=H1
       clear H1
       simp only [Option.some.injEq,Prod.mk.injEq] at H
       obtain ⟨rfl,rfl⟩:=H
       go_wp2
       go_ret2
       exact ⟨_,rf_,by (with_reducible repeat (first|apply Kd.S_alloc|apply Kd.S_drewN|apply Kd.S_drew));exact Ad.out,by repeat (first|(with_reducible first|exact HB.out|apply below_alloc|apply pw_below_drewN|apply below_drew1|refine below_set ?_ (IsS84.ge Ab.out))|exact HB.out)⟩
      ·replace Es:=Bool.eq_false_iff.mpr Es
       subst Es
       have H1:(if 0≤32 then (if 32≤(Ae.size:Int) then ((record_Decode.f kj5 Bn).bind fun Au=>(if Au.2.2.2.2.2.2 = 0 then ((record_fits.f kj5 Ai Au.1 Au.2.1 Au.2.2.1 Au.2.2.2.1 Au.2.2.2.2.1 Au.2.2.2.2.2.1).bind fun Ef=>(if Ef.2 = 0 then ((record_seal.f Ai Bn).bind fun Bq=>(if (Ae.extract 0 32).toList = Bq.toList then (if Ai.length < 1256584717458 then (record_Recover.l0 kj5 a0 (Ai ++ [(⟨(⟨Au.1,Au.2.1,Au.2.2.1,Au.2.2.2.1,Au.2.2.2.2.1,Au.2.2.2.2.2.1⟩:S26),Ae.extract 0 32⟩:S52)]) (wrap64 ((a0.size:Int) - ((Ae.extract 32 Ae.size).size:Int))) (Ae.extract 32 Ae.size) Bm) else (none)) else (some (Ai,Bo)))) else (some (Ai,Bo)))) else (some (Ai,Bo)))) else (none)) else (none)) = some (r1,r2):=by rw [if_neg (show ¬ (false = true) by decide)] at H;exact H
       clear H
       have H:=H1
       clear H1
       by_cases Ee:0≤32
       ·rw [if_pos Ee] at H
        have Fo:=eq_true Ee
        have Fm:decide (0≤32) = true:=decide_eq_true Ee
        clear Ee
        by_cases Ed:32≤(Ae.size:Int)
        ·rw [if_pos Ed] at H
         have Fl:=eq_true Ed
         have Fk:decide (32≤(Ae.size:Int)) = true:=decide_eq_true Ed
         clear Ed
         have Fj:=eq_true (of_decide_eq_true (by first|(with_reducible assumption)|assumption):32≤(Ae.size:Int))
         obtain ⟨⟨Am,Ap,Aq,Ak,Al,Ao,Bx⟩,Gh,H⟩:=bn_ H
         dsimp only at H
         have Ek:=Aside0.mk H
         clear H
         obtain ⟨Bc,Ca⟩:=Ab.out
         have Dm:=cellS84_0 Bc
         have Dl:=cellS84_1 Bc
         have Cu:=blk_frozen Bc 0
         have Ct:=blk_frozen Bc 1
         clear Bc Ca
         go_wp2_with (first|((with_reducible refine gate_dst (N:=8) rfl ?_);(try (refine gate_guard (by rfl) ?_;dsimp only));refine box_event ?hg (N:=8) ?hd (cs:=#[.int .i64 0,.int .i64 0,.int .i64 0,.slice none 0 0,.slice none 0 0,.slice none 0 0,.string (⟨#[]⟩:ByteArray)]) (t:=52) ?hr ?_;(case hd=>rfl);(case hg=>rfl);(case hr=>first|(go_simp;done)|(go_simp;rfl));intro Aa hg Fu Du hb;have Aw:=Aside0.mk (Kd.S_below (Kd.S_elderB (by (with_reducible repeat (first|apply Kd.S_alloc|apply Kd.S_drewN|apply Kd.S_drew));exact Ad.out) Aa (Nat.le_of_eq hg.symm)) hb);have Av:=Aside0.mk (IsS84.below (by repeat (first|(with_reducible first|exact Ab.out|apply IsS84.alloc|apply IsS84.drewN|apply IsS84.drew|apply IsS84.set_0|apply IsS84.set_1)|exact Ab.out)) hb);have Ba:=Aside0.mk (below_step (by repeat (first|(with_reducible first|exact HB.out|apply below_alloc|apply pw_below_drewN|apply below_drew1|refine below_set ?_ (IsS84.ge Ab.out))|exact HB.out)) hb);have Bh:=Aside0.mk (Du);have Bl:=Aside0.mk ((by rw [hg];exact (below_size (by repeat (first|(with_reducible first|exact HB.out|apply below_alloc|apply pw_below_drewN|apply below_drew1|refine below_set ?_ (IsS84.ge Ab.out))|exact HB.out))):w.heap.size≤Aa));have Bk:=Aside0.mk ((by rw [hg];exact (below_size (by repeat (first|(with_reducible first|exact HB.out|apply below_alloc|apply pw_below_drewN|apply below_drew1|refine below_set ?_ (IsS84.ge Ab.out))|exact HB.out))):w.heap.size≤Aa));have Bj:=Aside0.mk ((by rw [hg];exact Nat.ne_of_lt (IsS84.lt (show IsS84 w _ Bi Ae Bm from by repeat (first|(with_reducible first|exact Ab.out|apply IsS84.alloc|apply IsS84.drewN|apply IsS84.drew|apply IsS84.set_0|apply IsS84.set_1)|exact Ab.out))):Bi≠Aa));have Fi:=Aside0.mk ((by rw [hg];exact Nat.ne_of_gt (IsS84.lt (show IsS84 w _ Bi Ae Bm from by repeat (first|(with_reducible first|exact Ab.out|apply IsS84.alloc|apply IsS84.drewN|apply IsS84.drew|apply IsS84.set_0|apply IsS84.set_1)|exact Ab.out))):Aa≠Bi));clear Ad;clear Ab;clear HB;have Ad:=Aw;have Ab:=Av;have HB:=Ba;have Ac:=Bh;have Bg:=Bl;have Bg:=Bk;have Aj:=Bj;have Bp:=Fi;clear Aw Av Ba Bh Bl Bk Bj Fi;clear hb Du hg;have Dr:=Bp.out;have Dq:=Aj.out;obtain ⟨Dk,Dj,Di,Dh,Dg,Df,De,Cs,Cr,Cq,Cp,Co,Cn,Cm⟩:=c7_ Ac;obtain ⟨Br,Ds⟩:=Ab.out;have Dd:=cellS84_0 Br;have Dc:=cellS84_1 Br;have Cl:=blk_frozen Br 0;have Ck:=blk_frozen Br 1;clear Br Ds))
         go_at_call 15
         clear Dk Dj Di Dh Dg Df De Cs Cr Cq Cp Co Cn Cm Dd Dc Cl Ck Dr Dq
         generalize Bv:((((((((Fu.setCell ⟨Aa,0,none⟩ (.int .i64 0)).setCell ⟨Aa,1,none⟩ (.int .i64 0)).setCell ⟨Aa,2,none⟩ (.int .i64 0)).setCell ⟨Aa,3,none⟩ (.slice none 0 0)).setCell ⟨Aa,4,none⟩ (.slice none 0 0)).setCell ⟨Aa,5,none⟩ (.slice none 0 0)).setCell ⟨Aa,6,none⟩ (.string (Ae.extract 0 32))).setCell ⟨Bi,0,none⟩ (.string (Ae.extract 32 Ae.size))) = W2
         have Aw:Aside0 (Kd.S k52 52 W2 w.heap.size (fun k_=>True∧k_≠Aa) (.slice Bz Ai.length By) Ai):=by
          rw [← Bv]
          exact ⟨Kd.S_mono (Kd.S_far (p:=⟨Bi,0,none⟩) (Kd.S_far (p:=⟨Aa,6,none⟩) (Kd.S_far (p:=⟨Aa,5,none⟩) (Kd.S_far (p:=⟨Aa,4,none⟩) (Kd.S_far (p:=⟨Aa,3,none⟩) (Kd.S_far (p:=⟨Aa,2,none⟩) (Kd.S_far (p:=⟨Aa,1,none⟩) (Kd.S_far (p:=⟨Aa,0,none⟩) (IsS84.apartS Ab.out (Kd.S_mono Ad.out (fun k_ hk=>(⟨hk,hk.2⟩:_∧k_≠Aa))) de_) (fun _ hk=>hk.1.2) (.int .i64 0)) (fun _ hk=>hk.1.2) (.int .i64 0)) (fun _ hk=>hk.1.2) (.int .i64 0)) (fun _ hk=>hk.1.2) (.slice none 0 0)) (fun _ hk=>hk.1.2) (.slice none 0 0)) (fun _ hk=>hk.1.2) (.slice none 0 0)) (fun _ hk=>hk.1.2) (.string (Ae.extract 0 32))) (fun _ hk=>hk.2) (.string (Ae.extract 32 Ae.size))) (fun _ h_=>h_.1.1)⟩
         have Av:Aside0 (IsS84 w W2 Bi (Ae.extract 32 Ae.size) Bm):=by
          rw [← Bv]
          refine ⟨IsS84.set_0 (f0:=Ae) ?_ _⟩
          iterate 7 refine IsS84.far ?_ Aj.out _
          exact Ab.out
         have Ba:Aside0 (Below w.heap.size w W2):=by
          rw [← Bv]
          refine ⟨below_set ?_ (IsS84.ge Ab.out)⟩
          iterate 7 refine below_set ?_ Bg.out
          exact HB.out
         have Bh:Aside0 (W2.heap[Aa]? = some (.cells #[.int .i64 0,.int .i64 0,.int .i64 0,.slice none 0 0,.slice none 0 0,.slice none 0 0,.string (Ae.extract 0 32)] 52 (0,0))):=by
          rw [← Bv]
          refine ⟨blk_far ?_ Bp.out _⟩
          refine blk_put (cs:=#[.int .i64 0,.int .i64 0,.int .i64 0,.slice none 0 0,.slice none 0 0,.slice none 0 0,.string (⟨#[]⟩:ByteArray)]) ?_ 6 _ rfl
          refine blk_put (cs:=#[.int .i64 0,.int .i64 0,.int .i64 0,.slice none 0 0,.slice none 0 0,.slice none 0 0,.string (⟨#[]⟩:ByteArray)]) ?_ 5 _ rfl
          refine blk_put (cs:=#[.int .i64 0,.int .i64 0,.int .i64 0,.slice none 0 0,.slice none 0 0,.slice none 0 0,.string (⟨#[]⟩:ByteArray)]) ?_ 4 _ rfl
          refine blk_put (cs:=#[.int .i64 0,.int .i64 0,.int .i64 0,.slice none 0 0,.slice none 0 0,.slice none 0 0,.string (⟨#[]⟩:ByteArray)]) ?_ 3 _ rfl
          refine blk_put (cs:=#[.int .i64 0,.int .i64 0,.int .i64 0,.slice none 0 0,.slice none 0 0,.slice none 0 0,.string (⟨#[]⟩:ByteArray)]) ?_ 2 _ rfl
          refine blk_put (cs:=#[.int .i64 0,.int .i64 0,.int .i64 0,.slice none 0 0,.slice none 0 0,.slice none 0 0,.string (⟨#[]⟩:ByteArray)]) ?_ 1 _ rfl
          refine blk_put (cs:=#[.int .i64 0,.int .i64 0,.int .i64 0,.slice none 0 0,.slice none 0 0,.slice none 0 0,.string (⟨#[]⟩:ByteArray)]) ?_ 0 _ rfl
          exact Ac.out
         clear Bv Ad Ab HB Ac
         have Ad:=Aw
         have Ab:=Av
         have HB:=Ba
         have Ac:=Bh
         clear Aw Av Ba Bh
         (with_reducible refine (record_Decode.calls kj5 Bn Am Ap Aq Ak Al Ao Bx _ ?side1 Gh.out).mono ?_)
         case side1=>exact HLW.out.below HB.out
         rintro e Ft ⟨Fy,Fx,Fw,rfl,Fb,Fa,Ez,hb⟩
         have Aw:=Aside0.mk (Kd.S_mono (Kd.S_told (Kd.S_told (Kd.S_told (Kd.S_old Ad.out hb) (Kd.R_base Fb)) (Kd.R_base Fa)) (Kd.R_base Ez)) (fun _ h_=>h_.1))
         have Av:=Aside0.mk (Kd.R_lower Fb (below_size HB.out))
         have Ba:=Aside0.mk (Kd.R_lower Fa (below_size HB.out))
         have Bh:=Aside0.mk (Kd.R_lower Ez (below_size HB.out))
         have Bl:=Aside0.mk (IsS84.below Ab.out hb)
         have Bk:=Aside0.mk (blk_below Ac.out hb)
         have Bj:=Aside0.mk (below_step HB.out hb)
         clear Ad Ab Ac HB
         have Ad:=Aw
         have Ah:=Av
         have Ag:=Ba
         have Af:=Bh
         have Ab:=Bl
         have Ac:=Bk
         have HB:=Bj
         clear Aw Av Ba Bh Bl Bk Bj hb Fb Fa Ez
         have H:=Ek.out
         clear Ek
         obtain ⟨Db,Da,Cz,Cy,Cx,Cw,Cv,Cj,Ci,Ch,Cg,Cf,Ce,Cc⟩:=c7_ Ac
         obtain ⟨Ay,Ax,Ff⟩:=Kd.R_slice Ah.out
         subst Ff
         obtain ⟨Bd,Bb,Fe⟩:=Kd.R_slice Ag.out
         subst Fe
         obtain ⟨Bf,Be,Fd⟩:=Kd.R_slice Af.out
         subst Fd
         by_cases Dp:Bx = 0
         ·rw [if_pos Dp] at H
          have Ec:(Bx == 0) = true:=beq_iff_eq.mpr Dp
          have Eb:(Bx != 0) = false:=bne_eq_false_iff_eq.mpr Dp
          clear Dp
          obtain ⟨⟨Ew,Bw⟩,Gg,H⟩:=bn_ H
          dsimp only at H
          have Ej:=Aside0.mk H
          clear H
          go_wp2_with fail
          go_at_call 60
          clear Db Da Cz Cy Cx Cw Cv Cj Ci Ch Cg Cf Ce Cc
          generalize Bv:((((((Ft.setCell ⟨Aa,0,none⟩ (.int .i64 Am)).setCell ⟨Aa,1,none⟩ (.int .i64 Ap)).setCell ⟨Aa,2,none⟩ (.int .i64 Aq)).setCell ⟨Aa,3,none⟩ (.slice Ay Ak.length Ax)).setCell ⟨Aa,4,none⟩ (.slice Bd Al.length Bb)).setCell ⟨Aa,5,none⟩ (.slice Bf Ao.length Be)) = W3
          have Aw:Aside0 (Kd.S k52 52 W3 w.heap.size (fun k_=>((((True∧k_≠Aa)∧some k_≠(.slice Ay Ak.length Ax:Value).ownBlock)∧some k_≠(.slice Bd Al.length Bb:Value).ownBlock)∧some k_≠(.slice Bf Ao.length Be:Value).ownBlock)) (.slice Bz Ai.length By) Ai):=by
           rw [← Bv]
           exact ⟨Kd.S_mono (Kd.S_far (p:=⟨Aa,5,none⟩) (Kd.S_far (p:=⟨Aa,4,none⟩) (Kd.S_far (p:=⟨Aa,3,none⟩) (Kd.S_far (p:=⟨Aa,2,none⟩) (Kd.S_far (p:=⟨Aa,1,none⟩) (Kd.S_far (p:=⟨Aa,0,none⟩) (Kd.S_mono Ad.out (fun k_ hk=>(⟨hk,hk.1.1.1.2⟩:_∧k_≠Aa))) (fun _ hk=>hk.2) (.int .i64 Am)) (fun _ hk=>hk.2) (.int .i64 Ap)) (fun _ hk=>hk.2) (.int .i64 Aq)) (fun _ hk=>hk.2) (.slice Ay Ak.length Ax)) (fun _ hk=>hk.2) (.slice Bd Al.length Bb)) (fun _ hk=>hk.2) (.slice Bf Ao.length Be)) (fun _ h_=>h_.1)⟩
          have Av:Aside0 (Kd.R (Kd.int .i64) 3 W3 w.heap.size (fun _=>True) (.slice Ay Ak.length Ax) Ak):=by
           rw [← Bv]
           exact ⟨Kd.R_mono (Kd.R_far (p:=⟨Aa,5,none⟩) (Kd.R_far (p:=⟨Aa,4,none⟩) (Kd.R_far (p:=⟨Aa,3,none⟩) (Kd.R_far (p:=⟨Aa,2,none⟩) (Kd.R_far (p:=⟨Aa,1,none⟩) (Kd.R_far (p:=⟨Aa,0,none⟩) (Kd.R_types Ah.out Ac.out de_) (fun _ hk=>hk.2) (.int .i64 Am)) (fun _ hk=>hk.2) (.int .i64 Ap)) (fun _ hk=>hk.2) (.int .i64 Aq)) (fun _ hk=>hk.2) (.slice Ay Ak.length Ax)) (fun _ hk=>hk.2) (.slice Bd Al.length Bb)) (fun _ hk=>hk.2) (.slice Bf Ao.length Be)) (fun _ h_=>h_.1)⟩
          have Ba:Aside0 (Kd.R Kd.string 65 W3 w.heap.size (fun _=>True) (.slice Bd Al.length Bb) Al):=by
           rw [← Bv]
           exact ⟨Kd.R_mono (Kd.R_far (p:=⟨Aa,5,none⟩) (Kd.R_far (p:=⟨Aa,4,none⟩) (Kd.R_far (p:=⟨Aa,3,none⟩) (Kd.R_far (p:=⟨Aa,2,none⟩) (Kd.R_far (p:=⟨Aa,1,none⟩) (Kd.R_far (p:=⟨Aa,0,none⟩) (Kd.R_types Ag.out Ac.out de_) (fun _ hk=>hk.2) (.int .i64 Am)) (fun _ hk=>hk.2) (.int .i64 Ap)) (fun _ hk=>hk.2) (.int .i64 Aq)) (fun _ hk=>hk.2) (.slice Ay Ak.length Ax)) (fun _ hk=>hk.2) (.slice Bd Al.length Bb)) (fun _ hk=>hk.2) (.slice Bf Ao.length Be)) (fun _ h_=>h_.1)⟩
          have Bh:Aside0 (Kd.R Kd.string 9 W3 w.heap.size (fun _=>True) (.slice Bf Ao.length Be) Ao):=by
           rw [← Bv]
           exact ⟨Kd.R_mono (Kd.R_far (p:=⟨Aa,5,none⟩) (Kd.R_far (p:=⟨Aa,4,none⟩) (Kd.R_far (p:=⟨Aa,3,none⟩) (Kd.R_far (p:=⟨Aa,2,none⟩) (Kd.R_far (p:=⟨Aa,1,none⟩) (Kd.R_far (p:=⟨Aa,0,none⟩) (Kd.R_types Af.out Ac.out de_) (fun _ hk=>hk.2) (.int .i64 Am)) (fun _ hk=>hk.2) (.int .i64 Ap)) (fun _ hk=>hk.2) (.int .i64 Aq)) (fun _ hk=>hk.2) (.slice Ay Ak.length Ax)) (fun _ hk=>hk.2) (.slice Bd Al.length Bb)) (fun _ hk=>hk.2) (.slice Bf Ao.length Be)) (fun _ h_=>h_.1)⟩
          have Bl:Aside0 (IsS84 w W3 Bi (Ae.extract 32 Ae.size) Bm):=by
           rw [← Bv]
           refine ⟨IsS84.far ?_ Aj.out _⟩
           iterate 5 refine IsS84.far ?_ Aj.out _
           exact Ab.out
          have Bk:Aside0 (W3.heap[Aa]? = some (.cells #[.int .i64 Am,.int .i64 Ap,.int .i64 Aq,.slice Ay Ak.length Ax,.slice Bd Al.length Bb,.slice Bf Ao.length Be,.string (Ae.extract 0 32)] 52 (0,0))):=by
           rw [← Bv]
           refine ⟨blk_put (cs:=#[.int .i64 Am,.int .i64 Ap,.int .i64 Aq,.slice Ay Ak.length Ax,.slice Bd Al.length Bb,.slice none 0 0,.string (Ae.extract 0 32)]) ?_ 5 _ rfl⟩
           refine blk_put (cs:=#[.int .i64 Am,.int .i64 Ap,.int .i64 Aq,.slice Ay Ak.length Ax,.slice none 0 0,.slice none 0 0,.string (Ae.extract 0 32)]) ?_ 4 _ rfl
           refine blk_put (cs:=#[.int .i64 Am,.int .i64 Ap,.int .i64 Aq,.slice none 0 0,.slice none 0 0,.slice none 0 0,.string (Ae.extract 0 32)]) ?_ 3 _ rfl
           refine blk_put (cs:=#[.int .i64 Am,.int .i64 Ap,.int .i64 0,.slice none 0 0,.slice none 0 0,.slice none 0 0,.string (Ae.extract 0 32)]) ?_ 2 _ rfl
           refine blk_put (cs:=#[.int .i64 Am,.int .i64 0,.int .i64 0,.slice none 0 0,.slice none 0 0,.slice none 0 0,.string (Ae.extract 0 32)]) ?_ 1 _ rfl
           refine blk_put (cs:=#[.int .i64 0,.int .i64 0,.int .i64 0,.slice none 0 0,.slice none 0 0,.slice none 0 0,.string (Ae.extract 0 32)]) ?_ 0 _ rfl
           exact Ac.out
          have Bj:Aside0 (Below w.heap.size w W3):=by
           rw [← Bv]
           refine ⟨below_set ?_ Bg.out⟩
           iterate 5 refine below_set ?_ Bg.out
           exact HB.out
          clear Bv Ad Ah Ag Af Ab Ac HB
          have Ad:=Aw
          have Ah:=Av
          have Ag:=Ba
          have Af:=Bh
          have Ab:=Bl
          have Ac:=Bk
          have HB:=Bj
          clear Aw Av Ba Bh Bl Bk Bj
          (with_reducible refine (record_fits.calls kj5 _ _ Ai Am Ap Aq _ _ Ak _ _ Al _ _ Ao Ew Bw _ ?side1 ?side2 ?side3 ?side4 ?side5 ?side6 ?side7 ?side8 ?side9 Gg.out).mono ?_)
          case side1=>exact (Kd.S_reads' Ad.out).2.2
          case side2=>exact (Kd.S_reads' Ad.out).2.1
          case side3=>exact (Kd.R_reads' Ah.out).2.2
          case side4=>exact (Kd.R_reads' Ah.out).2.1
          case side5=>exact (Kd.R_reads' Ag.out).2.2
          case side6=>exact (Kd.R_reads' Ag.out).2.1
          case side7=>exact (Kd.R_reads' Af.out).2.2
          case side8=>exact (Kd.R_reads' Af.out).2.1
          case side9=>exact HLW.out.below HB.out
          rintro e Eu ⟨rfl,hb⟩
          have Aw:=Aside0.mk (Kd.S_below Ad.out hb)
          have Av:=Aside0.mk (Kd.R_below Ah.out hb)
          have Ba:=Aside0.mk (Kd.R_below Ag.out hb)
          have Bh:=Aside0.mk (Kd.R_below Af.out hb)
          have Bl:=Aside0.mk (IsS84.below Ab.out hb)
          have Bk:=Aside0.mk (blk_below Ac.out hb)
          have Bj:=Aside0.mk (below_step HB.out hb)
          clear Ad Ah Ag Af Ab Ac HB
          have Ad:=Aw
          have Ah:=Av
          have Ag:=Ba
          have Af:=Bh
          have Ab:=Bl
          have Ac:=Bk
          have HB:=Bj
          clear Aw Av Ba Bh Bl Bk Bj hb
          have H:=Ej.out
          clear Ej
          by_cases Do:Bw = 0
          ·rw [if_pos Do] at H
           have Ea:(Bw == 0) = true:=beq_iff_eq.mpr Do
           have Dz:(Bw != 0) = false:=bne_eq_false_iff_eq.mpr Do
           clear Do
           obtain ⟨Bq,Fr,H⟩:=bn_ H
           by_cases Dn:(Ae.extract 0 32).toList = Bq.toList
           ·rw [if_pos Dn] at H
            have Dy:((Ae.extract 0 32).toList == Bq.toList) = true:=beq_iff_eq.mpr Dn
            have Dx:((Ae.extract 0 32).toList != Bq.toList) = false:=bne_eq_false_iff_eq.mpr Dn
            clear Dn
            by_cases Er:Ai.length < 1256584717458
            ·rw [if_pos Er] at H
             have Eh:=Aside0.mk Er
             clear Er
             obtain ⟨y324,hy324⟩:∃ y_:List (S52),y_ = (Ai ++ [(⟨(⟨Am,Ap,Aq,Ak,Al,Ao⟩:S26),Ae.extract 0 32⟩:S52)]):=⟨_,rfl⟩
             replace H:(record_Recover.l0 kj5 a0 y324 (wrap64 ((a0.size:Int) - ((Ae.extract 32 Ae.size).size:Int))) (Ae.extract 32 Ae.size) Bm) = some (r1,r2):=by first|(rw [hy324];with_reducible exact H)|(have Fh:=(Option.bind_some _ _).symm.trans H;rw [hy324];with_reducible exact Fh)|(have Fh:=(Option.bind_some _ _).symm.trans H;with_reducible exact Fh)|with_reducible exact H|(rw [hy324];exact H)|exact H
             have Eg:=Aside0.mk hy324
             clear hy324
             have H':=Aside0.mk H
             clear H
             try go_wp2
             have Aw:=Aside0.mk (Kd.S_drew Ad.out)
             have Av:=Aside0.mk (Kd.R_drew Ah.out)
             have Ba:=Aside0.mk (Kd.R_drew Ag.out)
             have Bh:=Aside0.mk (Kd.R_drew Af.out)
             have Bl:=Aside0.mk (blk_drew Ac.out)
             have Bk:=Aside0.mk (IsS84.drew Ab.out)
             have Bj:=Aside0.mk (below_drew1 HB.out)
             clear Ad
             clear Ah
             clear Ag
             clear Af
             clear Ac
             clear Ab
             clear HB
             have Ad:=Aw
             have Ah:=Av
             have Ag:=Ba
             have Af:=Bh
             have Ac:=Bl
             have Ab:=Bk
             have HB:=Bj
             clear Aw Av Ba Bh Bl Bk Bj
             refine start_ (n:=10) (S:=fun w'=>w'.cell? ⟨Aa,0,none⟩ = some (.int .i64 Am)∧w'.cell? ⟨Aa,1,none⟩ = some (.int .i64 Ap)∧w'.cell? ⟨Aa,2,none⟩ = some (.int .i64 Aq)∧w'.cell? ⟨Aa,3,none⟩ = some (.slice Ay Ak.length Ax)∧w'.cell? ⟨Aa,4,none⟩ = some (.slice Bd Al.length Bb)∧w'.cell? ⟨Aa,5,none⟩ = some (.slice Bf Ao.length Be)∧w'.cell? ⟨Aa,6,none⟩ = some (.string (Ae.extract 0 32))) (ds:=[]) #[false,false,false,false,false,false,false,false,false,false] kr_ rfl rfl hc_ (fun An=>?_);refine with_tabW record_Recover.tab13 record_Recover.bits13 (fun Cb Fp=>?_)
             generalize Eu.drew = Gn at Ad Ah Ag Af Ac Ab HB An ⊢
             refine pu_ 0 (some 61) (tt_ 10 1) ?_
             refine pu_ 1 (some 62) (tt_ 10 3) ?_
             refine pu_ 2 (some 63) (tt_ 10 7) ?_
             refine pu_ 3 (some 64) (tt_ 10 15) ?_
             refine pu_ 5 (some 66) (tt_ 10 47) ?_
             refine pu_ 6 (some 67) (tt_ 10 111) ?_
             refine tk_ 4 (some 65) (tt_ 10 127) An ?_
             refine oc_ 7 (some 68) (tt_ 10 255) Tryz.func61 #[.slice Bz Ai.length By,.string Bn] (fun K hK=>?_)
             with_reducible refine (record_seal.calls _ _ Ai Bn Bq _ ?side1 ?side2 Fr.out).mono ?_
             (case side1=>exact cx_ ((Kd.S_reads' Ad.out).2.2))
             (case side2=>exact (Kd.S_reads' Ad.out).2.1)
             rintro e Fs ⟨rfl,hb⟩
             refine ⟨_,rfl,?_⟩
             have Aw:=Aside0.mk (Kd.S_below (by (with_reducible repeat (first|apply Kd.S_alloc|apply Kd.S_drewN|apply Kd.S_drew));exact Ad.out) hb)
             have Av:=Aside0.mk (Kd.R_below (by (with_reducible repeat (first|apply Kd.R_alloc|apply Kd.R_drewN|apply Kd.R_drew));exact Ah.out) hb)
             have Ba:=Aside0.mk (Kd.R_below (by (with_reducible repeat (first|apply Kd.R_alloc|apply Kd.R_drewN|apply Kd.R_drew));exact Ag.out) hb)
             have Bh:=Aside0.mk (Kd.R_below (by (with_reducible repeat (first|apply Kd.R_alloc|apply Kd.R_drewN|apply Kd.R_drew));exact Af.out) hb)
             have Bl:=Aside0.mk (IsS84.below (by repeat (first|(with_reducible first|exact Ab.out|apply IsS84.alloc|apply IsS84.drewN|apply IsS84.drew|apply IsS84.set_0|apply IsS84.set_1|refine IsS84.far ?_ Aj.out _)|exact Ab.out)) hb)
             have Bk:=Aside0.mk (blk_below (g:=Aa) (o:=.cells #[.int .i64 Am,.int .i64 Ap,.int .i64 Aq,.slice Ay Ak.length Ax,.slice Bd Al.length Bb,.slice Bf Ao.length Be,.string (Ae.extract 0 32)] 52 (0,0)) (by (with_reducible repeat (first|refine blk_drewN ?_ _|refine blk_drew ?_|refine blk_alloc ?_ _));exact Ac.out) hb)
             have Bj:=Aside0.mk (below_step (by repeat (first|(with_reducible first|exact HB.out|apply below_alloc|apply pw_below_drewN|apply below_drew1|refine below_set ?_ (IsS84.ge Ab.out)|refine below_set ?_ Bg.out)|exact HB.out)) hb)
             clear Ad
             clear Ah
             clear Ag
             clear Af
             clear Ab
             clear Ac
             clear HB
             have Ad:=Aw
             have Ah:=Av
             have Ag:=Ba
             have Af:=Bh
             have Ab:=Bl
             have Ac:=Bk
             have HB:=Bj
             clear Aw Av Ba Bh Bl Bk Bj
             (try clear hb)
             refine hk_ hK (fun An=>?_);clear hK K
             refine pu_ 8 (some 69) (tt_ 10 511) ?_
             refine pu_ 9 (some 70) (tt_ 10 1023) ?_
             refine done_ (done_of Cb.out kr_) ?_
             try go_wp2
             replace Ad:=Aside0.mk (Kd.S_drew Ad.out)
             replace Ah:=Aside0.mk (Kd.R_drew Ah.out)
             replace Ag:=Aside0.mk (Kd.R_drew Ag.out)
             replace Af:=Aside0.mk (Kd.R_drew Af.out)
             replace Ac:=dr_ Ac
             replace Ab:=Aside0.mk (IsS84.drew Ab.out)
             replace HB:=db_ HB
             have BKr:=Aside0.mk Ab.out.1
             refine start_ (n:=14) (S:=fun w'=>w'.cell? ⟨Aa,0,none⟩ = some (.int .i64 Am)∧w'.cell? ⟨Aa,1,none⟩ = some (.int .i64 Ap)∧w'.cell? ⟨Aa,2,none⟩ = some (.int .i64 Aq)∧w'.cell? ⟨Aa,3,none⟩ = some (.slice Ay Ak.length Ax)∧w'.cell? ⟨Aa,4,none⟩ = some (.slice Bd Al.length Bb)∧w'.cell? ⟨Aa,5,none⟩ = some (.slice Bf Ao.length Be)∧w'.cell? ⟨Aa,6,none⟩ = some (.string (Ae.extract 0 32))∧w'.cell? ⟨Bi,0,none⟩ = some (.string (Ae.extract 32 Ae.size))) (ds:=[]) #[false,false,false,false,false,false,false,false,false,false,false,false,false,false] kr_ rfl rfl hc_ (fun An=>?_)
             generalize Fs.drew = Gm at Ad Ah Ag Af Ac BKr Ab HB An ⊢
             refine pu_ 0 (some 71) (tt_ 14 1) ?_
             refine pu_ 4 (some 75) (tt_ 14 17) ?_
             refine pu_ 5 (some 76) (tt_ 14 49) ?_
             refine pu_ 6 (some 77) (tt_ 14 113) ?_
             refine pu_ 7 (some 78) (tt_ 14 241) ?_
             refine pu_ 8 (some 79) (tt_ 14 497) ?_
             refine tk_ 1 (some 72) (tt_ 14 499) An ?_
             refine tk_ 9 (some 80) (tt_ 14 1011) An ?_
             refine pu_ 10 (some 81) (tt_ 14 2035) ?_
             refine pu_ 11 (some 82) (tt_ 14 4083) ?_
             refine one_ (i:=2) (N:=some 73) #[true,true,true,false,true,true,true,true,true,true,true,true,false,false] rfl rfl kr_ (by decide) (fun K hK=>?_)
             refine value_ (w1:=?_) (v:=?_) (by rfl) rfl ?_ ?_
             rotate_left 2
             ·go_simp
              constructor
              ·rfl
              ·rfl
             refine hK.out _ _ ⟨(blk_cell (blk_alloc Ac.out _) 0).trans rfl,(blk_cell (blk_alloc Ac.out _) 1).trans rfl,(blk_cell (blk_alloc Ac.out _) 2).trans rfl,(blk_cell (blk_alloc Ac.out _) 3).trans rfl,(blk_cell (blk_alloc Ac.out _) 4).trans rfl,(blk_cell (blk_alloc Ac.out _) 5).trans rfl,(blk_cell (blk_alloc Ac.out _) 6).trans rfl,(blk_cell (blk_alloc BKr.out _) 0).trans rfl⟩ (fun An=>?_)
             clear hK K
             refine norm_ (a':=?_) ?_ ?_
             rotate_left
             ·show Act.put _ (some 73) _ = _
              simp only [Act.put,List.setIfInBounds_toArray,List.set_cons_zero,List.set_cons_succ,i64_w,i32_w]
              rfl
             refine one_ (i:=3) (N:=some 74) #[true,true,true,true,true,true,true,true,true,true,true,true,false,false] rfl rfl kr_ (by decide) (fun K hK=>?_)
             refine Kd.S_append_step k52 (w0:=w) w.heap.size (by rfl) (.tmp 71) (.tmp 73) 37 52 (.agg #[(.int .i64 0),(.int .i64 0),(.int .i64 0),(.slice none 0 0),(.slice none 0 0),(.slice none 0 0),(.string ⟨#[]⟩)]) 112 rfl Tryz.underlying37 info52 rfl de_ (by omega) (.slice Bz Ai.length By) Ai (⟨(⟨Am,Ap,Aq,Ak,Al,Ao⟩:S26),Ae.extract 0 32⟩:S52) [.int .i64 Am,.int .i64 Ap,.int .i64 Aq,.slice Ay Ak.length Ax,.slice Bd Al.length Bb,.slice Bf Ao.length Be,.string (Ae.extract 0 32)] (fun k_=>k_≠Aa) (fun k_=>some k_ = (.slice Ay Ak.length Ax:Value).ownBlock ∨ some k_ = (.slice Bd Al.length Bb:Value).ownBlock ∨ some k_ = (.slice Bf Ao.length Be:Value).ownBlock) rfl rfl ?aP (fun k_ hk_=>hk_.elim (fun h_=>((Kd.R_mono (ok':=fun k_=>((fun k_=>k_≠Aa)) k_∧some k_≠(.slice Bz Ai.length By:Value).ownBlock) (Kd.R_types (Kd.R_apart' (Ah.out) (Kd.S_typed Ad.out) de_) Ac.out de_) (fun k_ hk=>⟨hk.2,hk.1.2⟩))).1 k_ h_.symm) (fun h_=>h_.elim (fun h_=>((Kd.R_mono (ok':=fun k_=>((fun k_=>k_≠Aa)) k_∧some k_≠(.slice Bz Ai.length By:Value).ownBlock) (Kd.R_types (Kd.R_apart' (Ag.out) (Kd.S_typed Ad.out) de_) Ac.out de_) (fun k_ hk=>⟨hk.2,hk.1.2⟩))).1 k_ h_.symm) (fun h_=>((Kd.R_mono (ok':=fun k_=>((fun k_=>k_≠Aa)) k_∧some k_≠(.slice Bz Ai.length By:Value).ownBlock) (Kd.R_types (Kd.R_apart' (Af.out) (Kd.S_typed Ad.out) de_) Ac.out de_) (fun k_ hk=>⟨hk.2,hk.1.2⟩))).1 k_ h_.symm))) ?aF ?aO ?aB ?aS ?aL ?_
             case aP=>exact k52_mkM _ _ _ (⟨(⟨Am,Ap,Aq,Ak,Al,Ao⟩:S26),Ae.extract 0 32⟩:S52) (Kd.R_mono (Kd.R_tight rfl (Kd.R_mono (ok':=fun k_=>((fun k_=>k_≠Aa)) k_∧some k_≠(.slice Bz Ai.length By:Value).ownBlock) (Kd.R_types (Kd.R_apart' (Ah.out) (Kd.S_typed Ad.out) de_) Ac.out de_) (fun k_ hk=>⟨hk.2,hk.1.2⟩))) (fun _ h_=>Or.inl h_)) (Kd.R_mono (Kd.R_tight rfl (Kd.R_mono (ok':=fun k_=>((fun k_=>k_≠Aa)) k_∧some k_≠(.slice Bz Ai.length By:Value).ownBlock) (Kd.R_types (Kd.R_apart' (Ag.out) (Kd.S_typed Ad.out) de_) Ac.out de_) (fun k_ hk=>⟨hk.2,hk.1.2⟩))) (fun _ h_=>Or.inr (Or.inl h_))) (Kd.R_mono (Kd.R_tight rfl (Kd.R_mono (ok':=fun k_=>((fun k_=>k_≠Aa)) k_∧some k_≠(.slice Bz Ai.length By:Value).ownBlock) (Kd.R_types (Kd.R_apart' (Af.out) (Kd.S_typed Ad.out) de_) Ac.out de_) (fun k_ hk=>⟨hk.2,hk.1.2⟩))) (fun _ h_=>Or.inr (Or.inr (h_))))
             case aB=>exact HB.out
             case aF=>exact (fun k_ hk=>Kd.freshB Ac.out k_ hk)
             case aO=>exact Kd.S_mono Ad.out (fun k_ hk=>⟨hk.1.1.1.2,fun e_=>e_.elim (fun h_=>hk.1.1.2 h_) (fun h_=>h_.elim (fun h_=>hk.1.2 h_) (fun h_=>hk.2 h_))⟩)
             case aS=>exact (below_size HB.out)
             case aL=>have:=Eh.out;omega
             intro Fv Gl ho hb hg hat
             rw [← Eg.out] at ho
             have Aw:=Aside0.mk (IsS84.grown Ab.out hg (IsS84.own_neS Ab.out Ad.out de_))
             have Av:=Aside0.mk (blk_grown Ac.out hg (Kd.S_away Ad.out (fun _ hk=>hk.1.1.1.2)))
             have Ba:=Aside0.mk (hb)
             have Ei:=Aside0.mk (ho)
             clear Ab Ac BKr HB Ad Ah Ag Af
             have Ab:=Aw
             have Ac:=Av
             have HB:=Ba
             clear Aw Av Ba ho hb hg hat
             have BKr:=Aside0.mk Ab.out.1
             refine hK.out _ _ ⟨(blk_cell Ac.out 0).trans rfl,(blk_cell Ac.out 1).trans rfl,(blk_cell Ac.out 2).trans rfl,(blk_cell Ac.out 3).trans rfl,(blk_cell Ac.out 4).trans rfl,(blk_cell Ac.out 5).trans rfl,(blk_cell Ac.out 6).trans rfl,(blk_cell BKr.out 0).trans rfl⟩ (fun An=>?_)
             clear hK K
             refine norm_ (a':=?_) ?_ ?_
             rotate_left
             ·show Act.put _ (some 74) _ = _
              simp only [Act.put,List.setIfInBounds_toArray,List.set_cons_zero,List.set_cons_succ,i64_w,i32_w]
              rfl
             refine pu_ 12 (some 4) (tt_ 14 8191) ?_
             refine pu_ 13 (some 5) (tt_ 14 16383) ?_
             refine done_ kr_ ?_
             go_wp2
             go_roundg kj5
             case measure=>have:=Et.out;have:=Fq.out;omega
             case rel=>exact ⟨(y324),(wrap64 ((a0.size:Int) - ((Ae.extract 32 Ae.size).size:Int))),(Ae.extract 32 Ae.size),(Bm),rg_,H',⟨by have:=Et.out;have:=Fq.out;omega⟩,⟨by (with_reducible repeat (first|apply Kd.S_alloc|apply Kd.S_drewN|apply Kd.S_drew));exact Kd.S_mono Ei.out (fun _ hk=>trivial)⟩,⟨by repeat (first|(with_reducible first|exact Ab.out|apply IsS84.alloc|apply IsS84.drewN|apply IsS84.drew|apply IsS84.set_0|apply IsS84.set_1|refine IsS84.far ?_ Aj.out _)|exact Ab.out)⟩,⟨by repeat (first|(with_reducible first|exact HB.out|apply below_alloc|apply pw_below_drewN|apply below_drew1|refine below_set ?_ (IsS84.ge Ab.out)|refine below_set ?_ Bg.out)|exact HB.out)⟩⟩
            ·rw [if_neg Er] at H
             exact absurd H sm_
           ·rw [if_neg Dn] at H
            have Dy:((Ae.extract 0 32).toList == Bq.toList) = false:=beq_eq_false_iff_ne.mpr Dn
            have Dx:((Ae.extract 0 32).toList != Bq.toList) = true:=bne_iff_ne.mpr Dn
            simp only [Option.some.injEq,Prod.mk.injEq] at H
            obtain ⟨rfl,rfl⟩:=H
            try go_wp2
            have Aw:=Aside0.mk (Kd.S_drew Ad.out)
            have Av:=Aside0.mk (Kd.R_drew Ah.out)
            have Ba:=Aside0.mk (Kd.R_drew Ag.out)
            have Bh:=Aside0.mk (Kd.R_drew Af.out)
            have Bl:=Aside0.mk (blk_drew Ac.out)
            have Bk:=Aside0.mk (IsS84.drew Ab.out)
            have Bj:=Aside0.mk (below_drew1 HB.out)
            clear Ad
            clear Ah
            clear Ag
            clear Af
            clear Ac
            clear Ab
            clear HB
            have Ad:=Aw
            have Ah:=Av
            have Ag:=Ba
            have Af:=Bh
            have Ac:=Bl
            have Ab:=Bk
            have HB:=Bj
            clear Aw Av Ba Bh Bl Bk Bj
            refine start_ (n:=10) (S:=fun w'=>w'.cell? ⟨Aa,0,none⟩ = some (.int .i64 Am)∧w'.cell? ⟨Aa,1,none⟩ = some (.int .i64 Ap)∧w'.cell? ⟨Aa,2,none⟩ = some (.int .i64 Aq)∧w'.cell? ⟨Aa,3,none⟩ = some (.slice Ay Ak.length Ax)∧w'.cell? ⟨Aa,4,none⟩ = some (.slice Bd Al.length Bb)∧w'.cell? ⟨Aa,5,none⟩ = some (.slice Bf Ao.length Be)∧w'.cell? ⟨Aa,6,none⟩ = some (.string (Ae.extract 0 32))) (ds:=[]) #[false,false,false,false,false,false,false,false,false,false] kr_ rfl rfl hc_ (fun An=>?_);refine with_tabW record_Recover.tab13 record_Recover.bits13 (fun Cb Fp=>?_)
            generalize Eu.drew = Gk at Ad Ah Ag Af Ac Ab HB An ⊢
            refine pu_ 0 (some 61) (tt_ 10 1) ?_
            refine pu_ 1 (some 62) (tt_ 10 3) ?_
            refine pu_ 2 (some 63) (tt_ 10 7) ?_
            refine pu_ 3 (some 64) (tt_ 10 15) ?_
            refine pu_ 5 (some 66) (tt_ 10 47) ?_
            refine pu_ 6 (some 67) (tt_ 10 111) ?_
            refine tk_ 4 (some 65) (tt_ 10 127) An ?_
            refine oc_ 7 (some 68) (tt_ 10 255) Tryz.func61 #[.slice Bz Ai.length By,.string Bn] (fun K hK=>?_)
            with_reducible refine (record_seal.calls _ _ Ai Bn Bq _ ?side1 ?side2 Fr.out).mono ?_
            (case side1=>exact cx_ ((Kd.S_reads' Ad.out).2.2))
            (case side2=>exact (Kd.S_reads' Ad.out).2.1)
            rintro e Gj ⟨rfl,hb⟩
            refine ⟨_,rfl,?_⟩
            have Aw:=Aside0.mk (Kd.S_below (by (with_reducible repeat (first|apply Kd.S_alloc|apply Kd.S_drewN|apply Kd.S_drew));exact Ad.out) hb)
            have Av:=Aside0.mk (Kd.R_below (by (with_reducible repeat (first|apply Kd.R_alloc|apply Kd.R_drewN|apply Kd.R_drew));exact Ah.out) hb)
            have Ba:=Aside0.mk (Kd.R_below (by (with_reducible repeat (first|apply Kd.R_alloc|apply Kd.R_drewN|apply Kd.R_drew));exact Ag.out) hb)
            have Bh:=Aside0.mk (Kd.R_below (by (with_reducible repeat (first|apply Kd.R_alloc|apply Kd.R_drewN|apply Kd.R_drew));exact Af.out) hb)
            have Bl:=Aside0.mk (IsS84.below (by repeat (first|(with_reducible first|exact Ab.out|apply IsS84.alloc|apply IsS84.drewN|apply IsS84.drew|apply IsS84.set_0|apply IsS84.set_1|refine IsS84.far ?_ Aj.out _)|exact Ab.out)) hb)
            have Bk:=Aside0.mk (blk_below (g:=Aa) (o:=.cells #[.int .i64 Am,.int .i64 Ap,.int .i64 Aq,.slice Ay Ak.length Ax,.slice Bd Al.length Bb,.slice Bf Ao.length Be,.string (Ae.extract 0 32)] 52 (0,0)) (by (with_reducible repeat (first|refine blk_drewN ?_ _|refine blk_drew ?_|refine blk_alloc ?_ _));exact Ac.out) hb)
            have Bj:=Aside0.mk (below_step (by repeat (first|(with_reducible first|exact HB.out|apply below_alloc|apply pw_below_drewN|apply below_drew1|refine below_set ?_ (IsS84.ge Ab.out)|refine below_set ?_ Bg.out)|exact HB.out)) hb)
            clear Ad
            clear Ah
            clear Ag
            clear Af
            clear Ab
            clear Ac
            clear HB
            have Ad:=Aw
            have Ah:=Av
            have Ag:=Ba
            have Af:=Bh
            have Ab:=Bl
            have Ac:=Bk
            have HB:=Bj
            clear Aw Av Ba Bh Bl Bk Bj
            (try clear hb)
            refine hk_ hK (fun An=>?_);clear hK K
            refine pu_ 8 (some 69) (tt_ 10 511) ?_
            refine pu_ 9 (some 70) (tt_ 10 1023) ?_
            refine done_ (done_of Cb.out kr_) ?_
            try go_wp2
            go_ret2
            exact ⟨_,rf_,by (with_reducible repeat (first|apply Kd.S_alloc|apply Kd.S_drewN|apply Kd.S_drew));exact Kd.S_mono Ad.out (fun _ hk=>trivial),by repeat (first|(with_reducible first|exact HB.out|apply below_alloc|apply pw_below_drewN|apply below_drew1|refine below_set ?_ (IsS84.ge Ab.out)|refine below_set ?_ Bg.out)|exact HB.out)⟩
          ·rw [if_neg Do] at H
           have Ea:(Bw == 0) = false:=beq_eq_false_iff_ne.mpr Do
           have Dz:(Bw != 0) = true:=bne_iff_ne.mpr Do
           simp only [Option.some.injEq,Prod.mk.injEq] at H
           obtain ⟨rfl,rfl⟩:=H
           try go_wp2
           have Aw:=Aside0.mk (Kd.S_drew Ad.out)
           have Av:=Aside0.mk (Kd.R_drew Ah.out)
           have Ba:=Aside0.mk (Kd.R_drew Ag.out)
           have Bh:=Aside0.mk (Kd.R_drew Af.out)
           have Bl:=Aside0.mk (blk_drew Ac.out)
           have Bk:=Aside0.mk (IsS84.drew Ab.out)
           have Bj:=Aside0.mk (below_drew1 HB.out)
           clear Ad
           clear Ah
           clear Ag
           clear Af
           clear Ac
           clear Ab
           clear HB
           have Ad:=Aw
           have Ah:=Av
           have Ag:=Ba
           have Af:=Bh
           have Ac:=Bl
           have Ab:=Bk
           have HB:=Bj
           clear Aw Av Ba Bh Bl Bk Bj
           refine start_ (n:=10) (S:=fun w'=>True) (ds:=[]) #[false,false,false,false,false,false,false,false,false,false] kr_ rfl rfl trivial (fun An=>?_);refine with_tabW record_Recover.tab13 record_Recover.bits13 (fun Cb Fp=>?_)
           generalize Eu.drew = Gi at Ad Ah Ag Af Ac Ab HB An ⊢
           refine pu_ 0 (some 61) (tt_ 10 1) ?_
           refine pu_ 1 (some 62) (tt_ 10 3) ?_
           refine pu_ 2 (some 63) (tt_ 10 7) ?_
           refine pure_ (i:=3) (N:=some 64) (v:=undef) (a':=?_) #[true,true,true,true,false,false,false,false,false,false] rfl rfl (any_of Cb.out kr_) (fun _ _ _ h=>h) (Or.inr ⟨by rfl,rfl⟩) ?_ ?_
           rotate_left
           ·simp only [Act.put,List.setIfInBounds_toArray,List.set_cons_zero,List.set_cons_succ,i64_w,i32_w]
            rfl
           refine pure_ (i:=4) (N:=some 65) (v:=undef) (a':=?_) #[true,true,true,true,true,false,false,false,false,false] rfl rfl (any_of Cb.out kr_) (fun _ _ _ h=>h) (Or.inr ⟨by rfl,rfl⟩) ?_ ?_
           rotate_left
           ·simp only [Act.put,List.setIfInBounds_toArray,List.set_cons_zero,List.set_cons_succ,i64_w,i32_w]
            rfl
           refine pure_ (i:=5) (N:=some 66) (v:=undef) (a':=?_) #[true,true,true,true,true,true,false,false,false,false] rfl rfl (any_of Cb.out kr_) (fun _ _ _ h=>h) (Or.inr ⟨by rfl,rfl⟩) ?_ ?_
           rotate_left
           ·simp only [Act.put,List.setIfInBounds_toArray,List.set_cons_zero,List.set_cons_succ,i64_w,i32_w]
            rfl
           refine pure_ (i:=6) (N:=some 67) (v:=undef) (a':=?_) #[true,true,true,true,true,true,true,false,false,false] rfl rfl (any_of Cb.out kr_) (fun _ _ _ h=>h) (Or.inr ⟨by rfl,rfl⟩) ?_ ?_
           rotate_left
           ·simp only [Act.put,List.setIfInBounds_toArray,List.set_cons_zero,List.set_cons_succ,i64_w,i32_w]
            rfl
           refine pure_ (i:=7) (N:=some 68) (v:=undef) (a':=?_) #[true,true,true,true,true,true,true,true,false,false] rfl rfl (any_of Cb.out kr_) (fun _ _ _ h=>h) (Or.inr ⟨by rfl,rfl⟩) ?_ ?_
           rotate_left
           ·simp only [Act.put,List.setIfInBounds_toArray,List.set_cons_zero,List.set_cons_succ,i64_w,i32_w]
            rfl
           refine pure_ (i:=8) (N:=some 69) (v:=undef) (a':=?_) #[true,true,true,true,true,true,true,true,true,false] rfl rfl (any_of Cb.out kr_) (fun _ _ _ h=>h) (Or.inr ⟨by rfl,rfl⟩) ?_ ?_
           rotate_left
           ·simp only [Act.put,List.setIfInBounds_toArray,List.set_cons_zero,List.set_cons_succ,i64_w,i32_w]
            rfl
           refine pu_ 9 (some 70) (tt_ 10 1023) ?_
           refine done_ (done_of Cb.out kr_) ?_
           try go_wp2
           go_ret2
           exact ⟨_,rf_,by (with_reducible repeat (first|apply Kd.S_alloc|apply Kd.S_drewN|apply Kd.S_drew));exact Kd.S_mono Ad.out (fun _ hk=>trivial),by repeat (first|(with_reducible first|exact HB.out|apply below_alloc|apply pw_below_drewN|apply below_drew1|refine below_set ?_ (IsS84.ge Ab.out)|refine below_set ?_ Bg.out)|exact HB.out)⟩
         ·rw [if_neg Dp] at H
          have Ec:(Bx == 0) = false:=beq_eq_false_iff_ne.mpr Dp
          have Eb:(Bx != 0) = true:=bne_iff_ne.mpr Dp
          simp only [Option.some.injEq,Prod.mk.injEq] at H
          obtain ⟨rfl,rfl⟩:=H
          go_wp2
          go_ret2
          exact ⟨_,rf_,by (with_reducible repeat (first|apply Kd.S_alloc|apply Kd.S_drewN|apply Kd.S_drew));exact Kd.S_mono (Kd.S_far (p:=⟨Aa,5,none⟩) (Kd.S_far (p:=⟨Aa,4,none⟩) (Kd.S_far (p:=⟨Aa,3,none⟩) (Kd.S_far (p:=⟨Aa,2,none⟩) (Kd.S_far (p:=⟨Aa,1,none⟩) (Kd.S_far (p:=⟨Aa,0,none⟩) (Kd.S_mono Ad.out (fun k_ hk=>(⟨hk,hk.1.1.1.2⟩:_∧k_≠Aa))) (fun _ hk=>hk.2) (.int .i64 Am)) (fun _ hk=>hk.2) (.int .i64 Ap)) (fun _ hk=>hk.2) (.int .i64 Aq)) (fun _ hk=>hk.2) (.slice Ay Ak.length Ax)) (fun _ hk=>hk.2) (.slice Bd Al.length Bb)) (fun _ hk=>hk.2) (.slice Bf Ao.length Be)) (fun _ hk=>trivial),by repeat (first|(with_reducible first|exact HB.out|apply below_alloc|apply pw_below_drewN|apply below_drew1|refine below_set ?_ (IsS84.ge Ab.out)|refine below_set ?_ Bg.out)|exact HB.out)⟩
        ·rw [if_neg Ed] at H
         exact absurd H sm_
       ·rw [if_neg Ee] at H
        exact absurd H sm_
   ·rw [if_neg c4] at H
    have Dw:decide ((Ai.length:Int) < 1024) = false:=decide_eq_false c4
    have Dv:decide (Ai.length < 1024) = false:=decide_eq_false (by omega)
    clear c4
    simp only [Option.some.injEq,Prod.mk.injEq] at H
    obtain ⟨rfl,rfl⟩:=H
    obtain ⟨Gf,Ge,Fc⟩:=Kd.S_slice Ad.out
    subst Fc
    go_wp2
    go_ret2
    exact ⟨_,rf_,by (with_reducible repeat (first|apply Kd.S_alloc|apply Kd.S_drewN|apply Kd.S_drew));exact Ad.out,by repeat (first|(with_reducible first|exact HB.out|apply below_alloc|apply pw_below_drewN|apply below_drew1|refine below_set ?_ (IsS84.ge Ab.out))|exact HB.out)⟩
set_option maxHeartbeats 8000000
set_option maxRecDepth 100000
mutual
def garboardref57_SameEvent.j0:Nat→Bool→Int→Int→Int→List Int→List ByteArray→List ByteArray→Int→Int→Int→List Int→List ByteArray→List ByteArray→Option (Bool)
 | 0,_,_,_,_,_,_,_,_,_,_,_,_,_=>none
 | k + 1,x53,x328000,x328001,x328002,x328003,x328004,x328005,x329000,x329001,x329002,x329003,x329004,x329005=>if x53 = true then (some false) else (garboardref57_SameEvent.l0 k 0 x328000 x328001 x328002 x328003 x328004 x328005 x329000 x329001 x329002 x329003 x329004 x329005)
def garboardref57_SameEvent.l0:Nat→Int→Int→Int→Int→List Int→List ByteArray→List ByteArray→Int→Int→Int→List Int→List ByteArray→List ByteArray→Option (Bool)
 | 0,_,_,_,_,_,_,_,_,_,_,_,_,_=>none
 | k + 1,x5,x328000,x328001,x328002,x328003,x328004,x328005,x329000,x329001,x329002,x329003,x329004,x329005=>if x5 < (x328003.length:Int) then (if 0≤x5 then (if x5 < (x329003.length:Int) then (if (rd x328003 x5) = (rd x329003 x5) then (garboardref57_SameEvent.l0 k (wrap64 (x5 + 1)) x328000 x328001 x328002 x328003 x328004 x328005 x329000 x329001 x329002 x329003 x329004 x329005) else (some false)) else (none)) else (none)) else (garboardref57_SameEvent.l1 k 0 x328000 x328001 x328002 x328003 x328004 x328005 x329000 x329001 x329002 x329003 x329004 x329005)
def garboardref57_SameEvent.l1:Nat→Int→Int→Int→Int→List Int→List ByteArray→List ByteArray→Int→Int→Int→List Int→List ByteArray→List ByteArray→Option (Bool)
 | 0,_,_,_,_,_,_,_,_,_,_,_,_,_=>none
 | k + 1,x6,x328000,x328001,x328002,x328003,x328004,x328005,x329000,x329001,x329002,x329003,x329004,x329005=>if x6 < (x328004.length:Int) then (if 0≤x6 then (if x6 < (x329004.length:Int) then (if (rdOf ByteArray.empty x328004 x6).toList = (rdOf ByteArray.empty x329004 x6).toList then (garboardref57_SameEvent.l1 k (wrap64 (x6 + 1)) x328000 x328001 x328002 x328003 x328004 x328005 x329000 x329001 x329002 x329003 x329004 x329005) else (some false)) else (none)) else (none)) else (garboardref57_SameEvent.l2 k 0 x328000 x328001 x328002 x328003 x328004 x328005 x329000 x329001 x329002 x329003 x329004 x329005)
def garboardref57_SameEvent.l2:Nat→Int→Int→Int→Int→List Int→List ByteArray→List ByteArray→Int→Int→Int→List Int→List ByteArray→List ByteArray→Option (Bool)
 | 0,_,_,_,_,_,_,_,_,_,_,_,_,_=>none
 | k + 1,x7,x328000,x328001,x328002,x328003,x328004,x328005,x329000,x329001,x329002,x329003,x329004,x329005=>if x7 < (x328005.length:Int) then (if 0≤x7 then (if x7 < (x329005.length:Int) then (if (rdOf ByteArray.empty x328005 x7).toList = (rdOf ByteArray.empty x329005 x7).toList then (garboardref57_SameEvent.l2 k (wrap64 (x7 + 1)) x328000 x328001 x328002 x328003 x328004 x328005 x329000 x329001 x329002 x329003 x329004 x329005) else (some false)) else (none)) else (none)) else (some true)
end
def garboardref57_SameEvent.f (k:Nat) (a0_0:Int) (a0_1:Int) (a0_2:Int) (l0_3:List Int) (l0_4:List ByteArray) (l0_5:List ByteArray) (a1_0:Int) (a1_1:Int) (a1_2:Int) (l1_3:List Int) (l1_4:List ByteArray) (l1_5:List ByteArray):Option (Bool):=if a0_0 = a1_0 then (if a0_1 = a1_1 then (if a0_2 = a1_2 then (if (l0_3.length:Int) = (l1_3.length:Int) then (if (l0_4.length:Int) = (l1_4.length:Int) then (garboardref57_SameEvent.j0 k ((l0_5.length:Int) != (l1_5.length:Int)) a0_0 a0_1 a0_2 l0_3 l0_4 l0_5 a1_0 a1_1 a1_2 l1_3 l1_4 l1_5) else (garboardref57_SameEvent.j0 k true a0_0 a0_1 a0_2 l0_3 l0_4 l0_5 a1_0 a1_1 a1_2 l1_3 l1_4 l1_5)) else (garboardref57_SameEvent.j0 k true a0_0 a0_1 a0_2 l0_3 l0_4 l0_5 a1_0 a1_1 a1_2 l1_3 l1_4 l1_5)) else (garboardref57_SameEvent.j0 k true a0_0 a0_1 a0_2 l0_3 l0_4 l0_5 a1_0 a1_1 a1_2 l1_3 l1_4 l1_5)) else (garboardref57_SameEvent.j0 k true a0_0 a0_1 a0_2 l0_3 l0_4 l0_5 a1_0 a1_1 a1_2 l1_3 l1_4 l1_5)) else (garboardref57_SameEvent.j0 k true a0_0 a0_1 a0_2 l0_3 l0_4 l0_5 a1_0 a1_1 a1_2 l1_3 l1_4 l1_5)
theorem garboardref57_SameEvent.mono_l:∀ k,(∀ y0 y1 y2 y3 y4 y5 y6 y7 y8 y9 y10 y11 y12,LeO (garboardref57_SameEvent.j0 k y0 y1 y2 y3 y4 y5 y6 y7 y8 y9 y10 y11 y12) (garboardref57_SameEvent.j0 (k + 1) y0 y1 y2 y3 y4 y5 y6 y7 y8 y9 y10 y11 y12))∧(∀ y0 y1 y2 y3 y4 y5 y6 y7 y8 y9 y10 y11 y12,LeO (garboardref57_SameEvent.l0 k y0 y1 y2 y3 y4 y5 y6 y7 y8 y9 y10 y11 y12) (garboardref57_SameEvent.l0 (k + 1) y0 y1 y2 y3 y4 y5 y6 y7 y8 y9 y10 y11 y12))∧(∀ y0 y1 y2 y3 y4 y5 y6 y7 y8 y9 y10 y11 y12,LeO (garboardref57_SameEvent.l1 k y0 y1 y2 y3 y4 y5 y6 y7 y8 y9 y10 y11 y12) (garboardref57_SameEvent.l1 (k + 1) y0 y1 y2 y3 y4 y5 y6 y7 y8 y9 y10 y11 y12))∧(∀ y0 y1 y2 y3 y4 y5 y6 y7 y8 y9 y10 y11 y12,LeO (garboardref57_SameEvent.l2 k y0 y1 y2 y3 y4 y5 y6 y7 y8 y9 y10 y11 y12) (garboardref57_SameEvent.l2 (k + 1) y0 y1 y2 y3 y4 y5 y6 y7 y8 y9 y10 y11 y12))
 | 0=>⟨fun _ _ _ _ _ _ _ _ _ _ _ _ _ r h=>by simp [garboardref57_SameEvent.j0] at h,fun _ _ _ _ _ _ _ _ _ _ _ _ _ r h=>by simp [garboardref57_SameEvent.l0] at h,fun _ _ _ _ _ _ _ _ _ _ _ _ _ r h=>by simp [garboardref57_SameEvent.l1] at h,fun _ _ _ _ _ _ _ _ _ _ _ _ _ r h=>by simp [garboardref57_SameEvent.l2] at h⟩
 | k + 1=>by
  obtain ⟨ih0,ih1,ih2,ih3⟩:=garboardref57_SameEvent.mono_l k
  refine ⟨?_,?_,?_,?_⟩
  ·intro y0 y1 y2 y3 y4 y5 y6 y7 y8 y9 y10 y11 y12
   unfold garboardref57_SameEvent.j0
   repeat' first
   | (with_reducible exact ih0 _ _ _ _ _ _ _ _ _ _ _ _ _)
   | (with_reducible exact ih1 _ _ _ _ _ _ _ _ _ _ _ _ _)
   | (with_reducible exact ih2 _ _ _ _ _ _ _ _ _ _ _ _ _)
   | (with_reducible exact ih3 _ _ _ _ _ _ _ _ _ _ _ _ _)
   | (with_reducible exact LeO.refl _)
   | (with_reducible exact LeO.none _)
   | (with_reducible refine LeO.ite ?_ ?_)
   | (with_reducible refine LeO.bind ?_ (fun _=>?_))
   | exact ih0 _ _ _ _ _ _ _ _ _ _ _ _ _
   | exact ih1 _ _ _ _ _ _ _ _ _ _ _ _ _
   | exact ih2 _ _ _ _ _ _ _ _ _ _ _ _ _
   | exact ih3 _ _ _ _ _ _ _ _ _ _ _ _ _
   | exact LeO.none _
   | refine LeO.ite ?_ ?_
   | refine LeO.bind ?_ (fun _=>?_)
  ·intro y0 y1 y2 y3 y4 y5 y6 y7 y8 y9 y10 y11 y12
   unfold garboardref57_SameEvent.l0
   repeat' first
   | (with_reducible exact ih0 _ _ _ _ _ _ _ _ _ _ _ _ _)
   | (with_reducible exact ih1 _ _ _ _ _ _ _ _ _ _ _ _ _)
   | (with_reducible exact ih2 _ _ _ _ _ _ _ _ _ _ _ _ _)
   | (with_reducible exact ih3 _ _ _ _ _ _ _ _ _ _ _ _ _)
   | (with_reducible exact LeO.refl _)
   | (with_reducible exact LeO.none _)
   | (with_reducible refine LeO.ite ?_ ?_)
   | (with_reducible refine LeO.bind ?_ (fun _=>?_))
   | exact ih0 _ _ _ _ _ _ _ _ _ _ _ _ _
   | exact ih1 _ _ _ _ _ _ _ _ _ _ _ _ _
   | exact ih2 _ _ _ _ _ _ _ _ _ _ _ _ _
   | exact ih3 _ _ _ _ _ _ _ _ _ _ _ _ _
   | exact LeO.none _
   | refine LeO.ite ?_ ?_
   | refine LeO.bind ?_ (fun _=>?_)
  ·intro y0 y1 y2 y3 y4 y5 y6 y7 y8 y9 y10 y11 y12
   unfold garboardref57_SameEvent.l1
   repeat' first
   | (with_reducible exact ih0 _ _ _ _ _ _ _ _ _ _ _ _ _)
   | (with_reducible exact ih1 _ _ _ _ _ _ _ _ _ _ _ _ _)
   | (with_reducible exact ih2 _ _ _ _ _ _ _ _ _ _ _ _ _)
   | (with_reducible exact ih3 _ _ _ _ _ _ _ _ _ _ _ _ _)
   | (with_reducible exact LeO.refl _)
   | (with_reducible exact LeO.none _)
   | (with_reducible refine LeO.ite ?_ ?_)
   | (with_reducible refine LeO.bind ?_ (fun _=>?_))
   | exact ih0 _ _ _ _ _ _ _ _ _ _ _ _ _
   | exact ih1 _ _ _ _ _ _ _ _ _ _ _ _ _
   | exact ih2 _ _ _ _ _ _ _ _ _ _ _ _ _
   | exact ih3 _ _ _ _ _ _ _ _ _ _ _ _ _
   | exact LeO.none _
   | refine LeO.ite ?_ ?_
   | refine LeO.bind ?_ (fun _=>?_)
  ·intro y0 y1 y2 y3 y4 y5 y6 y7 y8 y9 y10 y11 y12
   unfold garboardref57_SameEvent.l2
   repeat' first
   | (with_reducible exact ih0 _ _ _ _ _ _ _ _ _ _ _ _ _)
   | (with_reducible exact ih1 _ _ _ _ _ _ _ _ _ _ _ _ _)
   | (with_reducible exact ih2 _ _ _ _ _ _ _ _ _ _ _ _ _)
   | (with_reducible exact ih3 _ _ _ _ _ _ _ _ _ _ _ _ _)
   | (with_reducible exact LeO.refl _)
   | (with_reducible exact LeO.none _)
   | (with_reducible refine LeO.ite ?_ ?_)
   | (with_reducible refine LeO.bind ?_ (fun _=>?_))
   | exact ih0 _ _ _ _ _ _ _ _ _ _ _ _ _
   | exact ih1 _ _ _ _ _ _ _ _ _ _ _ _ _
   | exact ih2 _ _ _ _ _ _ _ _ _ _ _ _ _
   | exact ih3 _ _ _ _ _ _ _ _ _ _ _ _ _
   | exact LeO.none _
   | refine LeO.ite ?_ ?_
   | refine LeO.bind ?_ (fun _=>?_)
theorem garboardref57_SameEvent.mono:∀ a0 a1 a2 a3 a4 a5 a6 a7 a8 a9 a10 a11 k,LeO (garboardref57_SameEvent.f k a0 a1 a2 a3 a4 a5 a6 a7 a8 a9 a10 a11) (garboardref57_SameEvent.f (k + 1) a0 a1 a2 a3 a4 a5 a6 a7 a8 a9 a10 a11):=by
 intro a0 a1 a2 a3 a4 a5 a6 a7 a8 a9 a10 a11 k
 obtain ⟨Ad,Ac,Ab,Aa⟩:=garboardref57_SameEvent.mono_l k
 unfold garboardref57_SameEvent.f
 repeat' first
   | (with_reducible exact Ad _ _ _ _ _ _ _ _ _ _ _ _ _)
   | (with_reducible exact Ac _ _ _ _ _ _ _ _ _ _ _ _ _)
   | (with_reducible exact Ab _ _ _ _ _ _ _ _ _ _ _ _ _)
   | (with_reducible exact Aa _ _ _ _ _ _ _ _ _ _ _ _ _)
   | (with_reducible exact LeO.refl _)
   | (with_reducible exact LeO.none _)
   | (with_reducible refine LeO.ite ?_ ?_)
   | (with_reducible refine LeO.bind ?_ (fun _=>?_))
   | exact Ad _ _ _ _ _ _ _ _ _ _ _ _ _
   | exact Ac _ _ _ _ _ _ _ _ _ _ _ _ _
   | exact Ab _ _ _ _ _ _ _ _ _ _ _ _ _
   | exact Aa _ _ _ _ _ _ _ _ _ _ _ _ _
   | exact LeO.none _
   | refine LeO.ite ?_ ?_
   | refine LeO.bind ?_ (fun _=>?_)
theorem garboardref57_SameEvent.calls (k:Nat) (a0_0:Int) (a0_1:Int) (a0_2:Int) (A0_3:Option Addr) (c0_3:Nat) (l0_3:List Int) (A0_4:Option Addr) (c0_4:Nat) (l0_4:List ByteArray) (A0_5:Option Addr) (c0_5:Nat) (l0_5:List ByteArray) (a1_0:Int) (a1_1:Int) (a1_2:Int) (A1_3:Option Addr) (c1_3:Nat) (l1_3:List Int) (A1_4:Option Addr) (c1_4:Nat) (l1_4:List ByteArray) (A1_5:Option Addr) (c1_5:Nat) (l1_5:List ByteArray) (r:Bool) (w:World) (hr0_3:Kd.C (Kd.int .i64) w A0_3 l0_3.length l0_3) (hc0_3:l0_3.length≤c0_3) (hr0_4:Kd.C Kd.string w A0_4 l0_4.length l0_4) (hc0_4:l0_4.length≤c0_4) (hr0_5:Kd.C Kd.string w A0_5 l0_5.length l0_5) (hc0_5:l0_5.length≤c0_5) (hr1_3:Kd.C (Kd.int .i64) w A1_3 l1_3.length l1_3) (hc1_3:l1_3.length≤c1_3) (hr1_4:Kd.C Kd.string w A1_4 l1_4.length l1_4) (hc1_4:l1_4.length≤c1_4) (hr1_5:Kd.C Kd.string w A1_5 l1_5.length l1_5) (hc1_5:l1_5.length≤c1_5) (h:garboardref57_SameEvent.f k a0_0 a0_1 a0_2 l0_3 l0_4 l0_5 a1_0 a1_1 a1_2 l1_3 l1_4 l1_5 = some r) :
  Calls Tryz.prog 17 #[.agg #[.int .i64 a0_0,.int .i64 a0_1,.int .i64 a0_2,.slice A0_3 l0_3.length c0_3,.slice A0_4 l0_4.length c0_4,.slice A0_5 l0_5.length c0_5],.agg #[.int .i64 a1_0,.int .i64 a1_1,.int .i64 a1_2,.slice A1_3 l1_3.length c1_3,.slice A1_4 l1_4.length c1_4,.slice A1_5 l1_5.length c1_5]] w fun e w'=>e = .returned (.bool r)∧Below w.heap.size w w':=by
 have Sw:=Tryz.underlying26
 have Co:=Aside0.mk hr0_3
 have Su:=Aside0.mk hc0_3
 clear hr0_3 hc0_3
 have Cn:=Aside0.mk hr0_4
 have St:=Aside0.mk hc0_4
 clear hr0_4 hc0_4
 have Cm:=Aside0.mk hr0_5
 have Ss:=Aside0.mk hc0_5
 clear hr0_5 hc0_5
 have Cl:=Aside0.mk hr1_3
 have Sr:=Aside0.mk hc1_3
 clear hr1_3 hc1_3
 have Ck:=Aside0.mk hr1_4
 have Sq:=Aside0.mk hc1_4
 clear hr1_4 hc1_4
 have Cj:=Aside0.mk hr1_5
 have Sp:=Aside0.mk hc1_5
 clear hr1_5 hc1_5
 have HB:=Aside0.mk (Below.refl w.heap.size w)
 have H:=h;clear h;unfold garboardref57_SameEvent.f at H
 have Qy:=Aside0.mk H
 clear H
 go_enter Tryz.func17,Tryz.ntmps17
 go_upto_region 1 with (first|((with_reducible refine gate_dst (N:=2) rfl ?_);(try (refine gate_guard (by rfl) ?_;dsimp only));refine bv_ #[.int .i64 a0_0,.int .i64 a0_1,.int .i64 a0_2,.slice A0_3 l0_3.length c0_3,.slice A0_4 l0_4.length c0_4,.slice A0_5 l0_5.length c0_5] 26 ?_;clear HB;intro Ao hg w4 Ac Cq hb HB;clear hb hg)|((with_reducible refine gate_dst (N:=3) rfl ?_);(try (refine gate_guard (by rfl) ?_;dsimp only));refine bv_ #[.int .i64 a1_0,.int .i64 a1_1,.int .i64 a1_2,.slice A1_3 l1_3.length c1_3,.slice A1_4 l1_4.length c1_4,.slice A1_5 l1_5.length c1_5] 26 ?_;clear HB;intro An hg w5 Ag Cp hb HB;have x_:=ol_ Ac hg hb;clear Ac;obtain ⟨Ac,Ab,Aa⟩:=x_;clear hb hg))
 repeat (go_quiet (first|((with_reducible refine gate_dst (N:=2) rfl ?_);(try (refine gate_guard (by rfl) ?_;dsimp only));refine bv_ #[.int .i64 a0_0,.int .i64 a0_1,.int .i64 a0_2,.slice A0_3 l0_3.length c0_3,.slice A0_4 l0_4.length c0_4,.slice A0_5 l0_5.length c0_5] 26 ?_;clear HB;intro Ao hg w4 Ac Cq hb HB;clear hb hg)|((with_reducible refine gate_dst (N:=3) rfl ?_);(try (refine gate_guard (by rfl) ?_;dsimp only));refine bv_ #[.int .i64 a1_0,.int .i64 a1_1,.int .i64 a1_2,.slice A1_3 l1_3.length c1_3,.slice A1_4 l1_4.length c1_4,.slice A1_5 l1_5.length c1_5] 26 ?_;clear HB;intro An hg w5 Ag Cp hb HB;have x_:=ol_ Ac hg hb;clear Ac;obtain ⟨Ac,Ab,Aa⟩:=x_;clear hb hg));go_upto_region 1 with (first|((with_reducible refine gate_dst (N:=2) rfl ?_);(try (refine gate_guard (by rfl) ?_;dsimp only));refine bv_ #[.int .i64 a0_0,.int .i64 a0_1,.int .i64 a0_2,.slice A0_3 l0_3.length c0_3,.slice A0_4 l0_4.length c0_4,.slice A0_5 l0_5.length c0_5] 26 ?_;clear HB;intro Ao hg w4 Ac Cq hb HB;clear hb hg)|((with_reducible refine gate_dst (N:=3) rfl ?_);(try (refine gate_guard (by rfl) ?_;dsimp only));refine bv_ #[.int .i64 a1_0,.int .i64 a1_1,.int .i64 a1_2,.slice A1_3 l1_3.length c1_3,.slice A1_4 l1_4.length c1_4,.slice A1_5 l1_5.length c1_5] 26 ?_;clear HB;intro An hg w5 Ag Cp hb HB;have x_:=ol_ Ac hg hb;clear Ac;obtain ⟨Ac,Ab,Aa⟩:=x_;clear hb hg)))
 (try simp only [Act.put,List.setIfInBounds_toArray,List.set_cons_zero,List.set_cons_succ])
 go_cut [53] (fun Sv wc=>∃ (kq:Nat) (Bd:Bool),Sv = .bool Bd∧Aside0 (garboardref57_SameEvent.j0 kq Bd a0_0 a0_1 a0_2 l0_3 l0_4 l0_5 a1_0 a1_1 a1_2 l1_3 l1_4 l1_5 = some r)∧Aside0 (kq≤k)∧Aside0 (wc.heap[Ao]? = some (.cells #[.int .i64 a0_0,.int .i64 a0_1,.int .i64 a0_2,(.slice A0_3 l0_3.length c0_3),(.slice A0_4 l0_4.length c0_4),(.slice A0_5 l0_5.length c0_5)] 26 (0,0)))∧Aside0 (wc.heap[An]? = some (.cells #[.int .i64 a1_0,.int .i64 a1_1,.int .i64 a1_2,(.slice A1_3 l1_3.length c1_3),(.slice A1_4 l1_4.length c1_4),(.slice A1_5 l1_5.length c1_5)] 26 (0,0)))∧Aside0 (Below w.heap.size w wc))
 case first =>
  have H:=Qy.out
  clear Qy
  by_cases c6:a0_0 = a1_0
  ·rw [if_pos c6] at H
   have Bq:(a0_0 == a1_0) = true:=beq_iff_eq.mpr c6
   have Qx:(a0_0 != a1_0) = false:=bne_eq_false_iff_eq.mpr c6
   clear c6
   (first|rw [Bq]|(simp only [i64_w,i32_w];rw [Bq])|skip)
   by_cases c7:a0_1 = a1_1
   ·rw [if_pos c7] at H
    have Qw:(a0_1 == a1_1) = true:=beq_iff_eq.mpr c7
    have Qv:(a0_1 != a1_1) = false:=bne_eq_false_iff_eq.mpr c7
    clear c7
    by_cases c8:a0_2 = a1_2
    ·rw [if_pos c8] at H
     have Qu:(a0_2 == a1_2) = true:=beq_iff_eq.mpr c8
     have Qt:(a0_2 != a1_2) = false:=bne_eq_false_iff_eq.mpr c8
     clear c8
     by_cases c9:(l0_3.length:Int) = (l1_3.length:Int)
     ·rw [if_pos c9] at H
      have Qs:((l0_3.length:Int) == (l1_3.length:Int)) = true:=beq_iff_eq.mpr c9
      have Qr:((l0_3.length:Int) != (l1_3.length:Int)) = false:=bne_eq_false_iff_eq.mpr c9
      have Qq:(l0_3.length == l1_3.length) = true:=by first|simpa using c9|(simp at c9 ⊢;omega)
      clear c9
      by_cases Bt:(l0_4.length:Int) = (l1_4.length:Int)
      ·rw [if_pos Bt] at H
       have Do:((l0_4.length:Int) == (l1_4.length:Int)) = true:=beq_iff_eq.mpr Bt
       have Dn:((l0_4.length:Int) != (l1_4.length:Int)) = false:=bne_eq_false_iff_eq.mpr Bt
       have Dm:(l0_4.length == l1_4.length) = true:=by first|simpa using Bt|(simp at Bt ⊢;omega)
       clear Bt
       have H':=Aside0.mk H
       clear H
       have Sf:=Ab.out
       have Rn:=Aa.out
       obtain ⟨Qi,Qh,Qg,Qf,Qe,Qd,Jy,Jw,Jv,Ju,Jt,Js⟩:=c6_ Ac
       obtain ⟨Qc,Qb,Qa,Pz,Py,Px,Jr,Jq,Jp,Jo,Jn,Jm⟩:=c6_ Ag
       go_wp2
       repeat (go_quiet (fail);try go_wp2)
       go_meet
       case rel=>exact ⟨_,(((l0_5.length:Int) != (l1_5.length:Int))),rg_,H',⟨by first|omega|exact Nat.le_refl _⟩,⟨bk_⟩,⟨bk_⟩,⟨bx_⟩⟩
      ·rw [if_neg Bt] at H
       have Do:((l0_4.length:Int) == (l1_4.length:Int)) = false:=beq_eq_false_iff_ne.mpr Bt
       have Dn:((l0_4.length:Int) != (l1_4.length:Int)) = true:=bne_iff_ne.mpr Bt
       have Dm:(l0_4.length == l1_4.length) = false:=by first|simpa using Bt|(simp at Bt ⊢;omega)
       have H':=Aside0.mk H
       clear H
       have Se:=Ab.out
       have Rm:=Aa.out
       obtain ⟨Pw,Pv,Ps,Pq,Pp,Po,Jl,Jk,Jj,Ji,Jh,Jg⟩:=c6_ Ac
       obtain ⟨Pn,Pm,Pk,Pj,Pi,Ph,Jf,Je,Jd,Jc,Jb,Ja⟩:=c6_ Ag
       go_wp2
       repeat (go_quiet (fail);try go_wp2)
       go_meet
       case rel=>exact ⟨_,(true),rg_,H',⟨by first|omega|exact Nat.le_refl _⟩,⟨bk_⟩,⟨bk_⟩,⟨bx_⟩⟩
     ·rw [if_neg c9] at H
      have Qs:((l0_3.length:Int) == (l1_3.length:Int)) = false:=beq_eq_false_iff_ne.mpr c9
      have Qr:((l0_3.length:Int) != (l1_3.length:Int)) = true:=bne_iff_ne.mpr c9
      have Qq:(l0_3.length == l1_3.length) = false:=by first|simpa using c9|(simp at c9 ⊢;omega)
      have H':=Aside0.mk H
      clear H
      have Sd:=Ab.out
      have Rl:=Aa.out
      obtain ⟨Pg,Pf,Pe,Pd,Pc,Pb,Iz,Iy,Ix,Iw,Iv,Iu⟩:=c6_ Ac
      obtain ⟨Oz,Oy,Ox,Ow,Ov,Ou,It,Ir,Iq,Ip,Io,Im⟩:=c6_ Ag
      go_wp2
      repeat (go_quiet (fail);try go_wp2)
      go_meet
      case rel=>exact ⟨_,(true),rg_,H',⟨by first|omega|exact Nat.le_refl _⟩,⟨bk_⟩,⟨bk_⟩,⟨bx_⟩⟩
    ·rw [if_neg c8] at H
     have Qu:(a0_2 == a1_2) = false:=beq_eq_false_iff_ne.mpr c8
     have Qt:(a0_2 != a1_2) = true:=bne_iff_ne.mpr c8
     have H':=Aside0.mk H
     clear H
     have Sc:=Ab.out
     have Rk:=Aa.out
     obtain ⟨Ot,Oq,Oo,Om,Ol,Oj,Il,Ik,Ij,Ii,Ih,Ig⟩:=c6_ Ac
     obtain ⟨Oi,Oh,Og,Of,Oe,Od,Ie,Id,Ic,Ib,Ia,Hz⟩:=c6_ Ag
     go_wp2
     repeat (go_quiet (fail);try go_wp2)
     go_meet
     case rel=>exact ⟨_,(true),rg_,H',⟨by first|omega|exact Nat.le_refl _⟩,⟨bk_⟩,⟨bk_⟩,⟨bx_⟩⟩
   ·rw [if_neg c7] at H
    have Qw:(a0_1 == a1_1) = false:=beq_eq_false_iff_ne.mpr c7
    have Qv:(a0_1 != a1_1) = true:=bne_iff_ne.mpr c7
    have H':=Aside0.mk H
    clear H
    have Sb:=Ab.out
    have Rj:=Aa.out
    obtain ⟨Oc,Ob,Oa,Nz,Ny,Nx,Hy,Hx,Hw,Hv,Hu,Ht⟩:=c6_ Ac
    obtain ⟨Nw,Nt,Ns,Nr,Np,No,Hs,Hr,Hq,Hp,Ho,Hn⟩:=c6_ Ag
    go_wp2
    repeat (go_quiet (fail);try go_wp2)
    go_meet
    case rel=>exact ⟨_,(true),rg_,H',⟨by first|omega|exact Nat.le_refl _⟩,⟨bk_⟩,⟨bk_⟩,⟨bx_⟩⟩
  ·rw [if_neg c6] at H
   have Bq:(a0_0 == a1_0) = false:=beq_eq_false_iff_ne.mpr c6
   have Qx:(a0_0 != a1_0) = true:=bne_iff_ne.mpr c6
   (first|rw [Bq]|(simp only [i64_w,i32_w];rw [Bq])|skip)
   have H':=Aside0.mk H
   clear H
   have Sa:=Ab.out
   have Ri:=Aa.out
   obtain ⟨Nn,Nm,Nl,Nk,Nj,Ni,Hm,Hl,Hk,Hj,Hi,Hh⟩:=c6_ Ac
   obtain ⟨Nh,Ng,Nf,Nd,Nc,Nb,Hg,Hf,He,Hd,Hb,Ha⟩:=c6_ Ag
   go_wp2
   repeat (go_quiet (fail);try go_wp2)
   go_meet
   case rel=>exact ⟨_,(true),rg_,H',⟨by first|omega|exact Nat.le_refl _⟩,⟨bk_⟩,⟨bk_⟩,⟨bx_⟩⟩
 case rest =>
  clear Qy
  obtain ⟨kq,Bd,rfl,HA,De,Ac,Ag,HB⟩:=hcut
  cases kq with
  | zero=>exact absurd HA.out (by simp [garboardref57_SameEvent.j0])
  | succ kj2 =>
   have H:=HA.out
   clear HA
   simp only [garboardref57_SameEvent.j0] at H
   by_cases Db:Bd = true
   ·subst Db
    have H1:(some false) = some r:=by rw [if_pos rfl] at H;exact H
    clear H
    have H:=H1
    clear H1
    obtain rfl:=Option.some.inj H
    go_wp2
    repeat (go_quiet (fail);try go_wp2)
    go_ret
    exact ⟨rf_,bx_⟩
   ·replace Db:=Bool.eq_false_iff.mpr Db
    subst Db
    have H1:(garboardref57_SameEvent.l0 kj2 0 a0_0 a0_1 a0_2 l0_3 l0_4 l0_5 a1_0 a1_1 a1_2 l1_3 l1_4 l1_5) = some r:=by rw [if_neg (show ¬ (false = true) by decide)] at H;exact H
    clear H
    have H:=H1
    clear H1
    have H':=Aside0.mk H
    clear H
    go_wp2
    repeat (go_quiet (fail);try go_wp2)
    go_loopg [5] kj2 (fun kq v5 w'=>∃ (Af:Int),v5 = .int .i64 Af∧Aside0 (garboardref57_SameEvent.l0 kq Af a0_0 a0_1 a0_2 l0_3 l0_4 l0_5 a1_0 a1_1 a1_2 l1_3 l1_4 l1_5 = some r)∧Aside0 (kq≤kj2)∧Aside0 (w'.heap[Ao]? = some (.cells #[.int .i64 a0_0,.int .i64 a0_1,.int .i64 a0_2,(.slice A0_3 l0_3.length c0_3),(.slice A0_4 l0_4.length c0_4),(.slice A0_5 l0_5.length c0_5)] 26 (0,0)))∧Aside0 (w'.heap[An]? = some (.cells #[.int .i64 a1_0,.int .i64 a1_1,.int .i64 a1_2,(.slice A1_3 l1_3.length c1_3),(.slice A1_4 l1_4.length c1_4),(.slice A1_5 l1_5.length c1_5)] 26 (0,0)))∧Aside0 (Below w.heap.size w w'))
    case atStart=>exact ⟨(0),rg_,H',⟨Nat.le_refl _⟩,⟨bk_⟩,⟨bk_⟩,⟨bx_⟩⟩
    case round =>
     clear H'
     try clear Db
     obtain ⟨Af,rfl,HA,Dd,Ac,Ag,HB⟩:=hrel
     cases gk with
     | zero=>exact absurd HA.out (by simp [garboardref57_SameEvent.l0])
     | succ k2 =>
      have H:=HA.out
      clear HA
      simp only [garboardref57_SameEvent.l0] at H
      by_cases Ci:Af < (l0_3.length:Int)
      ·rw [if_pos Ci] at H
       have Br:decide (Af < (l0_3.length:Int)) = true:=decide_eq_true Ci
       clear Ci
       by_cases Qo:0≤Af
       ·rw [if_pos Qo] at H
        have Sn:decide (0≤Af) = true:=decide_eq_true Qo
        clear Qo
        by_cases Qn:Af < (l1_3.length:Int)
        ·rw [if_pos Qn] at H
         have Sl:decide (Af < (l1_3.length:Int)) = true:=decide_eq_true Qn
         clear Qn
         by_cases Da:(rd l0_3 Af) = (rd l1_3 Af)
         ·rw [if_pos Da] at H
          have Dl:((rd l0_3 Af) == (rd l1_3 Af)) = true:=beq_iff_eq.mpr Da
          have Dk:((rd l0_3 Af) != (rd l1_3 Af)) = false:=bne_eq_false_iff_eq.mpr Da
          clear Da
          have H':=Aside0.mk H
          clear H
          have Rz:=Ab.out
          have Rh:=Aa.out
          obtain ⟨Na,Mz,My,Mx,Mw,Mv,Gz,Gy,Gx,Gw,Gv,Gu⟩:=c6_ Ac
          have Bc:0≤(Af:Int):=da_
          have Av:Af < (l0_3.length:Int):=da_
          obtain ⟨Du,Cw,Am⟩:=Kd.at_int Co.out Af Bc Av
          cases Cw
          replace Am:=(HB.out.cell (World.block_lt_of_cell? w _ Am)).trans Am
          replace Bc:=eq_true Bc
          replace Av:=eq_true Av
          obtain ⟨Mu,Mt,Ms,Mr,Mq,Mp,Gt,Gs,Gr,Gq,Gp,Gn⟩:=c6_ Ag
          have Bb:0≤(Af:Int):=da_
          have Au:Af < (l1_3.length:Int):=da_
          obtain ⟨Dt,Cv,Al⟩:=Kd.at_int Cl.out Af Bb Au
          cases Cv
          replace Al:=(HB.out.cell (World.block_lt_of_cell? w _ Al)).trans Al
          replace Bb:=eq_true Bb
          replace Au:=eq_true Au
          go_wp2
          repeat (go_quiet (fail);try go_wp2)
          go_roundg k2
          case measure=>have:=De.out;have:=Dd.out;omega
          case rel=>exact ⟨(wrap64 (Af + 1)),rg_,H',⟨by have:=De.out;have:=Dd.out;omega⟩,⟨bk_⟩,⟨bk_⟩,⟨bx_⟩⟩
         ·rw [if_neg Da] at H
          have Dl:((rd l0_3 Af) == (rd l1_3 Af)) = false:=beq_eq_false_iff_ne.mpr Da
          have Dk:((rd l0_3 Af) != (rd l1_3 Af)) = true:=bne_iff_ne.mpr Da
          obtain rfl:=Option.some.inj H
          have Ry:=Ab.out
          have Rg:=Aa.out
          obtain ⟨Mo,Mn,Mm,Ml,Mk,Mj,Gm,Gl,Gk,Gj,Gi,Gh⟩:=c6_ Ac
          have Bc:0≤(Af:Int):=da_
          have Av:Af < (l0_3.length:Int):=da_
          obtain ⟨Du,Cw,Am⟩:=Kd.at_int Co.out Af Bc Av
          cases Cw
          replace Am:=(HB.out.cell (World.block_lt_of_cell? w _ Am)).trans Am
          replace Bc:=eq_true Bc
          replace Av:=eq_true Av
          obtain ⟨Mi,Mh,Mg,Mf,Me,Md,Gg,Gf,Ge,Gd,Gc,Gb⟩:=c6_ Ag
          have Bb:0≤(Af:Int):=da_
          have Au:Af < (l1_3.length:Int):=da_
          obtain ⟨Dt,Cv,Al⟩:=Kd.at_int Cl.out Af Bb Au
          cases Cv
          replace Al:=(HB.out.cell (World.block_lt_of_cell? w _ Al)).trans Al
          replace Bb:=eq_true Bb
          replace Au:=eq_true Au
          go_wp2
          repeat (go_quiet (fail);try go_wp2)
          go_ret
          exact ⟨rf_,bx_⟩
        ·rw [if_neg Qn] at H
         exact absurd H sm_
       ·rw [if_neg Qo] at H
        exact absurd H sm_
      ·rw [if_neg Ci] at H
       have Br:decide (Af < (l0_3.length:Int)) = false:=decide_eq_false Ci
       clear Ci
       have H':=Aside0.mk H
       clear H
       have Rx:=Ab.out
       have Rf:=Aa.out
       obtain ⟨Bp,Bo,Bn,Bm,Bl,Bk,Bj,Bi,Bh,Bg,Bf,Be⟩:=c6_ Ac
       go_wp2
       repeat (go_quiet (fail);try go_wp2)
       go_loopg [6] k2 (fun kq v6 w'=>∃ (Ae:Int),v6 = .int .i64 Ae∧Aside0 (garboardref57_SameEvent.l1 kq Ae a0_0 a0_1 a0_2 l0_3 l0_4 l0_5 a1_0 a1_1 a1_2 l1_3 l1_4 l1_5 = some r)∧Aside0 (kq≤k2)∧Aside0 (w'.heap[Ao]? = some (.cells #[.int .i64 a0_0,.int .i64 a0_1,.int .i64 a0_2,(.slice A0_3 l0_3.length c0_3),(.slice A0_4 l0_4.length c0_4),(.slice A0_5 l0_5.length c0_5)] 26 (0,0)))∧Aside0 (w'.heap[An]? = some (.cells #[.int .i64 a1_0,.int .i64 a1_1,.int .i64 a1_2,(.slice A1_3 l1_3.length c1_3),(.slice A1_4 l1_4.length c1_4),(.slice A1_5 l1_5.length c1_5)] 26 (0,0)))∧Aside0 (Below w.heap.size w w'))
       case atStart=>exact ⟨(0),rg_,H',⟨Nat.le_refl _⟩,⟨bk_⟩,⟨bk_⟩,⟨bx_⟩⟩
       case round =>
        clear H'
        try clear Db
        try clear Ci
        try clear Br
        try clear Bp
        try clear Bo
        try clear Bn
        try clear Bm
        try clear Bl
        try clear Bk
        try clear Bj
        try clear Bi
        try clear Bh
        try clear Bg
        try clear Bf
        try clear Be
        obtain ⟨Ae,rfl,HA,Qp,Ac,Ag,HB⟩:=hrel
        cases gk with
        | zero=>exact absurd HA.out (by simp [garboardref57_SameEvent.l1])
        | succ k3 =>
         have H:=HA.out
         clear HA
         simp only [garboardref57_SameEvent.l1] at H
         by_cases Cz:Ae < (l0_4.length:Int)
         ·rw [if_pos Cz] at H
          have Ch:decide (Ae < (l0_4.length:Int)) = true:=decide_eq_true Cz
          clear Cz
          by_cases Qm:0≤Ae
          ·rw [if_pos Qm] at H
           have Sk:decide (0≤Ae) = true:=decide_eq_true Qm
           clear Qm
           by_cases Ql:Ae < (l1_4.length:Int)
           ·rw [if_pos Ql] at H
            have Sj:decide (Ae < (l1_4.length:Int)) = true:=decide_eq_true Ql
            clear Ql
            by_cases Cy:(rdOf ByteArray.empty l0_4 Ae).toList = (rdOf ByteArray.empty l1_4 Ae).toList
            ·rw [if_pos Cy] at H
             have Dj:((rdOf ByteArray.empty l0_4 Ae).toList == (rdOf ByteArray.empty l1_4 Ae).toList) = true:=beq_iff_eq.mpr Cy
             have Di:((rdOf ByteArray.empty l0_4 Ae).toList != (rdOf ByteArray.empty l1_4 Ae).toList) = false:=bne_eq_false_iff_eq.mpr Cy
             clear Cy
             have H':=Aside0.mk H
             clear H
             have Rv:=Ab.out
             have Re:=Aa.out
             obtain ⟨Mc,Mb,Ma,Lz,Ly,Lx,Ga,Fz,Fy,Fx,Fw,Fv⟩:=c6_ Ac
             have Ba:0≤(Ae:Int):=da_
             have At:Ae < (l0_4.length:Int):=da_
             obtain ⟨Ds,Cu,Ak⟩:=Kd.at_string Cn.out Ae Ba At
             cases Cu
             replace Ak:=(HB.out.cell (World.block_lt_of_cell? w _ Ak)).trans Ak
             replace Ba:=eq_true Ba
             replace At:=eq_true At
             obtain ⟨Lw,Lv,Lu,Lt,Ls,Lr,Fu,Ft,Fs,Fr,Fq,Fp⟩:=c6_ Ag
             have Ay:0≤(Ae:Int):=da_
             have As:Ae < (l1_4.length:Int):=da_
             obtain ⟨Dr,Ct,Aj⟩:=Kd.at_string Ck.out Ae Ay As
             cases Ct
             replace Aj:=(HB.out.cell (World.block_lt_of_cell? w _ Aj)).trans Aj
             replace Ay:=eq_true Ay
             replace As:=eq_true As
             go_wp2
             repeat (go_quiet (fail);try go_wp2)
             go_roundg k3
             case measure=>have:=De.out;have:=Dd.out;have:=Qp.out;omega
             case rel=>exact ⟨(wrap64 (Ae + 1)),rg_,H',⟨by have:=De.out;have:=Dd.out;have:=Qp.out;omega⟩,⟨bk_⟩,⟨bk_⟩,⟨bx_⟩⟩
            ·rw [if_neg Cy] at H
             have Dj:((rdOf ByteArray.empty l0_4 Ae).toList == (rdOf ByteArray.empty l1_4 Ae).toList) = false:=beq_eq_false_iff_ne.mpr Cy
             have Di:((rdOf ByteArray.empty l0_4 Ae).toList != (rdOf ByteArray.empty l1_4 Ae).toList) = true:=bne_iff_ne.mpr Cy
             obtain rfl:=Option.some.inj H
             have Ru:=Ab.out
             have Rd:=Aa.out
             obtain ⟨Lq,Lp,Lo,Ln,Lm,Ll,Fo,Fm,Fl,Fk,Fj,Fi⟩:=c6_ Ac
             have Ba:0≤(Ae:Int):=da_
             have At:Ae < (l0_4.length:Int):=da_
             obtain ⟨Ds,Cu,Ak⟩:=Kd.at_string Cn.out Ae Ba At
             cases Cu
             replace Ak:=(HB.out.cell (World.block_lt_of_cell? w _ Ak)).trans Ak
             replace Ba:=eq_true Ba
             replace At:=eq_true At
             obtain ⟨Lk,Lj,Li,Lh,Lg,Lf,Fh,Fg,Ff,Fe,Fd,Fc⟩:=c6_ Ag
             have Ay:0≤(Ae:Int):=da_
             have As:Ae < (l1_4.length:Int):=da_
             obtain ⟨Dr,Ct,Aj⟩:=Kd.at_string Ck.out Ae Ay As
             cases Ct
             replace Aj:=(HB.out.cell (World.block_lt_of_cell? w _ Aj)).trans Aj
             replace Ay:=eq_true Ay
             replace As:=eq_true As
             go_wp2
             repeat (go_quiet (fail);try go_wp2)
             go_ret
             exact ⟨rf_,bx_⟩
           ·rw [if_neg Ql] at H
            exact absurd H sm_
          ·rw [if_neg Qm] at H
           exact absurd H sm_
         ·rw [if_neg Cz] at H
          have Ch:decide (Ae < (l0_4.length:Int)) = false:=decide_eq_false Cz
          clear Cz
          have H':=Aside0.mk H
          clear H
          have Rs:=Ab.out
          have Rc:=Aa.out
          obtain ⟨Cg,Cf,Ce,Cc,Cb,Ca,Bz,By,Bx,Bw,Bv,Bu⟩:=c6_ Ac
          go_wp2
          repeat (go_quiet (fail);try go_wp2)
          go_loopg [7] k3 (fun kq v7 w'=>∃ (Ad:Int),v7 = .int .i64 Ad∧Aside0 (garboardref57_SameEvent.l2 kq Ad a0_0 a0_1 a0_2 l0_3 l0_4 l0_5 a1_0 a1_1 a1_2 l1_3 l1_4 l1_5 = some r)∧Aside0 (kq≤k3)∧Aside0 (w'.heap[Ao]? = some (.cells #[.int .i64 a0_0,.int .i64 a0_1,.int .i64 a0_2,(.slice A0_3 l0_3.length c0_3),(.slice A0_4 l0_4.length c0_4),(.slice A0_5 l0_5.length c0_5)] 26 (0,0)))∧Aside0 (w'.heap[An]? = some (.cells #[.int .i64 a1_0,.int .i64 a1_1,.int .i64 a1_2,(.slice A1_3 l1_3.length c1_3),(.slice A1_4 l1_4.length c1_4),(.slice A1_5 l1_5.length c1_5)] 26 (0,0)))∧Aside0 (Below w.heap.size w w'))
          case atStart=>exact ⟨(0),rg_,H',⟨Nat.le_refl _⟩,⟨bk_⟩,⟨bk_⟩,⟨bx_⟩⟩
          case round =>
           clear H'
           try clear Db
           try clear Ci
           try clear Br
           try clear Cz
           try clear Ch
           try clear Bp
           try clear Bo
           try clear Bn
           try clear Bm
           try clear Bl
           try clear Bk
           try clear Cg
           try clear Cf
           try clear Ce
           try clear Cc
           try clear Cb
           try clear Ca
           try clear Bj
           try clear Bi
           try clear Bh
           try clear Bg
           try clear Bf
           try clear Be
           try clear Bz
           try clear By
           try clear Bx
           try clear Bw
           try clear Bv
           try clear Bu
           obtain ⟨Ad,rfl,HA,So,Ac,Ag,HB⟩:=hrel
           cases gk with
           | zero=>exact absurd HA.out (by simp [garboardref57_SameEvent.l2])
           | succ k4 =>
            have H:=HA.out
            clear HA
            simp only [garboardref57_SameEvent.l2] at H
            by_cases Dc:Ad < (l0_5.length:Int)
            ·rw [if_pos Dc] at H
             have Dh:decide (Ad < (l0_5.length:Int)) = true:=decide_eq_true Dc
             clear Dc
             by_cases Qk:0≤Ad
             ·rw [if_pos Qk] at H
              have Si:decide (0≤Ad) = true:=decide_eq_true Qk
              clear Qk
              by_cases Qj:Ad < (l1_5.length:Int)
              ·rw [if_pos Qj] at H
               have Sg:decide (Ad < (l1_5.length:Int)) = true:=decide_eq_true Qj
               clear Qj
               by_cases Cx:(rdOf ByteArray.empty l0_5 Ad).toList = (rdOf ByteArray.empty l1_5 Ad).toList
               ·rw [if_pos Cx] at H
                have Dg:((rdOf ByteArray.empty l0_5 Ad).toList == (rdOf ByteArray.empty l1_5 Ad).toList) = true:=beq_iff_eq.mpr Cx
                have Df:((rdOf ByteArray.empty l0_5 Ad).toList != (rdOf ByteArray.empty l1_5 Ad).toList) = false:=bne_eq_false_iff_eq.mpr Cx
                clear Cx
                have H':=Aside0.mk H
                clear H
                have Rq:=Ab.out
                have Rb:=Aa.out
                obtain ⟨Le,Ld,Lc,Lb,La,Kz,Fb,Fa,Ez,Ey,Ex,Ew⟩:=c6_ Ac
                have Ax:0≤(Ad:Int):=da_
                have Aq:Ad < (l0_5.length:Int):=da_
                obtain ⟨Dq,Cs,Ai⟩:=Kd.at_string Cm.out Ad Ax Aq
                cases Cs
                replace Ai:=(HB.out.cell (World.block_lt_of_cell? w _ Ai)).trans Ai
                replace Ax:=eq_true Ax
                replace Aq:=eq_true Aq
                obtain ⟨Ky,Kx,Kw,Kv,Ku,Kt,Eu,Et,Es,Er,Ep,Eo⟩:=c6_ Ag
                have Aw:0≤(Ad:Int):=da_
                have Ap:Ad < (l1_5.length:Int):=da_
                obtain ⟨Dp,Cr,Ah⟩:=Kd.at_string Cj.out Ad Aw Ap
                cases Cr
                replace Ah:=(HB.out.cell (World.block_lt_of_cell? w _ Ah)).trans Ah
                replace Aw:=eq_true Aw
                replace Ap:=eq_true Ap
                go_wp2
                repeat (go_quiet (fail);try go_wp2)
                go_roundg k4
                case measure=>have:=De.out;have:=Dd.out;have:=Qp.out;have:=So.out;omega
                case rel=>exact ⟨(wrap64 (Ad + 1)),rg_,H',⟨by have:=De.out;have:=Dd.out;have:=Qp.out;have:=So.out;omega⟩,⟨bk_⟩,⟨bk_⟩,⟨bx_⟩⟩
               ·rw [if_neg Cx] at H
                have Dg:((rdOf ByteArray.empty l0_5 Ad).toList == (rdOf ByteArray.empty l1_5 Ad).toList) = false:=beq_eq_false_iff_ne.mpr Cx
                have Df:((rdOf ByteArray.empty l0_5 Ad).toList != (rdOf ByteArray.empty l1_5 Ad).toList) = true:=bne_iff_ne.mpr Cx
                obtain rfl:=Option.some.inj H
                have Rp:=Ab.out
                have Ra:=Aa.out
                obtain ⟨Ks,Kr,Kq,Kp,Ko,Kn,Em,El,Ek,Ej,Ei,Eh⟩:=c6_ Ac
                have Ax:0≤(Ad:Int):=da_
                have Aq:Ad < (l0_5.length:Int):=da_
                obtain ⟨Dq,Cs,Ai⟩:=Kd.at_string Cm.out Ad Ax Aq
                cases Cs
                replace Ai:=(HB.out.cell (World.block_lt_of_cell? w _ Ai)).trans Ai
                replace Ax:=eq_true Ax
                replace Aq:=eq_true Aq
                obtain ⟨Km,Kl,Kk,Kj,Ki,Kh,Eg,Ef,Ee,Ed,Ec,Eb⟩:=c6_ Ag
                have Aw:0≤(Ad:Int):=da_
                have Ap:Ad < (l1_5.length:Int):=da_
                obtain ⟨Dp,Cr,Ah⟩:=Kd.at_string Cj.out Ad Aw Ap
                cases Cr
                replace Ah:=(HB.out.cell (World.block_lt_of_cell? w _ Ah)).trans Ah
                replace Aw:=eq_true Aw
                replace Ap:=eq_true Ap
                go_wp2
                repeat (go_quiet (fail);try go_wp2)
                go_ret
                exact ⟨rf_,bx_⟩
              ·rw [if_neg Qj] at H
               exact absurd H sm_
             ·rw [if_neg Qk] at H
              exact absurd H sm_
            ·rw [if_neg Dc] at H
             have Dh:decide (Ad < (l0_5.length:Int)) = false:=decide_eq_false Dc
             clear Dc
             obtain rfl:=Option.some.inj H
             have Ro:=Ab.out
             have Qz:=Aa.out
             obtain ⟨Kg,Kf,Ke,Kb,Ka,Jz,Ea,Dz,Dy,Dx,Dw,Dv⟩:=c6_ Ac
             go_wp2
             repeat (go_quiet (fail);try go_wp2)
             go_ret
             exact ⟨rf_,bx_⟩
set_option maxHeartbeats 8000000
set_option maxRecDepth 100000
def garboardref57_Same.l0:Nat→List (S52)→List (S52)→Int→Option (Bool)
 | 0,_,_,_=>none
 | k + 1,x0,x1,x5=>if x5 < (x0.length:Int) then (if 0≤x5 then (if x5 < (x1.length:Int) then (if ((rd_T52 x0 x5).f1).toList = ((rd_T52 x1 x5).f1).toList then ((garboardref57_SameEvent.f k ((rd_T52 x0 x5).f0.f0) ((rd_T52 x0 x5).f0.f1) ((rd_T52 x0 x5).f0.f2) ((rd_T52 x0 x5).f0.f3) ((rd_T52 x0 x5).f0.f4) ((rd_T52 x0 x5).f0.f5) ((rd_T52 x1 x5).f0.f0) ((rd_T52 x1 x5).f0.f1) ((rd_T52 x1 x5).f0.f2) ((rd_T52 x1 x5).f0.f3) ((rd_T52 x1 x5).f0.f4) ((rd_T52 x1 x5).f0.f5)).bind fun t339=>(if t339 = true then (garboardref57_Same.l0 k x0 x1 (wrap64 (x5 + 1))) else (some false))) else (some false)) else (none)) else (none)) else (some true)
def garboardref57_Same.f (k:Nat) (l0:List (S52)) (l1:List (S52)):Option (Bool):=if (l0.length:Int) = (l1.length:Int) then (garboardref57_Same.l0 k l0 l1 0) else (some false)
theorem garboardref57_Same.mono_l:∀ k,(∀ y0 y1 y2,LeO (garboardref57_Same.l0 k y0 y1 y2) (garboardref57_Same.l0 (k + 1) y0 y1 y2))
 | 0=>fun _ _ _ r h=>by simp [garboardref57_Same.l0] at h
 | k + 1=>by
  have ih0:=garboardref57_Same.mono_l k
  ·intro y0 y1 y2
   unfold garboardref57_Same.l0
   repeat' first
   | (with_reducible exact ih0 _ _ _)
   | (with_reducible exact garboardref57_SameEvent.mono _ _ _ _ _ _ _ _ _ _ _ _ _)
   | (with_reducible exact LeO.refl _)
   | (with_reducible exact LeO.none _)
   | (with_reducible refine LeO.ite ?_ ?_)
   | (with_reducible refine LeO.bind ?_ (fun _=>?_))
   | exact ih0 _ _ _
   | exact garboardref57_SameEvent.mono _ _ _ _ _ _ _ _ _ _ _ _ _
   | exact LeO.none _
   | refine LeO.ite ?_ ?_
   | refine LeO.bind ?_ (fun _=>?_)
theorem garboardref57_Same.mono:∀ a0 a1 k,LeO (garboardref57_Same.f k a0 a1) (garboardref57_Same.f (k + 1) a0 a1):=by
 intro a0 a1 k
 have Aa:=garboardref57_Same.mono_l k
 unfold garboardref57_Same.f
 repeat' first
   | (with_reducible exact Aa _ _ _)
   | (with_reducible exact garboardref57_SameEvent.mono _ _ _ _ _ _ _ _ _ _ _ _ _)
   | (with_reducible exact LeO.refl _)
   | (with_reducible exact LeO.none _)
   | (with_reducible refine LeO.ite ?_ ?_)
   | (with_reducible refine LeO.bind ?_ (fun _=>?_))
   | exact Aa _ _ _
   | exact garboardref57_SameEvent.mono _ _ _ _ _ _ _ _ _ _ _ _ _
   | exact LeO.none _
   | refine LeO.ite ?_ ?_
   | refine LeO.bind ?_ (fun _=>?_)
def garboardref57_Same.T6:Bool × List (List Nat × List Nat):=(true,[([],[]),([],[]),([0,1],[0,1]),([2],[2]),([3],[3]),([],[]),([],[]),([5,6],[5,6]),([7],[7]),([8],[8]),([4,9],[4,9]),([10],[10]),([11],[11]),([11],[11]),([12,13,11],[11,12,13]),([14,11],[11,14]),([15,11],[11,15]),([11],[11]),([11],[11]),([17,18,11],[11,17,18]),([19,11],[11,19]),([20,11],[11,20]),([16,21,11,11],[11,16,21]),([22,11],[11,22]),([11,23],[11,23])])
def garboardref57_Same.B6:List Nat:=[0,0,3,7,15,0,0,96,224,480,1023,2047,4095,4095,16383,32767,65535,4095,4095,397311,921599,1970175,4194303,8388607,16777215]
theorem garboardref57_Same.tab6:rtab .any (opsOf Tryz.f24 6) = garboardref57_Same.T6:=by kernel_rfl
theorem garboardref57_Same.bits6:waitsOk garboardref57_Same.T6.2 garboardref57_Same.B6 = true:=by kernel_rfl
theorem garboardref57_Same.calls (k:Nat) (A0:Option Addr) (c0:Nat) (l0:List (S52)) (A1:Option Addr) (c1:Nat) (l1:List (S52)) (r:Bool) (w:World) (hr0:Kd.C k52 w A0 l0.length l0) (hc0:l0.length≤c0) (hr1:Kd.C k52 w A1 l1.length l1) (hc1:l1.length≤c1) (h:garboardref57_Same.f k l0 l1 = some r) :
  Calls Tryz.prog 24 #[.slice A0 l0.length c0,.slice A1 l1.length c1] w fun e w'=>e = .returned (.bool r)∧Below w.heap.size w w':=by
 have Fl:=Tryz.underlying26
 have Fc:=Aside0.mk hr0
 have Fu:=Aside0.mk hc0
 clear hr0 hc0
 have Fb:=Aside0.mk hr1
 have Ft:=Aside0.mk hc1
 clear hr1 hc1
 have HB:=Aside0.mk (Below.refl w.heap.size w)
 have H:=h;clear h;unfold garboardref57_Same.f at H
 by_cases c3:(l0.length:Int) = (l1.length:Int)
 ·rw [if_pos c3] at H
  have Dw:((l0.length:Int) == (l1.length:Int)) = true:=beq_iff_eq.mpr c3
  have Dv:((l0.length:Int) != (l1.length:Int)) = false:=bne_eq_false_iff_eq.mpr c3
  have Du:(l0.length == l1.length) = true:=by first|simpa using c3|(simp at c3 ⊢;omega)
  clear c3
  have H':=Aside0.mk H
  clear H
  go_enter Tryz.func24,Tryz.ntmps24
  go_wp2
  go_loopg [5] k (fun kq v5 w'=>∃ (Aa:Int),v5 = .int .i64 Aa∧Aside0 (garboardref57_Same.l0 kq l0 l1 Aa = some r)∧Aside0 (kq≤k)∧Aside0 (Below w.heap.size w w'))
  case atStart=>exact ⟨(0),rg_,H',⟨Nat.le_refl _⟩,⟨bx_⟩⟩
  case round =>
   clear H'
   try clear c1
   try clear c3
   try clear Dw
   try clear Dv
   try clear Du
   obtain ⟨Aa,rfl,HA,Fj,HB⟩:=hrel
   cases gk with
   | zero=>exact absurd HA.out (by simp [garboardref57_Same.l0])
   | succ k1 =>
    have H:=HA.out
    clear HA
    simp only [garboardref57_Same.l0] at H
    by_cases c4:Aa < (l0.length:Int)
    ·rw [if_pos c4] at H
     have Et:decide (Aa < (l0.length:Int)) = true:=decide_eq_true c4
     clear c4
     by_cases c5:0≤Aa
     ·rw [if_pos c5] at H
      have Fo:decide (0≤Aa) = true:=decide_eq_true c5
      clear c5
      by_cases c6:Aa < (l1.length:Int)
      ·rw [if_pos c6] at H
       have Fm:decide (Aa < (l1.length:Int)) = true:=decide_eq_true c6
       clear c6
       by_cases c7:((rd_T52 l0 Aa).f1).toList = ((rd_T52 l1 Aa).f1).toList
       ·rw [if_pos c7] at H
        have Es:(((rd_T52 l0 Aa).f1).toList == ((rd_T52 l1 Aa).f1).toList) = true:=beq_iff_eq.mpr c7
        have Er:(((rd_T52 l0 Aa).f1).toList != ((rd_T52 l1 Aa).f1).toList) = false:=bne_eq_false_iff_eq.mpr c7
        clear c7
        obtain ⟨Dt,A8,H⟩:=bn_ H
        have Fk:=Aside0.mk H
        clear H
        try go_wp2
        replace HB:=db_ HB
        have Cg:0≤(Aa:Int):=da_
        have Ce:Aa < (l0.length:Int):=da_
        obtain ⟨Ac,Ca,Bn,Bz,Bm,By,Bl,Ds,Aq,Ap,Ao,An,Am,Al,Ak,Bh,Bg,Bf,Ay,Ax,Aw,Be,Bu,Dm,Bt,Dl,Br,Dk⟩:=ap52_ Fc HB Aa Cg Ce
        cases Ds
        replace Cg:=eq_true Cg
        replace Ce:=eq_true Ce
        have Cf:0≤(Aa:Int):=da_
        have Cc:Aa < (l1.length:Int):=da_
        obtain ⟨Ab,Bx,Bk,Bw,Bj,Bv,Bi,Dr,Aj,Ai,Ah,Ag,Af,Ae,Ad,Bd,Bc,Bb,Av,Au,At,Ba,Bq,Dj,Bp,Di,Bo,Dh⟩:=ap52_ Fb HB Aa Cf Cc
        cases Dr
        replace Cf:=eq_true Cf
        replace Cc:=eq_true Cc
        have Dq:0≤(Aa:Int):=da_
        have Do:Aa < (l0.length:Int):=da_
        obtain ⟨Dy,Fi,Fa,Fh,Ez,Fg,Ey,Ep,Em,El,Ek,Ej,Ei,Eh,Eg,Da,Cz,Cy,Cm,Cl,Ck,Cx,Cs,Dg,Cr,Df,Cq,De⟩:=ap52_ Fc HB Aa Dq Do
        obtain rfl:Ac = Dy:=(by injection Ep)
        replace Dq:=eq_true Dq
        replace Do:=eq_true Do
        obtain ⟨rfl,rfl⟩:=es_ Ay Cm
        obtain ⟨rfl,rfl⟩:=es_ Ax Cl
        obtain ⟨rfl,rfl⟩:=es_ Aw Ck
        have Dp:0≤(Aa:Int):=da_
        have Dn:Aa < (l1.length:Int):=da_
        obtain ⟨Dx,Ff,Ex,Fe,Ew,Fd,Eu,Eo,Ef,Ee,Ed,Ec,Eb,Ea,Dz,Cw,Cv,Cu,Cj,Ci,Ch,Ct,Cp,Dd,Co,Dc,Cn,Db⟩:=ap52_ Fb HB Aa Dp Dn
        obtain rfl:Ab = Dx:=(by injection Eo)
        replace Dp:=eq_true Dp
        replace Dn:=eq_true Dn
        obtain ⟨rfl,rfl⟩:=es_ Av Cj
        obtain ⟨rfl,rfl⟩:=es_ Au Ci
        obtain ⟨rfl,rfl⟩:=es_ At Ch
        refine start_ (n:=25) (S:=fun w'=>w'.cell? (Ac.add ((Aa).toNat * 7)) = some (.int .i64 ((rd_T52 l0 Aa).f0.f0))∧w'.cell? ⟨(Ac.add ((Aa).toNat * 7)).block,(Ac.add ((Aa).toNat * 7)).off + 1,none⟩ = some (.int .i64 ((rd_T52 l0 Aa).f0.f1))∧w'.cell? ⟨(Ac.add ((Aa).toNat * 7)).block,(Ac.add ((Aa).toNat * 7)).off + 2,none⟩ = some (.int .i64 ((rd_T52 l0 Aa).f0.f2))∧w'.cell? ⟨(Ac.add ((Aa).toNat * 7)).block,(Ac.add ((Aa).toNat * 7)).off + 3,none⟩ = some (.slice Ca ((rd_T52 l0 Aa).f0.f3).length Bn)∧w'.cell? ⟨(Ac.add ((Aa).toNat * 7)).block,(Ac.add ((Aa).toNat * 7)).off + 4,none⟩ = some (.slice Bz ((rd_T52 l0 Aa).f0.f4).length Bm)∧w'.cell? ⟨(Ac.add ((Aa).toNat * 7)).block,(Ac.add ((Aa).toNat * 7)).off + 5,none⟩ = some (.slice By ((rd_T52 l0 Aa).f0.f5).length Bl)∧w'.cell? ⟨(Ac.add ((Aa).toNat * 7)).block,(Ac.add ((Aa).toNat * 7)).off + 6,none⟩ = some (.string ((rd_T52 l0 Aa).f1))∧w'.cell? (Ab.add ((Aa).toNat * 7)) = some (.int .i64 ((rd_T52 l1 Aa).f0.f0))∧w'.cell? ⟨(Ab.add ((Aa).toNat * 7)).block,(Ab.add ((Aa).toNat * 7)).off + 1,none⟩ = some (.int .i64 ((rd_T52 l1 Aa).f0.f1))∧w'.cell? ⟨(Ab.add ((Aa).toNat * 7)).block,(Ab.add ((Aa).toNat * 7)).off + 2,none⟩ = some (.int .i64 ((rd_T52 l1 Aa).f0.f2))∧w'.cell? ⟨(Ab.add ((Aa).toNat * 7)).block,(Ab.add ((Aa).toNat * 7)).off + 3,none⟩ = some (.slice Bx ((rd_T52 l1 Aa).f0.f3).length Bk)∧w'.cell? ⟨(Ab.add ((Aa).toNat * 7)).block,(Ab.add ((Aa).toNat * 7)).off + 4,none⟩ = some (.slice Bw ((rd_T52 l1 Aa).f0.f4).length Bj)∧w'.cell? ⟨(Ab.add ((Aa).toNat * 7)).block,(Ab.add ((Aa).toNat * 7)).off + 5,none⟩ = some (.slice Bv ((rd_T52 l1 Aa).f0.f5).length Bi)∧w'.cell? ⟨(Ab.add ((Aa).toNat * 7)).block,(Ab.add ((Aa).toNat * 7)).off + 6,none⟩ = some (.string ((rd_T52 l1 Aa).f1))) (ds:=[]) #[false,false,false,false,false,false,false,false,false,false,false,false,false,false,false,false,false,false,false,false,false,false,false,false,false] kr_ rfl rfl ⟨((HB.out.cell (World.block_lt_of_cell? w _ Aq)).trans Aq),((HB.out.cell (World.block_lt_of_cell? w _ Ap)).trans Ap),((HB.out.cell (World.block_lt_of_cell? w _ Ao)).trans Ao),((HB.out.cell (World.block_lt_of_cell? w _ An)).trans An),((HB.out.cell (World.block_lt_of_cell? w _ Am)).trans Am),((HB.out.cell (World.block_lt_of_cell? w _ Al)).trans Al),((HB.out.cell (World.block_lt_of_cell? w _ Ak)).trans Ak),((HB.out.cell (World.block_lt_of_cell? w _ Aj)).trans Aj),((HB.out.cell (World.block_lt_of_cell? w _ Ai)).trans Ai),((HB.out.cell (World.block_lt_of_cell? w _ Ah)).trans Ah),((HB.out.cell (World.block_lt_of_cell? w _ Ag)).trans Ag),((HB.out.cell (World.block_lt_of_cell? w _ Af)).trans Af),((HB.out.cell (World.block_lt_of_cell? w _ Ae)).trans Ae),((HB.out.cell (World.block_lt_of_cell? w _ Ad)).trans Ad)⟩ (fun As=>?_);refine with_tabW garboardref57_Same.tab6 garboardref57_Same.bits6 (fun Cb Fp=>?_)
        generalize wr.drew = Fs at HB Bu Bt Br Bq Bp Bo Cs Cr Cq Cp Co Cn Bh Bg Bf Ay Ax Aw Be Bd Bc Bb Av Au At Ba Da Cz Cy Cm Cl Ck Cx Cw Cv Cu Cj Ci Ch Ct As ⊢
        refine pu_ 0 (some 17) (tt_ 25 1) ?_
        refine pu_ 1 (some 18) (tt_ 25 3) ?_
        refine pu_ 2 (some 19) (tt_ 25 7) ?_
        refine pu_ 3 (some 20) (tt_ 25 15) ?_
        refine pu_ 5 (some 22) (tt_ 25 47) ?_
        refine pu_ 6 (some 23) (tt_ 25 111) ?_
        refine pu_ 7 (some 24) (tt_ 25 239) ?_
        refine pu_ 8 (some 25) (tt_ 25 495) ?_
        refine tk_ 4 (some 21) (tt_ 25 511) As ?_
        refine tk_ 9 (some 26) (tt_ 25 1023) As ?_
        refine pu_ 10 (some 27) (tt_ 25 2047) ?_
        refine pu_ 11 (some 28) (tt_ 25 4095) ?_
        refine pu_ 12 (some 29) (tt_ 25 8191) ?_
        refine pu_ 13 (some 30) (tt_ 25 16383) ?_
        refine pu_ 14 (some 31) (tt_ 25 32767) ?_
        refine pu_ 15 (some 32) (tt_ 25 65535) ?_
        refine pu_ 17 (some 34) (tt_ 25 196607) ?_
        refine pu_ 18 (some 35) (tt_ 25 458751) ?_
        refine pu_ 19 (some 36) (tt_ 25 983039) ?_
        refine pu_ 20 (some 37) (tt_ 25 2031615) ?_
        refine tk_ 16 (some 33) (tt_ 25 2097151) As ?_
        refine tk_ 21 (some 38) (tt_ 25 4194303) As ?_
        refine oc_ 22 (some 39) (tt_ 25 8388607) Tryz.func17 #[.agg #[.int .i64 ((rd_T52 l0 Aa).f0.f0),.int .i64 ((rd_T52 l0 Aa).f0.f1),.int .i64 ((rd_T52 l0 Aa).f0.f2),.slice Ca ((rd_T52 l0 Aa).f0.f3).length Bn,.slice Bz ((rd_T52 l0 Aa).f0.f4).length Bm,.slice By ((rd_T52 l0 Aa).f0.f5).length Bl],.agg #[.int .i64 ((rd_T52 l1 Aa).f0.f0),.int .i64 ((rd_T52 l1 Aa).f0.f1),.int .i64 ((rd_T52 l1 Aa).f0.f2),.slice Bx ((rd_T52 l1 Aa).f0.f3).length Bk,.slice Bw ((rd_T52 l1 Aa).f0.f4).length Bj,.slice Bv ((rd_T52 l1 Aa).f0.f5).length Bi]] (fun K hK=>?_)
        with_reducible refine (garboardref57_SameEvent.calls k1 ((rd_T52 l0 Aa).f0.f0) ((rd_T52 l0 Aa).f0.f1) ((rd_T52 l0 Aa).f0.f2) _ _ ((rd_T52 l0 Aa).f0.f3) _ _ ((rd_T52 l0 Aa).f0.f4) _ _ ((rd_T52 l0 Aa).f0.f5) ((rd_T52 l1 Aa).f0.f0) ((rd_T52 l1 Aa).f0.f1) ((rd_T52 l1 Aa).f0.f2) _ _ ((rd_T52 l1 Aa).f0.f3) _ _ ((rd_T52 l1 Aa).f0.f4) _ _ ((rd_T52 l1 Aa).f0.f5) Dt _ ?side1 ?side2 ?side3 ?side4 ?side5 ?side6 ?side7 ?side8 ?side9 ?side10 ?side11 ?side12 A8.out).mono ?_
        (case side1=>exact cx_ (Kd.C_below Cs.out HB.out))
        (case side2=>exact Dg.out)
        (case side3=>exact cx_ (Kd.C_below Cr.out HB.out))
        (case side4=>exact Df.out)
        (case side5=>exact cx_ (Kd.C_below Cq.out HB.out))
        (case side6=>exact De.out)
        (case side7=>exact cx_ (Kd.C_below Cp.out HB.out))
        (case side8=>exact Dd.out)
        (case side9=>exact cx_ (Kd.C_below Co.out HB.out))
        (case side10=>exact Dc.out)
        (case side11=>exact cx_ (Kd.C_below Cn.out HB.out))
        (case side12=>exact Db.out)
        rintro e Fr ⟨rfl,hb⟩
        refine ⟨_,rfl,?_⟩
        replace HB:=bs_ hb
        (try clear hb)
        refine hK.out _ _ ⟨((HB.out.cell (World.block_lt_of_cell? w _ Aq)).trans Aq),((HB.out.cell (World.block_lt_of_cell? w _ Ap)).trans Ap),((HB.out.cell (World.block_lt_of_cell? w _ Ao)).trans Ao),((HB.out.cell (World.block_lt_of_cell? w _ An)).trans An),((HB.out.cell (World.block_lt_of_cell? w _ Am)).trans Am),((HB.out.cell (World.block_lt_of_cell? w _ Al)).trans Al),((HB.out.cell (World.block_lt_of_cell? w _ Ak)).trans Ak),((HB.out.cell (World.block_lt_of_cell? w _ Aj)).trans Aj),((HB.out.cell (World.block_lt_of_cell? w _ Ai)).trans Ai),((HB.out.cell (World.block_lt_of_cell? w _ Ah)).trans Ah),((HB.out.cell (World.block_lt_of_cell? w _ Ag)).trans Ag),((HB.out.cell (World.block_lt_of_cell? w _ Af)).trans Af),((HB.out.cell (World.block_lt_of_cell? w _ Ae)).trans Ae),((HB.out.cell (World.block_lt_of_cell? w _ Ad)).trans Ad)⟩ (fun As=>?_)
        clear hK K
        cases Dt
        case true=>
         have H:=Fk.out
         rw [if_pos rfl] at H
         have H':=Aside0.mk H
         clear H
         refine norm_ (a':=?_) ?_ ?_
         rotate_left
         ·show Act.put _ (some 39) _ = _
          simp only [Act.put,List.setIfInBounds_toArray,List.set_cons_zero,List.set_cons_succ,i64_w,i32_w]
          rfl
         refine pu_ 23 (some 40) (tt_ 25 16777215) ?_
         refine pu_ 24 (some 41) (tt_ 25 33554431) ?_
         refine done_ (done_of Cb.out kr_) ?_
         try go_wp2
         go_roundg k1
         case measure=>have:=Fj.out;omega
         case rel=>exact ⟨(wrap64 (Aa + 1)),rg_,H',⟨by have:=Fj.out;omega⟩,⟨bx_⟩⟩
        case false=>
         have H:=Fk.out
         rw [if_neg (show ¬ (false = true) by decide)] at H
         obtain rfl:=Option.some.inj H
         refine norm_ (a':=?_) ?_ ?_
         rotate_left
         ·show Act.put _ (some 39) _ = _
          simp only [Act.put,List.setIfInBounds_toArray,List.set_cons_zero,List.set_cons_succ,i64_w,i32_w]
          rfl
         refine pu_ 23 (some 40) (tt_ 25 16777215) ?_
         refine pu_ 24 (some 41) (tt_ 25 33554431) ?_
         refine done_ (done_of Cb.out kr_) ?_
         try go_wp2
         go_ret
         exact ⟨rf_,bx_⟩
       ·rw [if_neg c7] at H
        have Es:(((rd_T52 l0 Aa).f1).toList == ((rd_T52 l1 Aa).f1).toList) = false:=beq_eq_false_iff_ne.mpr c7
        have Er:(((rd_T52 l0 Aa).f1).toList != ((rd_T52 l1 Aa).f1).toList) = true:=bne_iff_ne.mpr c7
        obtain rfl:=Option.some.inj H
        try go_wp2
        replace HB:=db_ HB
        have Cg:0≤(Aa:Int):=da_
        have Ce:Aa < (l0.length:Int):=da_
        obtain ⟨Ac,Ca,Bn,Bz,Bm,By,Bl,Ds,Aq,Ap,Ao,An,Am,Al,Ak,Bh,Bg,Bf,Ay,Ax,Aw,Be,Bu,Dm,Bt,Dl,Br,Dk⟩:=ap52_ Fc HB Aa Cg Ce
        cases Ds
        replace Cg:=eq_true Cg
        replace Ce:=eq_true Ce
        have Cf:0≤(Aa:Int):=da_
        have Cc:Aa < (l1.length:Int):=da_
        obtain ⟨Ab,Bx,Bk,Bw,Bj,Bv,Bi,Dr,Aj,Ai,Ah,Ag,Af,Ae,Ad,Bd,Bc,Bb,Av,Au,At,Ba,Bq,Dj,Bp,Di,Bo,Dh⟩:=ap52_ Fb HB Aa Cf Cc
        cases Dr
        replace Cf:=eq_true Cf
        replace Cc:=eq_true Cc
        refine start_ (n:=25) (S:=fun w'=>w'.cell? (Ac.add ((Aa).toNat * 7)) = some (.int .i64 ((rd_T52 l0 Aa).f0.f0))∧w'.cell? ⟨(Ac.add ((Aa).toNat * 7)).block,(Ac.add ((Aa).toNat * 7)).off + 1,none⟩ = some (.int .i64 ((rd_T52 l0 Aa).f0.f1))∧w'.cell? ⟨(Ac.add ((Aa).toNat * 7)).block,(Ac.add ((Aa).toNat * 7)).off + 2,none⟩ = some (.int .i64 ((rd_T52 l0 Aa).f0.f2))∧w'.cell? ⟨(Ac.add ((Aa).toNat * 7)).block,(Ac.add ((Aa).toNat * 7)).off + 3,none⟩ = some (.slice Ca ((rd_T52 l0 Aa).f0.f3).length Bn)∧w'.cell? ⟨(Ac.add ((Aa).toNat * 7)).block,(Ac.add ((Aa).toNat * 7)).off + 4,none⟩ = some (.slice Bz ((rd_T52 l0 Aa).f0.f4).length Bm)∧w'.cell? ⟨(Ac.add ((Aa).toNat * 7)).block,(Ac.add ((Aa).toNat * 7)).off + 5,none⟩ = some (.slice By ((rd_T52 l0 Aa).f0.f5).length Bl)∧w'.cell? ⟨(Ac.add ((Aa).toNat * 7)).block,(Ac.add ((Aa).toNat * 7)).off + 6,none⟩ = some (.string ((rd_T52 l0 Aa).f1))∧w'.cell? (Ab.add ((Aa).toNat * 7)) = some (.int .i64 ((rd_T52 l1 Aa).f0.f0))∧w'.cell? ⟨(Ab.add ((Aa).toNat * 7)).block,(Ab.add ((Aa).toNat * 7)).off + 1,none⟩ = some (.int .i64 ((rd_T52 l1 Aa).f0.f1))∧w'.cell? ⟨(Ab.add ((Aa).toNat * 7)).block,(Ab.add ((Aa).toNat * 7)).off + 2,none⟩ = some (.int .i64 ((rd_T52 l1 Aa).f0.f2))∧w'.cell? ⟨(Ab.add ((Aa).toNat * 7)).block,(Ab.add ((Aa).toNat * 7)).off + 3,none⟩ = some (.slice Bx ((rd_T52 l1 Aa).f0.f3).length Bk)∧w'.cell? ⟨(Ab.add ((Aa).toNat * 7)).block,(Ab.add ((Aa).toNat * 7)).off + 4,none⟩ = some (.slice Bw ((rd_T52 l1 Aa).f0.f4).length Bj)∧w'.cell? ⟨(Ab.add ((Aa).toNat * 7)).block,(Ab.add ((Aa).toNat * 7)).off + 5,none⟩ = some (.slice Bv ((rd_T52 l1 Aa).f0.f5).length Bi)∧w'.cell? ⟨(Ab.add ((Aa).toNat * 7)).block,(Ab.add ((Aa).toNat * 7)).off + 6,none⟩ = some (.string ((rd_T52 l1 Aa).f1))) (ds:=[]) #[false,false,false,false,false,false,false,false,false,false,false,false,false,false,false,false,false,false,false,false,false,false,false,false,false] kr_ rfl rfl ⟨((HB.out.cell (World.block_lt_of_cell? w _ Aq)).trans Aq),((HB.out.cell (World.block_lt_of_cell? w _ Ap)).trans Ap),((HB.out.cell (World.block_lt_of_cell? w _ Ao)).trans Ao),((HB.out.cell (World.block_lt_of_cell? w _ An)).trans An),((HB.out.cell (World.block_lt_of_cell? w _ Am)).trans Am),((HB.out.cell (World.block_lt_of_cell? w _ Al)).trans Al),((HB.out.cell (World.block_lt_of_cell? w _ Ak)).trans Ak),((HB.out.cell (World.block_lt_of_cell? w _ Aj)).trans Aj),((HB.out.cell (World.block_lt_of_cell? w _ Ai)).trans Ai),((HB.out.cell (World.block_lt_of_cell? w _ Ah)).trans Ah),((HB.out.cell (World.block_lt_of_cell? w _ Ag)).trans Ag),((HB.out.cell (World.block_lt_of_cell? w _ Af)).trans Af),((HB.out.cell (World.block_lt_of_cell? w _ Ae)).trans Ae),((HB.out.cell (World.block_lt_of_cell? w _ Ad)).trans Ad)⟩ (fun As=>?_);refine with_tabW garboardref57_Same.tab6 garboardref57_Same.bits6 (fun Cb Fp=>?_)
        generalize wr.drew = Fq at HB Bu Bt Br Bq Bp Bo Bh Bg Bf Ay Ax Aw Be Bd Bc Bb Av Au At Ba As ⊢
        refine pu_ 0 (some 17) (tt_ 25 1) ?_
        refine pu_ 1 (some 18) (tt_ 25 3) ?_
        refine pu_ 2 (some 19) (tt_ 25 7) ?_
        refine pu_ 3 (some 20) (tt_ 25 15) ?_
        refine pu_ 5 (some 22) (tt_ 25 47) ?_
        refine pu_ 6 (some 23) (tt_ 25 111) ?_
        refine pu_ 7 (some 24) (tt_ 25 239) ?_
        refine pu_ 8 (some 25) (tt_ 25 495) ?_
        refine tk_ 4 (some 21) (tt_ 25 511) As ?_
        refine tk_ 9 (some 26) (tt_ 25 1023) As ?_
        refine pu_ 10 (some 27) (tt_ 25 2047) ?_
        refine pu_ 11 (some 28) (tt_ 25 4095) ?_
        refine pure_ (i:=12) (N:=some 29) (v:=undef) (a':=?_) #[true,true,true,true,true,true,true,true,true,true,true,true,true,false,false,false,false,false,false,false,false,false,false,false,false] rfl rfl (any_of Cb.out kr_) (fun _ _ _ h=>h) (Or.inr ⟨by rfl,rfl⟩) ?_ ?_
        rotate_left
        ·simp only [Act.put,List.setIfInBounds_toArray,List.set_cons_zero,List.set_cons_succ,i64_w,i32_w]
         rfl
        refine pure_ (i:=13) (N:=some 30) (v:=undef) (a':=?_) #[true,true,true,true,true,true,true,true,true,true,true,true,true,true,false,false,false,false,false,false,false,false,false,false,false] rfl rfl (any_of Cb.out kr_) (fun _ _ _ h=>h) (Or.inr ⟨by rfl,rfl⟩) ?_ ?_
        rotate_left
        ·simp only [Act.put,List.setIfInBounds_toArray,List.set_cons_zero,List.set_cons_succ,i64_w,i32_w]
         rfl
        refine pure_ (i:=14) (N:=some 31) (v:=undef) (a':=?_) #[true,true,true,true,true,true,true,true,true,true,true,true,true,true,true,false,false,false,false,false,false,false,false,false,false] rfl rfl (any_of Cb.out kr_) (fun _ _ _ h=>h) (Or.inr ⟨by rfl,rfl⟩) ?_ ?_
        rotate_left
        ·simp only [Act.put,List.setIfInBounds_toArray,List.set_cons_zero,List.set_cons_succ,i64_w,i32_w]
         rfl
        refine pure_ (i:=15) (N:=some 32) (v:=undef) (a':=?_) #[true,true,true,true,true,true,true,true,true,true,true,true,true,true,true,true,false,false,false,false,false,false,false,false,false] rfl rfl (any_of Cb.out kr_) (fun _ _ _ h=>h) (Or.inr ⟨by rfl,rfl⟩) ?_ ?_
        rotate_left
        ·simp only [Act.put,List.setIfInBounds_toArray,List.set_cons_zero,List.set_cons_succ,i64_w,i32_w]
         rfl
        refine pure_ (i:=16) (N:=some 33) (v:=undef) (a':=?_) #[true,true,true,true,true,true,true,true,true,true,true,true,true,true,true,true,true,false,false,false,false,false,false,false,false] rfl rfl (any_of Cb.out kr_) (fun _ _ _ h=>h) (Or.inr ⟨by rfl,rfl⟩) ?_ ?_
        rotate_left
        ·simp only [Act.put,List.setIfInBounds_toArray,List.set_cons_zero,List.set_cons_succ,i64_w,i32_w]
         rfl
        refine pure_ (i:=17) (N:=some 34) (v:=undef) (a':=?_) #[true,true,true,true,true,true,true,true,true,true,true,true,true,true,true,true,true,true,false,false,false,false,false,false,false] rfl rfl (any_of Cb.out kr_) (fun _ _ _ h=>h) (Or.inr ⟨by rfl,rfl⟩) ?_ ?_
        rotate_left
        ·simp only [Act.put,List.setIfInBounds_toArray,List.set_cons_zero,List.set_cons_succ,i64_w,i32_w]
         rfl
        refine pure_ (i:=18) (N:=some 35) (v:=undef) (a':=?_) #[true,true,true,true,true,true,true,true,true,true,true,true,true,true,true,true,true,true,true,false,false,false,false,false,false] rfl rfl (any_of Cb.out kr_) (fun _ _ _ h=>h) (Or.inr ⟨by rfl,rfl⟩) ?_ ?_
        rotate_left
        ·simp only [Act.put,List.setIfInBounds_toArray,List.set_cons_zero,List.set_cons_succ,i64_w,i32_w]
         rfl
        refine pure_ (i:=19) (N:=some 36) (v:=undef) (a':=?_) #[true,true,true,true,true,true,true,true,true,true,true,true,true,true,true,true,true,true,true,true,false,false,false,false,false] rfl rfl (any_of Cb.out kr_) (fun _ _ _ h=>h) (Or.inr ⟨by rfl,rfl⟩) ?_ ?_
        rotate_left
        ·simp only [Act.put,List.setIfInBounds_toArray,List.set_cons_zero,List.set_cons_succ,i64_w,i32_w]
         rfl
        refine pure_ (i:=20) (N:=some 37) (v:=undef) (a':=?_) #[true,true,true,true,true,true,true,true,true,true,true,true,true,true,true,true,true,true,true,true,true,false,false,false,false] rfl rfl (any_of Cb.out kr_) (fun _ _ _ h=>h) (Or.inr ⟨by rfl,rfl⟩) ?_ ?_
        rotate_left
        ·simp only [Act.put,List.setIfInBounds_toArray,List.set_cons_zero,List.set_cons_succ,i64_w,i32_w]
         rfl
        refine pure_ (i:=21) (N:=some 38) (v:=undef) (a':=?_) #[true,true,true,true,true,true,true,true,true,true,true,true,true,true,true,true,true,true,true,true,true,true,false,false,false] rfl rfl (any_of Cb.out kr_) (fun _ _ _ h=>h) (Or.inr ⟨by rfl,rfl⟩) ?_ ?_
        rotate_left
        ·simp only [Act.put,List.setIfInBounds_toArray,List.set_cons_zero,List.set_cons_succ,i64_w,i32_w]
         rfl
        refine pure_ (i:=22) (N:=some 39) (v:=undef) (a':=?_) #[true,true,true,true,true,true,true,true,true,true,true,true,true,true,true,true,true,true,true,true,true,true,true,false,false] rfl rfl (any_of Cb.out kr_) (fun _ _ _ h=>h) (Or.inr ⟨by rfl,rfl⟩) ?_ ?_
        rotate_left
        ·simp only [Act.put,List.setIfInBounds_toArray,List.set_cons_zero,List.set_cons_succ,i64_w,i32_w]
         rfl
        refine pure_ (i:=23) (N:=some 40) (v:=undef) (a':=?_) #[true,true,true,true,true,true,true,true,true,true,true,true,true,true,true,true,true,true,true,true,true,true,true,true,false] rfl rfl (any_of Cb.out kr_) (fun _ _ _ h=>h) (Or.inr ⟨by rfl,rfl⟩) ?_ ?_
        rotate_left
        ·simp only [Act.put,List.setIfInBounds_toArray,List.set_cons_zero,List.set_cons_succ,i64_w,i32_w]
         rfl
        refine pu_ 24 (some 41) (tt_ 25 33554431) ?_
        refine done_ (done_of Cb.out kr_) ?_
        try go_wp2
        go_ret
        exact ⟨rf_,bx_⟩
      ·rw [if_neg c6] at H
       exact absurd H sm_
     ·rw [if_neg c5] at H
      exact absurd H sm_
    ·rw [if_neg c4] at H
     have Et:decide (Aa < (l0.length:Int)) = false:=decide_eq_false c4
     clear c4
     obtain rfl:=Option.some.inj H
     go_wp2
     go_ret
     exact ⟨rf_,bx_⟩
 ·rw [if_neg c3] at H
  have Dw:((l0.length:Int) == (l1.length:Int)) = false:=beq_eq_false_iff_ne.mpr c3
  have Dv:((l0.length:Int) != (l1.length:Int)) = true:=bne_iff_ne.mpr c3
  have Du:(l0.length == l1.length) = false:=by first|simpa using c3|(simp at c3 ⊢;omega)
  obtain rfl:=Option.some.inj H
  go_enter Tryz.func24,Tryz.ntmps24
  go_wp2
  go_ret
  exact ⟨rf_,bx_⟩
set_option maxHeartbeats 8000000
set_option maxRecDepth 100000
mutual
def record_Check.l0:Nat→List (S52)→List (S52)→Int→Int→Option (Int × Int)
 | 0,_,_,_,_=>none
 | k + 1,x0,x11,x12,x13=>if x13 < x12 then (if 0≤x13 then (if x13 < (x11.length:Int) then (if x13≤(x0.length:Int) then ((record_fits.f k (x0.take (x13:Int).toNat) ((rd_T52 x11 x13).f0.f0) ((rd_T52 x11 x13).f0.f1) ((rd_T52 x11 x13).f0.f2) ((rd_T52 x11 x13).f0.f3) ((rd_T52 x11 x13).f0.f4) ((rd_T52 x11 x13).f0.f5)).bind fun bt242=>(if bt242.2 = 0 then ((record_seal.f (x0.take (x13:Int).toNat) bt242.1).bind fun t248=>(record_Check.j1 k x0 x13 bt242.2 x11 x12 x13 (((rd_T52 x11 x13).f1).toList != t248.toList))) else (record_Check.j1 k x0 x13 bt242.2 x11 x12 x13 false))) else (none)) else (none)) else (none)) else (some ((-1),0))
def record_Check.j1:Nat→List (S52)→Int→Int→List (S52)→Int→Int→Bool→Option (Int × Int)
 | 0,_,_,_,_,_,_,_=>none
 | k + 1,x0,x4,x7,x11,x12,x13,x38=>if x38 = true then (if 14 = 0 then (record_Check.l0 k x0 x11 x12 (wrap64 (x13 + 1))) else (some (x4,14))) else (if x7 = 0 then (record_Check.l0 k x0 x11 x12 (wrap64 (x13 + 1))) else (some (x4,x7)))
end
def record_Check.f (k:Nat) (l0:List (S52)):Option (Int × Int):=if (l0.length:Int) > 1024 then (some ((-1),8)) else (record_Check.l0 k l0 l0 (l0.length:Int) 0)
theorem record_Check.mono_l:∀ k,(∀ y0 y1 y2 y3,LeO (record_Check.l0 k y0 y1 y2 y3) (record_Check.l0 (k + 1) y0 y1 y2 y3))∧(∀ y0 y1 y2 y3 y4 y5 y6,LeO (record_Check.j1 k y0 y1 y2 y3 y4 y5 y6) (record_Check.j1 (k + 1) y0 y1 y2 y3 y4 y5 y6))
 | 0=>⟨fun _ _ _ _ r h=>by simp [record_Check.l0] at h,fun _ _ _ _ _ _ _ r h=>by simp [record_Check.j1] at h⟩
 | k + 1=>by
  obtain ⟨ih0,ih1⟩:=record_Check.mono_l k
  refine ⟨?_,?_⟩
  ·intro y0 y1 y2 y3
   unfold record_Check.l0
   repeat' first
   | (with_reducible exact ih0 _ _ _ _)
   | (with_reducible exact ih1 _ _ _ _ _ _ _)
   | (with_reducible exact record_fits.mono _ _ _ _ _ _ _ _)
   | (with_reducible exact LeO.refl _)
   | (with_reducible exact LeO.none _)
   | (with_reducible refine LeO.ite ?_ ?_)
   | (with_reducible refine LeO.bind ?_ (fun _=>?_))
   | exact ih0 _ _ _ _
   | exact ih1 _ _ _ _ _ _ _
   | exact record_fits.mono _ _ _ _ _ _ _ _
   | exact LeO.none _
   | refine LeO.ite ?_ ?_
   | refine LeO.bind ?_ (fun _=>?_)
  ·intro y0 y1 y2 y3 y4 y5 y6
   unfold record_Check.j1
   repeat' first
   | (with_reducible exact ih0 _ _ _ _)
   | (with_reducible exact ih1 _ _ _ _ _ _ _)
   | (with_reducible exact record_fits.mono _ _ _ _ _ _ _ _)
   | (with_reducible exact LeO.refl _)
   | (with_reducible exact LeO.none _)
   | (with_reducible refine LeO.ite ?_ ?_)
   | (with_reducible refine LeO.bind ?_ (fun _=>?_))
   | exact ih0 _ _ _ _
   | exact ih1 _ _ _ _ _ _ _
   | exact record_fits.mono _ _ _ _ _ _ _ _
   | exact LeO.none _
   | refine LeO.ite ?_ ?_
   | refine LeO.bind ?_ (fun _=>?_)
theorem record_Check.mono:∀ a0 k,LeO (record_Check.f k a0) (record_Check.f (k + 1) a0):=by
 intro a0 k
 obtain ⟨Ab,Aa⟩:=record_Check.mono_l k
 unfold record_Check.f
 repeat' first
   | (with_reducible exact Ab _ _ _ _)
   | (with_reducible exact Aa _ _ _ _ _ _ _)
   | (with_reducible exact record_fits.mono _ _ _ _ _ _ _ _)
   | (with_reducible exact LeO.refl _)
   | (with_reducible exact LeO.none _)
   | (with_reducible refine LeO.ite ?_ ?_)
   | (with_reducible refine LeO.bind ?_ (fun _=>?_))
   | exact Ab _ _ _ _
   | exact Aa _ _ _ _ _ _ _
   | exact record_fits.mono _ _ _ _ _ _ _ _
   | exact LeO.none _
   | refine LeO.ite ?_ ?_
   | refine LeO.bind ?_ (fun _=>?_)
def record_Check.T6:Bool × List (List Nat × List Nat):=(true,[([],[]),([],[]),([0,1],[0,1]),([],[]),([3],[3]),([2,4],[2,4]),([5],[5]),([6],[6]),([6],[6]),([7,5,0,1,2,3,4,5,6,7],[7]),([8,9,0,1,2,3,4,5,6,7,8,9],[8])])
def record_Check.B6:List Nat:=[0,0,3,0,8,31,63,127,127,255,1023]
theorem record_Check.tab6:rtab .any (opsOf Tryz.f27 6) = record_Check.T6:=by kernel_rfl
theorem record_Check.bits6:waitsOk record_Check.T6.2 record_Check.B6 = true:=by kernel_rfl
def record_Check.T7:Bool × List (List Nat × List Nat):=(true,[([],[]),([0],[0]),([1],[1]),([2],[2]),([3,2],[2,3]),([2],[2]),([2],[2]),([5,6,2],[2,5,6]),([2],[2]),([7,8,2,2],[2,7,8]),([4,9,2],[2,4,9]),([2,10],[2,10])])
def record_Check.B7:List Nat:=[0,1,3,7,15,7,7,103,7,487,1023,2047]
theorem record_Check.tab7:rtab .any (opsOf Tryz.f27 7) = record_Check.T7:=by kernel_rfl
theorem record_Check.bits7:waitsOk record_Check.T7.2 record_Check.B7 = true:=by kernel_rfl
theorem record_Check.calls (k:Nat) (A0:Option Addr) (c0:Nat) (l0:List (S52)) (r1:Int) (r2:Int) (w:World) (hr0:Kd.C k52 w A0 l0.length l0) (hc0:l0.length≤c0) (hL:LaidW w) (h:record_Check.f k l0 = some (r1,r2)) :
  Calls Tryz.prog 27 #[.slice A0 l0.length c0] w fun e w'=>e = .returned (.tuple #[.int .i64 r1,.int .i64 r2])∧Below w.heap.size w w':=by
 have Ef:=Tryz.underlying52
 have Eg:=Tryz.underlying26
 have Do:=Aside0.mk hr0
 have Dy:=Aside0.mk hc0
 clear hr0 hc0
 have HB:=Aside0.mk (Below.refl w.heap.size w)
 have HLW:=Aside0.mk hL
 clear hL
 have H:=h;clear h;unfold record_Check.f at H
 by_cases c2:(l0.length:Int) > 1024
 ·rw [if_pos c2] at H
  have Co:decide (1024 < (l0.length:Int)) = true:=decide_eq_true c2
  have Cn:decide (1024 < l0.length) = true:=decide_eq_true (by omega)
  clear c2
  simp only [Option.some.injEq,Prod.mk.injEq] at H
  obtain ⟨rfl,rfl⟩:=H
  go_enter Tryz.func27,Tryz.ntmps27
  go_wp2
  go_ret2
  exact ⟨rf_,bx_⟩
 ·rw [if_neg c2] at H
  have Co:decide (1024 < (l0.length:Int)) = false:=decide_eq_false c2
  have Cn:decide (1024 < l0.length) = false:=decide_eq_false (by omega)
  clear c2
  have H':=Aside0.mk H
  clear H
  go_enter Tryz.func27,Tryz.ntmps27
  go_wp2
  go_loopg [13] k (fun kq Ec w'=>∃ (Aa:Int),Ec = .int .i64 Aa∧Aside0 (record_Check.l0 kq l0 l0 (l0.length:Int) Aa = some (r1,r2))∧Aside0 (kq≤k)∧Aside0 (Below w.heap.size w w'))
  case atStart=>exact ⟨(0),rg_,H',⟨Nat.le_refl _⟩,⟨bx_⟩⟩
  case round =>
   clear H'
   try clear c2
   try clear Co
   try clear Cn
   obtain ⟨Aa,rfl,HA,Df,HB⟩:=hrel
   cases gk with
   | zero=>exact absurd HA.out (by simp [record_Check.l0])
   | succ k1 =>
    have H:=HA.out
    clear HA
    simp only [record_Check.l0] at H
    by_cases c3:Aa < (l0.length:Int)
    ·rw [if_pos c3] at H
     have Cx:decide (Aa < (l0.length:Int)) = true:=decide_eq_true c3
     clear c3
     by_cases c4:0≤Aa
     ·rw [if_pos c4] at H
      have Dn:decide (0≤Aa) = true:=decide_eq_true c4
      clear c4
      by_cases c5:Aa < (l0.length:Int)
      ·rw [if_pos c5] at H
       have Dm:decide (Aa < (l0.length:Int)) = true:=decide_eq_true c5
       clear c5
       have Dl:=eq_true (of_decide_eq_true (by first|(with_reducible assumption)|assumption):0≤Aa)
       by_cases c7:Aa≤(l0.length:Int)
       ·rw [if_pos c7] at H
        have Dk:=eq_true c7
        have Dj:decide (Aa≤(l0.length:Int)) = true:=decide_eq_true c7
        clear c7
        obtain ⟨y238,hy238⟩:∃ y_:List (S52),y_ = (l0.take (Aa:Int).toNat):=⟨_,rfl⟩
        replace H:((record_fits.f k1 y238 ((rd_T52 l0 Aa).f0.f0) ((rd_T52 l0 Aa).f0.f1) ((rd_T52 l0 Aa).f0.f2) ((rd_T52 l0 Aa).f0.f3) ((rd_T52 l0 Aa).f0.f4) ((rd_T52 l0 Aa).f0.f5)).bind fun Aq=>(if Aq.2 = 0 then ((record_seal.f (l0.take (Aa:Int).toNat) Aq.1).bind fun As=>(record_Check.j1 k1 l0 Aa Aq.2 l0 (l0.length:Int) Aa (((rd_T52 l0 Aa).f1).toList != As.toList))) else (record_Check.j1 k1 l0 Aa Aq.2 l0 (l0.length:Int) Aa false))) = some (r1,r2):=by first|(rw [hy238];with_reducible exact H)|(have Cr:=(Option.bind_some _ _).symm.trans H;rw [hy238];with_reducible exact Cr)|(have Cr:=(Option.bind_some _ _).symm.trans H;with_reducible exact Cr)|with_reducible exact H|(rw [hy238];exact H)|exact H
        have Cf:=Aside0.mk hy238
        clear hy238
        obtain ⟨⟨Av,Ad⟩,A8,H⟩:=bn_ H
        dsimp only at H
        have Dp:=Aside0.mk H
        clear H
        have Ax:0≤(Aa:Int):=da_
        have Aw:Aa < (l0.length:Int):=da_
        obtain ⟨Al,Ak,Ah,Aj,Ag,Ai,Af,Di,Bf,Be,Bd,Bc,Bb,Ba,Ay,Bx,Ca,Bw,Bz,Bv,By⟩:=ao52_ Do HB Aa Ax Aw
        cases Di
        replace Ax:=eq_true Ax
        replace Aw:=eq_true Aw
        try go_wp2_with (first|((with_reducible refine gate_dst (N:=5) rfl ?_);refine bv_ #[.int .i64 0,.int .i64 0,.int .i64 0,.slice none 0 0,.slice none 0 0,.slice none 0 0,.string (⟨#[]⟩:ByteArray)] 52 ?_;clear HB;intro Ab hg Ea Ac Dz hb HB;clear hb hg;obtain ⟨Bu,Bt,Br,Bq,Bp,Bo,Bn,Bm,Bl,Bk,Bj,Bi,Bh,Bg⟩:=c7_ Ac))
        generalize Dh:(((((((Ea.setCell ⟨Ab,0,none⟩ (.int .i64 ((rd_T52 l0 Aa).f0.f0))).setCell ⟨Ab,1,none⟩ (.int .i64 ((rd_T52 l0 Aa).f0.f1))).setCell ⟨Ab,2,none⟩ (.int .i64 ((rd_T52 l0 Aa).f0.f2))).setCell ⟨Ab,3,none⟩ (.slice Ak ((rd_T52 l0 Aa).f0.f3).length Ah)).setCell ⟨Ab,4,none⟩ (.slice Aj ((rd_T52 l0 Aa).f0.f4).length Ag)).setCell ⟨Ab,5,none⟩ (.slice Ai ((rd_T52 l0 Aa).f0.f5).length Af)).setCell ⟨Ab,6,none⟩ (.string ((rd_T52 l0 Aa).f1))) = Dr
        replace Ac:Aside0 (Dr.heap[Ab]? = some (.cells #[.int .i64 ((rd_T52 l0 Aa).f0.f0),.int .i64 ((rd_T52 l0 Aa).f0.f1),.int .i64 ((rd_T52 l0 Aa).f0.f2),.slice Ak ((rd_T52 l0 Aa).f0.f3).length Ah,.slice Aj ((rd_T52 l0 Aa).f0.f4).length Ag,.slice Ai ((rd_T52 l0 Aa).f0.f5).length Af,.string ((rd_T52 l0 Aa).f1)] 52 (0,0))):=gk_ Dh
        replace HB:=gb_ Dh
        clear Dh
        replace Ac:=dr_ Ac
        replace HB:=db_ HB
        have Cs:(Aa:Int)≤((l0.length:Int):Int):=da_
        obtain ⟨Ee,Cc,_,Cu,_⟩:=info_parts info52
        have Ap:l0.length≤c0:=Dy.out
        have Cw:Kd.C k52 _ (some Al) l0.length l0:=Do.out
        have Au:=cut_to (P:=Tryz.prog) 37 52 .i64 Tryz.underlying37 Cc (some Al) l0.length c0 Aa (of_decide_eq_true (by first|(with_reducible assumption)|assumption)) Cs Ap
        have Cl:=Kd.C_take (m:=(Aa:Int).toNat) Cw (by omega)
        have Cj:y238.length = (Aa:Int).toNat:=(by rw [Cf.out,List.length_take];omega)
        rw [← Cf.out] at Cl
        rw [← Cj] at Au
        have Ch:=Aside0.mk Cl
        have Dc:=Aside0.mk (show y238.length≤c0 from by omega)
        clear Cl Cw Ap Cc Cu
        have Ei:=Aside0.mk Cj
        clear Cj
        replace Cs:=eq_true Cs
        refine start_ (n:=11) (S:=fun w'=>w'.cell? ⟨Ab,0,none⟩ = some (.int .i64 ((rd_T52 l0 Aa).f0.f0))∧w'.cell? ⟨Ab,1,none⟩ = some (.int .i64 ((rd_T52 l0 Aa).f0.f1))∧w'.cell? ⟨Ab,2,none⟩ = some (.int .i64 ((rd_T52 l0 Aa).f0.f2))∧w'.cell? ⟨Ab,3,none⟩ = some (.slice Ak ((rd_T52 l0 Aa).f0.f3).length Ah)∧w'.cell? ⟨Ab,4,none⟩ = some (.slice Aj ((rd_T52 l0 Aa).f0.f4).length Ag)∧w'.cell? ⟨Ab,5,none⟩ = some (.slice Ai ((rd_T52 l0 Aa).f0.f5).length Af)∧w'.cell? ⟨Ab,6,none⟩ = some (.string ((rd_T52 l0 Aa).f1))) (ds:=[]) #[false,false,false,false,false,false,false,false,false,false,false] kr_ rfl rfl hc_ (fun Ae=>?_);refine with_tabW record_Check.tab6 record_Check.bits6 (fun At Dw=>?_)
        generalize Dr.drew = Eo at Ac HB Ch Ae ⊢
        refine pu_ 0 (some 19) (tt_ 11 1) ?_
        refine pu_ 1 (some 20) (tt_ 11 3) ?_
        refine pu_ 2 (some 21) (tt_ 11 7) ?_
        refine pu_ 3 (some 22) (tt_ 11 15) ?_
        refine tk_ 4 (some 23) (tt_ 11 31) Ae ?_
        refine oc_ 5 (some 24) (tt_ 11 63) Tryz.func60 #[.slice (some Al) y238.length c0,.agg #[.int .i64 ((rd_T52 l0 Aa).f0.f0),.int .i64 ((rd_T52 l0 Aa).f0.f1),.int .i64 ((rd_T52 l0 Aa).f0.f2),.slice Ak ((rd_T52 l0 Aa).f0.f3).length Ah,.slice Aj ((rd_T52 l0 Aa).f0.f4).length Ag,.slice Ai ((rd_T52 l0 Aa).f0.f5).length Af]] (fun K hK=>?_)
        with_reducible refine (record_fits.calls k1 _ _ y238 ((rd_T52 l0 Aa).f0.f0) ((rd_T52 l0 Aa).f0.f1) ((rd_T52 l0 Aa).f0.f2) _ _ ((rd_T52 l0 Aa).f0.f3) _ _ ((rd_T52 l0 Aa).f0.f4) _ _ ((rd_T52 l0 Aa).f0.f5) Av Ad _ ?side1 ?side2 ?side3 ?side4 ?side5 ?side6 ?side7 ?side8 ?side9 A8.out).mono ?_
        (case side1=>exact cx_ (Kd.C_below Ch.out HB.out))
        (case side2=>exact Dc.out)
        (case side3=>exact cx_ (Kd.C_below Bx.out HB.out))
        (case side4=>exact Ca.out)
        (case side5=>exact cx_ (Kd.C_below Bw.out HB.out))
        (case side6=>exact Bz.out)
        (case side7=>exact cx_ (Kd.C_below Bv.out HB.out))
        (case side8=>exact By.out)
        (case side9=>exact HLW.out.below bx_)
        rintro e Dq ⟨rfl,hb⟩
        refine ⟨_,rfl,?_⟩
        replace Ac:=bb_ Ac hb
        replace HB:=bs_ hb
        (try clear hb)
        refine hk_ hK (fun Ae=>?_);clear hK K
        refine pu_ 6 (some 18) (tt_ 11 127) ?_
        refine pu_ 7 (some 25) (tt_ 11 255) ?_
        refine pu_ 8 (some 26) (tt_ 11 511) ?_
        refine pu_ 9 (some 6) (tt_ 11 1023) ?_
        refine pu_ 10 (some 7) (tt_ 11 2047) ?_
        refine done_ (done_of At.out kr_) ?_
        go_upto_region 7 with (fail)
        go_cut [38] (fun Eb wc=>∃ (kq:Nat) (An:Bool),Eb = .bool An∧Aside0 (record_Check.j1 kq l0 Aa Ad l0 (l0.length:Int) Aa An = some (r1,r2))∧Aside0 (kq≤k1)∧Aside0 (wc.heap[Ab]? = some (.cells #[.int .i64 ((rd_T52 l0 Aa).f0.f0),.int .i64 ((rd_T52 l0 Aa).f0.f1),.int .i64 ((rd_T52 l0 Aa).f0.f2),(.slice Ak ((rd_T52 l0 Aa).f0.f3).length Ah),(.slice Aj ((rd_T52 l0 Aa).f0.f4).length Ag),(.slice Ai ((rd_T52 l0 Aa).f0.f5).length Af),.string ((rd_T52 l0 Aa).f1)] 52 (0,0)))∧Aside0 (Below w.heap.size w wc))
        case first =>
         have H:=Dp.out
         clear Dp
         by_cases Cq:Ad = 0
         ·rw [if_pos Cq] at H
          have Am:(Ad == 0) = true:=beq_iff_eq.mpr Cq
          have Da:(Ad != 0) = false:=bne_eq_false_iff_eq.mpr Cq
          clear Cq
          (first|rw [Am]|(simp only [i64_w,i32_w];rw [Am])|skip)
          have Dv:=eq_true (of_decide_eq_true (by first|(with_reducible assumption)|assumption):0≤Aa)
          have Du:=eq_true (of_decide_eq_true (by first|(with_reducible assumption)|assumption):Aa≤(l0.length:Int))
          obtain ⟨y244,hy244⟩:∃ y_:List (S52),y_ = (l0.take (Aa:Int).toNat):=⟨_,rfl⟩
          replace H:((record_seal.f y244 Av).bind fun As=>(record_Check.j1 k1 l0 Aa Ad l0 (l0.length:Int) Aa (((rd_T52 l0 Aa).f1).toList != As.toList))) = some (r1,r2):=by first|(rw [hy244];with_reducible exact H)|(have Cr:=(Option.bind_some _ _).symm.trans H;rw [hy244];with_reducible exact Cr)|(have Cr:=(Option.bind_some _ _).symm.trans H;with_reducible exact Cr)|with_reducible exact H|(rw [hy244];exact H)|exact H
          have Ce:=Aside0.mk hy244
          clear hy244
          obtain ⟨As,Ej,H⟩:=bn_ H
          have H':=Aside0.mk H
          clear H
          try go_wp2
          replace Ac:=dr_ Ac
          replace HB:=db_ HB
          have Dg:(Aa:Int)≤((l0.length:Int):Int):=da_
          obtain ⟨Ed,Cb,_,Ct,_⟩:=info_parts info52
          have Ao:l0.length≤c0:=Dy.out
          have Cv:Kd.C k52 _ (some Al) l0.length l0:=Do.out
          clear Au
          have Cm:=cut_to (P:=Tryz.prog) 37 52 .i64 Tryz.underlying37 Cb (some Al) l0.length c0 Aa (of_decide_eq_true (by first|(with_reducible assumption)|assumption)) Dg Ao
          have Ck:=Kd.C_take (m:=(Aa:Int).toNat) Cv (by omega)
          have Ci:y244.length = (Aa:Int).toNat:=(by rw [Ce.out,List.length_take];omega)
          rw [← Ce.out] at Ck
          rw [← Ci] at Cm
          have Cg:=Aside0.mk Ck
          have Db:=Aside0.mk (show y244.length≤c0 from by omega)
          clear Ck Cv Ao Cb Ct
          have Eh:=Aside0.mk Ci
          clear Ci
          replace Dg:=eq_true Dg
          refine start_ (n:=12) (S:=fun w'=>w'.cell? ⟨Ab,0,none⟩ = some (.int .i64 ((rd_T52 l0 Aa).f0.f0))∧w'.cell? ⟨Ab,1,none⟩ = some (.int .i64 ((rd_T52 l0 Aa).f0.f1))∧w'.cell? ⟨Ab,2,none⟩ = some (.int .i64 ((rd_T52 l0 Aa).f0.f2))∧w'.cell? ⟨Ab,3,none⟩ = some (.slice Ak ((rd_T52 l0 Aa).f0.f3).length Ah)∧w'.cell? ⟨Ab,4,none⟩ = some (.slice Aj ((rd_T52 l0 Aa).f0.f4).length Ag)∧w'.cell? ⟨Ab,5,none⟩ = some (.slice Ai ((rd_T52 l0 Aa).f0.f5).length Af)∧w'.cell? ⟨Ab,6,none⟩ = some (.string ((rd_T52 l0 Aa).f1))) (ds:=[]) #[false,false,false,false,false,false,false,false,false,false,false,false] kr_ rfl rfl hc_ (fun Ae=>?_);refine with_tabW record_Check.tab7 record_Check.bits7 (fun At Dw=>?_)
          generalize Dq.drew = Em at Ac HB Cg Ae ⊢
          refine pu_ 0 (some 27) (tt_ 12 1) ?_
          refine pu_ 1 (some 28) (tt_ 12 3) ?_
          refine pu_ 2 (some 29) (tt_ 12 7) ?_
          refine pu_ 3 (some 30) (tt_ 12 15) ?_
          refine pu_ 5 (some 32) (tt_ 12 47) ?_
          refine pu_ 6 (some 33) (tt_ 12 111) ?_
          refine pu_ 7 (some 34) (tt_ 12 239) ?_
          refine pu_ 8 (some 35) (tt_ 12 495) ?_
          refine tk_ 4 (some 31) (tt_ 12 511) Ae ?_
          refine oc_ 9 (some 36) (tt_ 12 1023) Tryz.func61 #[.slice (some Al) y244.length c0,.string Av] (fun K hK=>?_)
          with_reducible refine (record_seal.calls _ _ y244 Av As _ ?side1 ?side2 Ej.out).mono ?_
          (case side1=>exact cx_ (Kd.C_below Cg.out HB.out))
          (case side2=>exact Db.out)
          rintro e El ⟨rfl,hb⟩
          refine ⟨_,rfl,?_⟩
          replace Ac:=bb_ Ac hb
          replace HB:=bs_ hb
          (try clear hb)
          refine hk_ hK (fun Ae=>?_);clear hK K
          refine pu_ 10 (some 37) (tt_ 12 2047) ?_
          refine pu_ 11 (some 38) (tt_ 12 4095) ?_
          refine done_ (done_of At.out kr_) ?_
          try go_wp2
          go_meet
          case rel=>exact ⟨_,((((rd_T52 l0 Aa).f1).toList != As.toList)),rg_,H',⟨by have:=Df.out;first|omega|exact Nat.le_refl _⟩,⟨bk_⟩,⟨bx_⟩⟩
         ·rw [if_neg Cq] at H
          have Am:(Ad == 0) = false:=beq_eq_false_iff_ne.mpr Cq
          have Da:(Ad != 0) = true:=bne_iff_ne.mpr Cq
          (first|rw [Am]|(simp only [i64_w,i32_w];rw [Am])|skip)
          have H':=Aside0.mk H
          clear H
          try go_wp2
          replace Ac:=dr_ Ac
          replace HB:=db_ HB
          refine start_ (n:=12) (S:=fun w'=>True) (ds:=[]) #[false,false,false,false,false,false,false,false,false,false,false,false] kr_ rfl rfl trivial (fun Ae=>?_);refine with_tabW record_Check.tab7 record_Check.bits7 (fun At Dw=>?_)
          generalize Dq.drew = Ek at Ac HB Ae ⊢
          refine pu_ 0 (some 27) (tt_ 12 1) ?_
          refine pu_ 1 (some 28) (tt_ 12 3) ?_
          refine pu_ 2 (some 29) (tt_ 12 7) ?_
          refine pure_ (i:=3) (N:=some 30) (v:=undef) (a':=?_) #[true,true,true,true,false,false,false,false,false,false,false,false] rfl rfl (any_of At.out kr_) (fun _ _ _ h=>h) (Or.inr ⟨by rfl,rfl⟩) ?_ ?_
          rotate_left
          ·simp only [Act.put,List.setIfInBounds_toArray,List.set_cons_zero,List.set_cons_succ,i64_w,i32_w]
           rfl
          refine pure_ (i:=4) (N:=some 31) (v:=undef) (a':=?_) #[true,true,true,true,true,false,false,false,false,false,false,false] rfl rfl (any_of At.out kr_) (fun _ _ _ h=>h) (Or.inr ⟨by rfl,rfl⟩) ?_ ?_
          rotate_left
          ·simp only [Act.put,List.setIfInBounds_toArray,List.set_cons_zero,List.set_cons_succ,i64_w,i32_w]
           rfl
          refine pure_ (i:=5) (N:=some 32) (v:=undef) (a':=?_) #[true,true,true,true,true,true,false,false,false,false,false,false] rfl rfl (any_of At.out kr_) (fun _ _ _ h=>h) (Or.inr ⟨by rfl,rfl⟩) ?_ ?_
          rotate_left
          ·simp only [Act.put,List.setIfInBounds_toArray,List.set_cons_zero,List.set_cons_succ,i64_w,i32_w]
           rfl
          refine pure_ (i:=6) (N:=some 33) (v:=undef) (a':=?_) #[true,true,true,true,true,true,true,false,false,false,false,false] rfl rfl (any_of At.out kr_) (fun _ _ _ h=>h) (Or.inr ⟨by rfl,rfl⟩) ?_ ?_
          rotate_left
          ·simp only [Act.put,List.setIfInBounds_toArray,List.set_cons_zero,List.set_cons_succ,i64_w,i32_w]
           rfl
          refine pure_ (i:=7) (N:=some 34) (v:=undef) (a':=?_) #[true,true,true,true,true,true,true,true,false,false,false,false] rfl rfl (any_of At.out kr_) (fun _ _ _ h=>h) (Or.inr ⟨by rfl,rfl⟩) ?_ ?_
          rotate_left
          ·simp only [Act.put,List.setIfInBounds_toArray,List.set_cons_zero,List.set_cons_succ,i64_w,i32_w]
           rfl
          refine pure_ (i:=8) (N:=some 35) (v:=undef) (a':=?_) #[true,true,true,true,true,true,true,true,true,false,false,false] rfl rfl (any_of At.out kr_) (fun _ _ _ h=>h) (Or.inr ⟨by rfl,rfl⟩) ?_ ?_
          rotate_left
          ·simp only [Act.put,List.setIfInBounds_toArray,List.set_cons_zero,List.set_cons_succ,i64_w,i32_w]
           rfl
          refine pure_ (i:=9) (N:=some 36) (v:=undef) (a':=?_) #[true,true,true,true,true,true,true,true,true,true,false,false] rfl rfl (any_of At.out kr_) (fun _ _ _ h=>h) (Or.inr ⟨by rfl,rfl⟩) ?_ ?_
          rotate_left
          ·simp only [Act.put,List.setIfInBounds_toArray,List.set_cons_zero,List.set_cons_succ,i64_w,i32_w]
           rfl
          refine pure_ (i:=10) (N:=some 37) (v:=undef) (a':=?_) #[true,true,true,true,true,true,true,true,true,true,true,false] rfl rfl (any_of At.out kr_) (fun _ _ _ h=>h) (Or.inr ⟨by rfl,rfl⟩) ?_ ?_
          rotate_left
          ·simp only [Act.put,List.setIfInBounds_toArray,List.set_cons_zero,List.set_cons_succ,i64_w,i32_w]
           rfl
          refine pu_ 11 (some 38) (tt_ 12 4095) ?_
          refine done_ (done_of At.out kr_) ?_
          try go_wp2
          go_meet
          case rel=>exact ⟨_,(false),rg_,H',⟨by have:=Df.out;first|omega|exact Nat.le_refl _⟩,⟨bk_⟩,⟨bx_⟩⟩
        case rest =>
         clear Dp
         try clear c2
         try clear Co
         try clear Cn
         try clear c3
         try clear Cx
         try clear c4
         try clear Dn
         try clear c5
         try clear Dm
         try clear Dl
         try clear c7
         try clear Dk
         try clear Dj
         try clear Cs
         try clear Bu
         try clear Bt
         try clear Br
         try clear Bq
         try clear Bp
         try clear Bo
         try clear Bn
         try clear Bm
         try clear Bl
         try clear Bk
         try clear Bj
         try clear Bi
         try clear Bh
         try clear Bg
         try clear Bf
         try clear Be
         try clear Bd
         try clear Bc
         try clear Bb
         try clear Ba
         try clear Ay
         try clear Ax
         try clear Cs
         try clear Aw
         obtain ⟨kq,An,rfl,HA,Dx,Ac,HB⟩:=hcut
         cases kq with
         | zero=>exact absurd HA.out (by simp [record_Check.j1])
         | succ kj8 =>
          have H:=HA.out
          clear HA
          simp only [record_Check.j1] at H
          by_cases De:An = true
          ·subst De
           have H1:(if 14 = 0 then (record_Check.l0 kj8 l0 l0 (l0.length:Int) (wrap64 (Aa + 1))) else (some (Aa,14))) = some (r1,r2):=by rw [if_pos rfl] at H;exact H
           clear H
           have H:=H1
           clear H1
           by_cases Dd:14 = 0
           ·exact absurd Dd (by decide)
           ·rw [if_neg Dd] at H
            have Dt:(14 == 0) = false:=beq_eq_false_iff_ne.mpr Dd
            have Ds:(14 != 0) = true:=bne_iff_ne.mpr Dd
            simp only [Option.some.injEq,Prod.mk.injEq] at H
            obtain ⟨rfl,rfl⟩:=H
            go_wp2
            go_ret2
            exact ⟨rf_,bx_⟩
          ·replace De:=Bool.eq_false_iff.mpr De
           subst De
           have H1:(if Ad = 0 then (record_Check.l0 kj8 l0 l0 (l0.length:Int) (wrap64 (Aa + 1))) else (some (Aa,Ad))) = some (r1,r2):=by rw [if_neg (show ¬ (false = true) by decide)] at H;exact H
           clear H
           have H:=H1
           clear H1
           by_cases Cp:Ad = 0
           ·rw [if_pos Cp] at H
            have Cz:(Ad == 0) = true:=beq_iff_eq.mpr Cp
            have Cy:(Ad != 0) = false:=bne_eq_false_iff_eq.mpr Cp
            clear Cp
            have H':=Aside0.mk H
            clear H
            go_wp2
            go_roundg kj8
            case measure=>have:=Df.out;have:=Dx.out;omega
            case rel=>exact ⟨(wrap64 (Aa + 1)),rg_,H',⟨by have:=Df.out;have:=Dx.out;omega⟩,⟨bx_⟩⟩
           ·rw [if_neg Cp] at H
            have Cz:(Ad == 0) = false:=beq_eq_false_iff_ne.mpr Cp
            have Cy:(Ad != 0) = true:=bne_iff_ne.mpr Cp
            simp only [Option.some.injEq,Prod.mk.injEq] at H
            obtain ⟨rfl,rfl⟩:=H
            go_wp2
            go_ret2
            exact ⟨rf_,bx_⟩
       ·rw [if_neg c7] at H
        exact absurd H sm_
      ·rw [if_neg c5] at H
       exact absurd H sm_
     ·rw [if_neg c4] at H
      exact absurd H sm_
    ·rw [if_neg c3] at H
     have Cx:decide (Aa < (l0.length:Int)) = false:=decide_eq_false c3
     clear c3
     simp only [Option.some.injEq,Prod.mk.injEq] at H
     obtain ⟨rfl,rfl⟩:=H
     go_wp2
     go_ret2
     exact ⟨rf_,bx_⟩
def slices_Clone_int_int.f (xs:List Int):Option (List Int):=if xs.length * 8≤140737488355328 then some xs else none
set_option maxRecDepth 100000 in
theorem slices_Clone_int_int.calls (A0:Option Addr) (c0:Nat) (l0 r:List Int) (w:World) (hr0:Kd.C (Kd.int .i64) w A0 l0.length l0) (hc0:l0.length≤c0) (h:slices_Clone_int_int.f l0 = some r) :
  Calls Tryz.prog 81 #[.slice A0 l0.length c0] w fun e w'=>∃ v,e = .returned v∧Kd.R (Kd.int .i64) 3 w' w.heap.size (fun _=>True) v r∧Below w.heap.size w w':=by
 unfold slices_Clone_int_int.f at h
 by_cases hc:l0.length * 8≤140737488355328
 case neg=>rw [if_neg hc] at h;cases h
 rw [if_pos hc] at h
 injection h with h
 subst h
 have HC:=Aside0.mk hr0
 clear hr0 hc0
 rcases A0 with _|ad
 ·have hl:l0 = []:=by
   rcases l0 with _|⟨x,l⟩
   ·rfl
   ·obtain ⟨a,ha,_⟩:=HC.out.2.2 (by simp)
    cases ha
  subst hl
  clear hc HC
  have he:∀ W:World,(binOp .eql 22 (.slice none ([]:List Int).length c0) (.slice none 0 0)).run Tryz.prog W = .ok (.bool true) W:=fun _=>rfl
  simp only [List.length_nil] at he
  go_enter Tryz.func81,Tryz.ntmps81
  go_wp2_with fail
  go_ret
  exact ⟨_,rfl,Kd.R_nil _ _ _ _ _,Below.refl _ _⟩
 ·have HH:=Aside0.mk hc
  clear hc
  have HB:=Aside0.mk (Below.refl w.heap.size w)
  have he:∀ W:World,(binOp .eql 22 (.slice (some ad) l0.length c0) (.slice none 0 0)).run Tryz.prog W = .ok (.bool false) W:=fun _=>rfl
  go_enter Tryz.func81,Tryz.ntmps81
  go_wp2_with (first
   | ((with_reducible refine gate_dst (N:=5) rfl ?_);go_loud (refine Kd.R_lit ((Kd.int .i64)) (w0:=w) w.heap.size 3 ?hg (N:=5) ?hd (xs:=([]:List Int)) (inner:=[]) (ok:=fun _=>True) (okp:=fun _=>False) ?hr ?hp (fun _ hk=>hk.elim) trivial ?hB ?hS (by simp) ?_);(case hd=>rfl);(case hg=>rfl);(case hr=>first|(go_simp;done)|(go_simp;rfl));(case hp=>exact Reps.none _ _);(case hB=>exact HB.out);(case hS=>exact Nat.le_refl _);intro v1 w1 ho hb Aa Ac;have HO:=Aside0.mk ho;have Ab:=Aside0.mk hb;have Ae:=Aside0.mk (Kd.C_below HC.out hb);clear ho hb Aa Ac)
   | ((with_reducible refine gate_builtin (b:=.append) (xs:=#[.tmp 5,.tmp 6]) rfl ?_);at_builtin;go_loud (refine Kd.R_append_rows ((Kd.int .i64)) (w0:=w) w.heap.size rfl (.tmp 5) (.tmp 6) 22 3 (.int .i64 0) 8 rfl Tryz.underlying22 info3 rfl (by decide) (by decide) v1 [] l0 (some ad) l0.length c0 (fun _=>True) (fun _=>False) rfl rfl HO.out Ae.out (fun _ _ h=>h) (fun _ h=>h.elim) (fun _ _=>trivial) Ab.out Ab.out.size ?aL ?_);(case aL=>have:=HH.out;simp only [List.length_nil,Nat.zero_add];exact this);intro v2 w2 ho hb Aa hat;have Ad:=Aside0.mk ho;have Af:=Aside0.mk hb;clear ho hb Aa hat))
  go_ret
  exact ⟨_,rfl,by have h:=Ad.out;rw [List.nil_append] at h;exact h,Af.out⟩
def api_Rat_82.f (xs:List ByteArray):Option (List ByteArray):=if xs.length * 16≤140737488355328 then some xs else none
set_option maxRecDepth 100000 in
theorem api_Rat_82.calls (A0:Option Addr) (c0:Nat) (l0 r:List ByteArray) (w:World) (hr0:Kd.C Kd.string w A0 l0.length l0) (hc0:l0.length≤c0) (h:api_Rat_82.f l0 = some r) :
  Calls Tryz.prog 82 #[.slice A0 l0.length c0] w fun e w'=>∃ v,e = .returned v∧Kd.R Kd.string 65 w' w.heap.size (fun _=>True) v r∧Below w.heap.size w w':=by
 unfold api_Rat_82.f at h
 by_cases hc:l0.length * 16≤140737488355328
 case neg=>rw [if_neg hc] at h;cases h
 rw [if_pos hc] at h
 injection h with h
 subst h
 have HC:=Aside0.mk hr0
 clear hr0 hc0
 rcases A0 with _|ad
 ·have hl:l0 = []:=by
   rcases l0 with _|⟨x,l⟩
   ·rfl
   ·obtain ⟨a,ha,_⟩:=HC.out.2.2 (by simp)
    cases ha
  subst hl
  clear hc HC
  have he:∀ W:World,(binOp .eql 23 (.slice none ([]:List ByteArray).length c0) (.slice none 0 0)).run Tryz.prog W = .ok (.bool true) W:=fun _=>rfl
  simp only [List.length_nil] at he
  go_enter Tryz.func82,Tryz.ntmps82
  go_wp2_with fail
  go_ret
  exact ⟨_,rfl,Kd.R_nil _ _ _ _ _,Below.refl _ _⟩
 ·have HH:=Aside0.mk hc
  clear hc
  have HB:=Aside0.mk (Below.refl w.heap.size w)
  have he:∀ W:World,(binOp .eql 23 (.slice (some ad) l0.length c0) (.slice none 0 0)).run Tryz.prog W = .ok (.bool false) W:=fun _=>rfl
  go_enter Tryz.func82,Tryz.ntmps82
  go_wp2_with (first
   | ((with_reducible refine gate_dst (N:=5) rfl ?_);go_loud (refine Kd.R_lit (Kd.string) (w0:=w) w.heap.size 65 ?hg (N:=5) ?hd (xs:=([]:List ByteArray)) (inner:=[]) (ok:=fun _=>True) (okp:=fun _=>False) ?hr ?hp (fun _ hk=>hk.elim) trivial ?hB ?hS (by simp) ?_);(case hd=>rfl);(case hg=>rfl);(case hr=>first|(go_simp;done)|(go_simp;rfl));(case hp=>exact Reps.none _ _);(case hB=>exact HB.out);(case hS=>exact Nat.le_refl _);intro v1 w1 ho hb Aa Ac;have HO:=Aside0.mk ho;have Ab:=Aside0.mk hb;have Ae:=Aside0.mk (Kd.C_below HC.out hb);clear ho hb Aa Ac)
   | ((with_reducible refine gate_builtin (b:=.append) (xs:=#[.tmp 5,.tmp 6]) rfl ?_);at_builtin;go_loud (refine Kd.R_append_rows (Kd.string) (w0:=w) w.heap.size rfl (.tmp 5) (.tmp 6) 23 65 (.string ⟨#[]⟩) 16 rfl Tryz.underlying23 info65 rfl (by decide) (by decide) v1 [] l0 (some ad) l0.length c0 (fun _=>True) (fun _=>False) rfl rfl HO.out Ae.out (fun _ _ h=>h) (fun _ h=>h.elim) (fun _ _=>trivial) Ab.out Ab.out.size ?aL ?_);(case aL=>have:=HH.out;simp only [List.length_nil,Nat.zero_add];exact this);intro v2 w2 ho hb Aa hat;have Ad:=Aside0.mk ho;have Af:=Aside0.mk hb;clear ho hb Aa hat))
  go_ret
  exact ⟨_,rfl,by have h:=Ad.out;rw [List.nil_append] at h;exact h,Af.out⟩
def slices_Clone_string_string.f (xs:List ByteArray):Option (List ByteArray):=if xs.length * 16≤140737488355328 then some xs else none
set_option maxRecDepth 100000 in
theorem slices_Clone_string_string.calls (A0:Option Addr) (c0:Nat) (l0 r:List ByteArray) (w:World) (hr0:Kd.C Kd.string w A0 l0.length l0) (hc0:l0.length≤c0) (h:slices_Clone_string_string.f l0 = some r) :
  Calls Tryz.prog 83 #[.slice A0 l0.length c0] w fun e w'=>∃ v,e = .returned v∧Kd.R Kd.string 9 w' w.heap.size (fun _=>True) v r∧Below w.heap.size w w':=by
 unfold slices_Clone_string_string.f at h
 by_cases hc:l0.length * 16≤140737488355328
 case neg=>rw [if_neg hc] at h;cases h
 rw [if_pos hc] at h
 injection h with h
 subst h
 have HC:=Aside0.mk hr0
 clear hr0 hc0
 rcases A0 with _|ad
 ·have hl:l0 = []:=by
   rcases l0 with _|⟨x,l⟩
   ·rfl
   ·obtain ⟨a,ha,_⟩:=HC.out.2.2 (by simp)
    cases ha
  subst hl
  clear hc HC
  have he:∀ W:World,(binOp .eql 24 (.slice none ([]:List ByteArray).length c0) (.slice none 0 0)).run Tryz.prog W = .ok (.bool true) W:=fun _=>rfl
  simp only [List.length_nil] at he
  go_enter Tryz.func83,Tryz.ntmps83
  go_wp2_with fail
  go_ret
  exact ⟨_,rfl,Kd.R_nil _ _ _ _ _,Below.refl _ _⟩
 ·have HH:=Aside0.mk hc
  clear hc
  have HB:=Aside0.mk (Below.refl w.heap.size w)
  have he:∀ W:World,(binOp .eql 24 (.slice (some ad) l0.length c0) (.slice none 0 0)).run Tryz.prog W = .ok (.bool false) W:=fun _=>rfl
  go_enter Tryz.func83,Tryz.ntmps83
  go_wp2_with (first
   | ((with_reducible refine gate_dst (N:=5) rfl ?_);go_loud (refine Kd.R_lit (Kd.string) (w0:=w) w.heap.size 9 ?hg (N:=5) ?hd (xs:=([]:List ByteArray)) (inner:=[]) (ok:=fun _=>True) (okp:=fun _=>False) ?hr ?hp (fun _ hk=>hk.elim) trivial ?hB ?hS (by simp) ?_);(case hd=>rfl);(case hg=>rfl);(case hr=>first|(go_simp;done)|(go_simp;rfl));(case hp=>exact Reps.none _ _);(case hB=>exact HB.out);(case hS=>exact Nat.le_refl _);intro v1 w1 ho hb Aa Ac;have HO:=Aside0.mk ho;have Ab:=Aside0.mk hb;have Ae:=Aside0.mk (Kd.C_below HC.out hb);clear ho hb Aa Ac)
   | ((with_reducible refine gate_builtin (b:=.append) (xs:=#[.tmp 5,.tmp 6]) rfl ?_);at_builtin;go_loud (refine Kd.R_append_rows (Kd.string) (w0:=w) w.heap.size rfl (.tmp 5) (.tmp 6) 24 9 (.string ⟨#[]⟩) 16 rfl Tryz.underlying24 info9 rfl (by decide) (by decide) v1 [] l0 (some ad) l0.length c0 (fun _=>True) (fun _=>False) rfl rfl HO.out Ae.out (fun _ _ h=>h) (fun _ h=>h.elim) (fun _ _=>trivial) Ab.out Ab.out.size ?aL ?_);(case aL=>have:=HH.out;simp only [List.length_nil,Nat.zero_add];exact this);intro v2 w2 ho hb Aa hat;have Ad:=Aside0.mk ho;have Af:=Aside0.mk hb;clear ho hb Aa hat))
  go_ret
  exact ⟨_,rfl,by have h:=Ad.out;rw [List.nil_append] at h;exact h,Af.out⟩
set_option maxHeartbeats 8000000
set_option maxRecDepth 100000
def record_event.f (a0_0:Int) (a0_1:Int) (a0_2:Int) (l0_3:List Int) (l0_4:List ByteArray) (l0_5:List ByteArray):Option (Int × Int × Int × List Int × List ByteArray × List ByteArray):=(slices_Clone_int_int.f l0_3).bind fun t342=>((api_Rat_82.f l0_4).bind fun t345=>((slices_Clone_string_string.f l0_5).bind fun t348=>(some (a0_0,a0_1,a0_2,t342,t345,t348))))
def record_event.T1:Bool × List (List Nat × List Nat):=(true,[([],[]),([0],[0]),([1],[1]),([],[]),([3],[3]),([4,2],[4]),([],[]),([6],[6]),([7,5],[7]),([0,1,2,3,4,6,7],[]),([9,2,8,0,1,2,3,4,6,7],[2,9]),([0,1,2,3,4,5,6,7,9,10],[]),([11,5,10,0,1,2,3,4,5,6,7,9,10],[5,11]),([0,1,2,3,4,5,6,7,8,9,10,11,12],[]),([13,8,12,0,1,2,3,4,5,6,7,8,9,10,11,12],[8,13])])
def record_event.B1:List Nat:=[0,1,3,0,8,31,0,64,255,223,1023,2047,4095,8191,16383]
theorem record_event.tab1:rtab .any (opsOf Tryz.f70 1) = record_event.T1:=by kernel_rfl
theorem record_event.bits1:waitsOk record_event.T1.2 record_event.B1 = true:=by kernel_rfl
theorem record_event.calls (a0_0:Int) (a0_1:Int) (a0_2:Int) (A0_3:Option Addr) (c0_3:Nat) (l0_3:List Int) (A0_4:Option Addr) (c0_4:Nat) (l0_4:List ByteArray) (A0_5:Option Addr) (c0_5:Nat) (l0_5:List ByteArray) (r1:Int) (r2:Int) (r3:Int) (r4:List Int) (r5:List ByteArray) (r6:List ByteArray) (w:World) (hr0_3:Kd.C (Kd.int .i64) w A0_3 l0_3.length l0_3) (hc0_3:l0_3.length≤c0_3) (hr0_4:Kd.C Kd.string w A0_4 l0_4.length l0_4) (hc0_4:l0_4.length≤c0_4) (hr0_5:Kd.C Kd.string w A0_5 l0_5.length l0_5) (hc0_5:l0_5.length≤c0_5) (h:record_event.f a0_0 a0_1 a0_2 l0_3 l0_4 l0_5 = some (r1,r2,r3,r4,r5,r6)) :
  Calls Tryz.prog 70 #[.agg #[.int .i64 a0_0,.int .i64 a0_1,.int .i64 a0_2,.slice A0_3 l0_3.length c0_3,.slice A0_4 l0_4.length c0_4,.slice A0_5 l0_5.length c0_5]] w fun e w'=>∃ v3_ v4_ v5_:Value,e = .returned (.agg #[.int .i64 r1,.int .i64 r2,.int .i64 r3,v3_,v4_,v5_])∧Kd.R (Kd.int .i64) 3 w' w.heap.size (fun _=>True) v3_ r4∧Kd.R Kd.string 65 w' w.heap.size (fun _=>True) v4_ r5∧Kd.R Kd.string 9 w' w.heap.size (fun _=>True) v5_ r6∧Below w.heap.size w w':=by
 have Cz:=Tryz.underlying26
 have Bd:=Aside0.mk hr0_3
 have Bg:=Aside0.mk hc0_3
 clear hr0_3 hc0_3
 have Bc:=Aside0.mk hr0_4
 have Bf:=Aside0.mk hc0_4
 clear hr0_4 hc0_4
 have Bb:=Aside0.mk hr0_5
 have Be:=Aside0.mk hc0_5
 clear hr0_5 hc0_5
 have HB:=Aside0.mk (Below.refl w.heap.size w)
 have H:=h;clear h;unfold record_event.f at H
 obtain ⟨Ak,A2,H⟩:=bn_ H
 obtain ⟨Aj,A3,H⟩:=bn_ H
 obtain ⟨Ai,A4,H⟩:=bn_ H
 simp only [Option.some.injEq,Prod.mk.injEq] at H
 obtain ⟨rfl,rfl,rfl,rfl,rfl,rfl⟩:=H
 go_enter Tryz.func70,Tryz.ntmps70
 try go_wp2_with (first|((with_reducible refine gate_dst (N:=1) rfl ?_);refine bv_ #[.int .i64 a0_0,.int .i64 a0_1,.int .i64 a0_2,.slice A0_3 l0_3.length c0_3,.slice A0_4 l0_4.length c0_4,.slice A0_5 l0_5.length c0_5] 26 ?_;clear HB;intro Ac hg w5 Aa Cv hb HB;clear hb hg)|((with_reducible refine gate_dst (N:=2) rfl ?_);refine bv_ #[.int .i64 0,.int .i64 0,.int .i64 0,.slice none 0 0,.slice none 0 0,.slice none 0 0] 26 ?_;clear HB;intro Ab hg w6 Ad Cu hb HB;have x_:=ol_ Aa hg hb;clear Aa;obtain ⟨Aa,Af,Ae⟩:=x_;clear hb hg))
 replace Aa:=dr_ Aa
 replace Ad:=dr_ Ad
 replace HB:=db_ HB
 refine start_ (n:=15) (S:=fun w'=>w'.cell? ⟨Ac,0,none⟩ = some (.int .i64 a0_0)∧w'.cell? ⟨Ac,1,none⟩ = some (.int .i64 a0_1)∧w'.cell? ⟨Ac,2,none⟩ = some (.int .i64 a0_2)∧w'.cell? ⟨Ac,3,none⟩ = some (.slice A0_3 l0_3.length c0_3)∧w'.cell? ⟨Ac,4,none⟩ = some (.slice A0_4 l0_4.length c0_4)∧w'.cell? ⟨Ac,5,none⟩ = some (.slice A0_5 l0_5.length c0_5)) (ds:=[10,12,14]) #[false,false,false,false,false,false,false,false,false,false,false,false,false,false,false] kr_ rfl rfl hc_ (fun Ag=>?_);refine with_tabW record_event.tab1 record_event.bits1 (fun Cn Dd=>?_)
 generalize w6.drew = w7 at Aa Ad HB Ag ⊢
 refine pu_ 0 (some 3) (tt_ 15 1) ?_
 refine pu_ 3 (some 6) (tt_ 15 9) ?_
 refine pu_ 6 (some 9) (tt_ 15 73) ?_
 refine tk_ 1 (some 4) (tt_ 15 75) Ag ?_
 refine tk_ 4 (some 7) (tt_ 15 91) Ag ?_
 refine tk_ 7 (some 10) (tt_ 15 219) Ag ?_
 refine oc_ 2 (some 5) (tt_ 15 223) Tryz.func81 #[.slice A0_3 l0_3.length c0_3] (fun K hK=>?_)
 with_reducible refine (slices_Clone_int_int.calls _ _ l0_3 Ak _ ?side1 ?side2 A2.out).mono ?_
 (case side1=>exact cx_ (Kd.C_below Bd.out HB.out))
 (case side2=>exact Bg.out)
 rintro e w8 ⟨Cy,rfl,At,hb⟩
 refine ⟨_,rfl,?_⟩
 have Ah:=Aside0.mk (Kd.R_lower At (below_size bx_))
 replace Aa:=bb_ Aa hb
 replace Ad:=bb_ Ad hb
 replace HB:=bs_ hb
 (try clear hb)
 (try clear At)
 refine hk_ hK (fun Ag=>?_);clear hK K
 refine pu_ 9 (some 12) (tt_ 15 735) ?_
 refine oc_ 5 (some 8) (tt_ 15 767) Tryz.func82 #[.slice A0_4 l0_4.length c0_4] (fun K hK=>?_)
 with_reducible refine (api_Rat_82.calls _ _ l0_4 Aj _ ?side1 ?side2 A3.out).mono ?_
 (case side1=>exact cx_ (Kd.C_below Bc.out HB.out))
 (case side2=>exact Bf.out)
 rintro e w9 ⟨Cx,rfl,At,hb⟩
 refine ⟨_,rfl,?_⟩
 have As:=Aside0.mk (Kd.R_lower At (below_size bx_))
 replace Ah:=rb_ Ah hb
 replace Aa:=bb_ Aa hb
 replace Ad:=bb_ Ad hb
 replace HB:=bs_ hb
 (try clear hb)
 (try clear At)
 refine hk_ hK (fun Ag=>?_);clear hK K
 refine oc_ 8 (some 11) (tt_ 15 1023) Tryz.func83 #[.slice A0_5 l0_5.length c0_5] (fun K hK=>?_)
 with_reducible refine (slices_Clone_string_string.calls _ _ l0_5 Ai _ ?side1 ?side2 A4.out).mono ?_
 (case side1=>exact cx_ (Kd.C_below Bb.out HB.out))
 (case side2=>exact Be.out)
 rintro e Co ⟨Cw,rfl,At,hb⟩
 refine ⟨_,rfl,?_⟩
 have Au:=Aside0.mk (Kd.R_lower At (below_size bx_))
 replace Ah:=rb_ Ah hb
 replace As:=rb_ As hb
 replace Aa:=bb_ Aa hb
 replace Ad:=bb_ Ad hb
 replace HB:=bs_ hb
 (try clear hb)
 (try clear At)
 obtain ⟨Aq,An,Ba⟩:=Kd.R_slice Ah.out
 (first|subst Ba|(injection Ba with f1_ f2_ f3_;have Aw:=f1_.symm;have Av:=f3_.symm;clear f1_ f2_ f3_;subst Aw;subst Av))
 obtain ⟨Ap,Am,Ay⟩:=Kd.R_slice As.out
 (first|subst Ay|(injection Ay with f1_ f2_ f3_;have Aw:=f1_.symm;have Av:=f3_.symm;clear f1_ f2_ f3_;subst Aw;subst Av))
 obtain ⟨Ao,Al,Ax⟩:=Kd.R_slice Au.out
 (first|subst Ax|(injection Ax with f1_ f2_ f3_;have Aw:=f1_.symm;have Av:=f3_.symm;clear f1_ f2_ f3_;subst Aw;subst Av))
 refine hk_ hK (fun Ag=>?_);clear hK K
 refine last_ (i:=10) (N:=none) #[true,true,true,true,true,true,true,true,true,true,true,false,false,false,false] rfl rfl (one_of Cn.out kr_) de_ (fun K hK=>?_)
 have Dc:Co.cell? ⟨Ac,3,none⟩ = some (.slice A0_3 l0_3.length c0_3):=(blk_cell Aa.out 3).trans rfl
 have Ct:=blk_frozen Aa.out 3
 have Bj:=Ae.out
 have Bm:=Af.out
 refine skip_ (w1:=?_) (by rfl) rfl ?_ ?_
 rotate_left
 ·go_simp
  rfl
 refine hK.out _ _ ?_
 clear hK K
 refine pu_ 11 (some 13) (tt_ 15 4095) ?_
 refine last_ (i:=12) (N:=none) #[true,true,true,true,true,true,true,true,true,true,true,true,true,false,false] rfl rfl (one_of Cn.out kr_) de_ (fun K hK=>?_)
 have Db:Co.cell? ⟨Ac,4,none⟩ = some (.slice A0_4 l0_4.length c0_4):=(blk_cell Aa.out 4).trans rfl
 have Cs:=blk_frozen Aa.out 4
 have Bi:=Ae.out
 have Bl:=Af.out
 refine skip_ (w1:=?_) (by rfl) rfl ?_ ?_
 rotate_left
 ·go_simp
  rfl
 refine hK.out _ _ ?_
 clear hK K
 refine pu_ 13 (some 14) (tt_ 15 16383) ?_
 refine last_ (i:=14) (N:=none) #[true,true,true,true,true,true,true,true,true,true,true,true,true,true,true] rfl rfl (one_of Cn.out kr_) de_ (fun K hK=>?_)
 have Da:Co.cell? ⟨Ac,5,none⟩ = some (.slice A0_5 l0_5.length c0_5):=(blk_cell Aa.out 5).trans rfl
 have Cr:=blk_frozen Aa.out 5
 have Bh:=Ae.out
 have Bk:=Af.out
 refine skip_ (w1:=?_) (by rfl) rfl ?_ ?_
 rotate_left
 ·go_simp
  rfl
 refine hK.out _ _ ?_
 clear hK K
 refine done_ (done_of Cn.out kr_) ?_
 have Cq:=Af.out
 have Cp:=Ae.out
 obtain ⟨Cm,Cl,Ck,Cj,Ci,Ch,Bz,By,Bx,Bw,Bv,Bu⟩:=c6_ Aa
 obtain ⟨Cg,Cf,Ce,Cc,Cb,Ca,Bt,Br,Bq,Bp,Bo,Bn⟩:=c6_ Ad
 try go_wp2
 refine bodyPost_ret (results_cell_row rfl _ _ Ab 26 #[.int .i64 a0_0,.int .i64 a0_1,.int .i64 a0_2,.slice Aq Ak.length An,.slice Ap Aj.length Am,.slice Ao Ai.length Al] (0,0) _ rfl bk_ Tryz.underlying26 rfl kr_) rfl ?_
 exact ⟨_,_,_,rf_,by (with_reducible repeat (first|apply Kd.R_alloc|apply Kd.R_drewN|apply Kd.R_drew));exact Kd.R_mono (Kd.R_far (p:=⟨Ab,5,none⟩) (Kd.R_far (p:=⟨Ab,4,none⟩) (Kd.R_far (p:=⟨Ab,3,none⟩) (Kd.R_far (p:=⟨Ab,2,none⟩) (Kd.R_far (p:=⟨Ab,1,none⟩) (Kd.R_far (p:=⟨Ab,0,none⟩) (Kd.R_far (p:=⟨Ac,5,none⟩) (Kd.R_far (p:=⟨Ac,4,none⟩) (Kd.R_far (p:=⟨Ac,3,none⟩) (Kd.R_types (Kd.R_types Ah.out Aa.out de_) Ad.out de_) (fun _ hk=>hk.1.2) (.slice Aq Ak.length An)) (fun _ hk=>hk.1.2) (.slice Ap Aj.length Am)) (fun _ hk=>hk.1.2) (.slice Ao Ai.length Al)) (fun _ hk=>hk.2) (.int .i64 a0_0)) (fun _ hk=>hk.2) (.int .i64 a0_1)) (fun _ hk=>hk.2) (.int .i64 a0_2)) (fun _ hk=>hk.2) (.slice Aq Ak.length An)) (fun _ hk=>hk.2) (.slice Ap Aj.length Am)) (fun _ hk=>hk.2) (.slice Ao Ai.length Al)) (fun _ hk=>trivial),by (with_reducible repeat (first|apply Kd.R_alloc|apply Kd.R_drewN|apply Kd.R_drew));exact Kd.R_mono (Kd.R_far (p:=⟨Ab,5,none⟩) (Kd.R_far (p:=⟨Ab,4,none⟩) (Kd.R_far (p:=⟨Ab,3,none⟩) (Kd.R_far (p:=⟨Ab,2,none⟩) (Kd.R_far (p:=⟨Ab,1,none⟩) (Kd.R_far (p:=⟨Ab,0,none⟩) (Kd.R_far (p:=⟨Ac,5,none⟩) (Kd.R_far (p:=⟨Ac,4,none⟩) (Kd.R_far (p:=⟨Ac,3,none⟩) (Kd.R_types (Kd.R_types As.out Aa.out de_) Ad.out de_) (fun _ hk=>hk.1.2) (.slice Aq Ak.length An)) (fun _ hk=>hk.1.2) (.slice Ap Aj.length Am)) (fun _ hk=>hk.1.2) (.slice Ao Ai.length Al)) (fun _ hk=>hk.2) (.int .i64 a0_0)) (fun _ hk=>hk.2) (.int .i64 a0_1)) (fun _ hk=>hk.2) (.int .i64 a0_2)) (fun _ hk=>hk.2) (.slice Aq Ak.length An)) (fun _ hk=>hk.2) (.slice Ap Aj.length Am)) (fun _ hk=>hk.2) (.slice Ao Ai.length Al)) (fun _ hk=>trivial),by (with_reducible repeat (first|apply Kd.R_alloc|apply Kd.R_drewN|apply Kd.R_drew));exact Kd.R_mono (Kd.R_far (p:=⟨Ab,5,none⟩) (Kd.R_far (p:=⟨Ab,4,none⟩) (Kd.R_far (p:=⟨Ab,3,none⟩) (Kd.R_far (p:=⟨Ab,2,none⟩) (Kd.R_far (p:=⟨Ab,1,none⟩) (Kd.R_far (p:=⟨Ab,0,none⟩) (Kd.R_far (p:=⟨Ac,5,none⟩) (Kd.R_far (p:=⟨Ac,4,none⟩) (Kd.R_far (p:=⟨Ac,3,none⟩) (Kd.R_types (Kd.R_types Au.out Aa.out de_) Ad.out de_) (fun _ hk=>hk.1.2) (.slice Aq Ak.length An)) (fun _ hk=>hk.1.2) (.slice Ap Aj.length Am)) (fun _ hk=>hk.1.2) (.slice Ao Ai.length Al)) (fun _ hk=>hk.2) (.int .i64 a0_0)) (fun _ hk=>hk.2) (.int .i64 a0_1)) (fun _ hk=>hk.2) (.int .i64 a0_2)) (fun _ hk=>hk.2) (.slice Aq Ak.length An)) (fun _ hk=>hk.2) (.slice Ap Aj.length Am)) (fun _ hk=>hk.2) (.slice Ao Ai.length Al)) (fun _ hk=>trivial),bx_⟩
set_option maxHeartbeats 8000000
set_option maxRecDepth 100000
def record_Append.l0:Nat→List (S52)→ByteArray→List (S52)→List (S52)→Int→Int→Int→Int→Int→List Int→List ByteArray→List ByteArray→Option ((List (S52)) × Int)
 | 0,_,_,_,_,_,_,_,_,_,_,_,_=>none
 | k + 1,x0,x8,x10,x32,x33,x34,x352000,x352001,x352002,x352003,x352004,x352005=>if x34 < x33 then (if 0≤x34 then (if x34 < (x32.length:Int) then ((record_event.f ((rd_T52 x32 x34).f0.f0) ((rd_T52 x32 x34).f0.f1) ((rd_T52 x32 x34).f0.f2) ((rd_T52 x32 x34).f0.f3) ((rd_T52 x32 x34).f0.f4) ((rd_T52 x32 x34).f0.f5)).bind fun bt358=>(if x10.length < 1256584717458 then (record_Append.l0 k x0 x8 (x10 ++ [(⟨(⟨bt358.1,bt358.2.1,bt358.2.2.1,bt358.2.2.2.1,bt358.2.2.2.2.1,bt358.2.2.2.2.2⟩:S26),(rd_T52 x32 x34).f1⟩:S52)]) x32 x33 (wrap64 (x34 + 1)) x352000 x352001 x352002 x352003 x352004 x352005) else (none))) else (none)) else (none)) else ((record_event.f x352000 x352001 x352002 x352003 x352004 x352005).bind fun bt373=>((record_seal.f x0 x8).bind fun t385=>(if x10.length < 1256584717458 then (some ((x10 ++ [(⟨(⟨bt373.1,bt373.2.1,bt373.2.2.1,bt373.2.2.2.1,bt373.2.2.2.2.1,bt373.2.2.2.2.2⟩:S26),t385⟩:S52)]),0)) else (none))))
def record_Append.f (k:Nat) (l0:List (S52)) (a1_0:Int) (a1_1:Int) (a1_2:Int) (l1_3:List Int) (l1_4:List ByteArray) (l1_5:List ByteArray):Option ((List (S52)) × Int):=(record_Check.f k l0).bind fun bt352=>(if bt352.2 = 0 then ((record_fits.f k l0 a1_0 a1_1 a1_2 l1_3 l1_4 l1_5).bind fun bt354=>(if bt354.2 = 0 then (if (l0.length:Int) = 1024 then (some (([]:List (S52)),12)) else (record_Append.l0 k l0 bt354.1 ([]:List (S52)) l0 (l0.length:Int) 0 a1_0 a1_1 a1_2 l1_3 l1_4 l1_5)) else (some (([]:List (S52)),bt354.2)))) else (some (([]:List (S52)),1)))
theorem record_Append.mono_l:∀ k,(∀ y0 y1 y2 y3 y4 y5 y6 y7 y8 y9 y10 y11,LeO (record_Append.l0 k y0 y1 y2 y3 y4 y5 y6 y7 y8 y9 y10 y11) (record_Append.l0 (k + 1) y0 y1 y2 y3 y4 y5 y6 y7 y8 y9 y10 y11))
 | 0=>fun _ _ _ _ _ _ _ _ _ _ _ _ r h=>by simp [record_Append.l0] at h
 | k + 1=>by
  have ih0:=record_Append.mono_l k
  ·intro y0 y1 y2 y3 y4 y5 y6 y7 y8 y9 y10 y11
   unfold record_Append.l0
   repeat' first
   | (with_reducible exact ih0 _ _ _ _ _ _ _ _ _ _ _ _)
   | (with_reducible exact record_Check.mono _ _)
   | (with_reducible exact record_fits.mono _ _ _ _ _ _ _ _)
   | (with_reducible exact LeO.refl _)
   | (with_reducible exact LeO.none _)
   | (with_reducible refine LeO.ite ?_ ?_)
   | (with_reducible refine LeO.bind ?_ (fun _=>?_))
   | exact ih0 _ _ _ _ _ _ _ _ _ _ _ _
   | exact record_Check.mono _ _
   | exact record_fits.mono _ _ _ _ _ _ _ _
   | exact LeO.none _
   | refine LeO.ite ?_ ?_
   | refine LeO.bind ?_ (fun _=>?_)
theorem record_Append.mono:∀ a0 a1 a2 a3 a4 a5 a6 k,LeO (record_Append.f k a0 a1 a2 a3 a4 a5 a6) (record_Append.f (k + 1) a0 a1 a2 a3 a4 a5 a6):=by
 intro a0 a1 a2 a3 a4 a5 a6 k
 have Aa:=record_Append.mono_l k
 unfold record_Append.f
 repeat' first
   | (with_reducible exact Aa _ _ _ _ _ _ _ _ _ _ _ _)
   | (with_reducible exact record_Check.mono _ _)
   | (with_reducible exact record_fits.mono _ _ _ _ _ _ _ _)
   | (with_reducible exact LeO.refl _)
   | (with_reducible exact LeO.none _)
   | (with_reducible refine LeO.ite ?_ ?_)
   | (with_reducible refine LeO.bind ?_ (fun _=>?_))
   | exact Aa _ _ _ _ _ _ _ _ _ _ _ _
   | exact record_Check.mono _ _
   | exact record_fits.mono _ _ _ _ _ _ _ _
   | exact LeO.none _
   | refine LeO.ite ?_ ?_
   | refine LeO.bind ?_ (fun _=>?_)
def record_Append.T13:Bool × List (List Nat × List Nat):=(true,[([],[]),([],[]),([1],[1]),([2],[2]),([],[]),([4],[4]),([3,5],[3,5]),([6],[6]),([0,7,3],[0,7]),([8,8,0,1,2,3,4,5,6,7,8],[0,8])])
def record_Append.B13:List Nat:=[0,0,2,6,0,16,62,126,255,511]
theorem record_Append.tab13:rtab .any (opsOf Tryz.f31 13) = record_Append.T13:=by kernel_rfl
theorem record_Append.bits13:waitsOk record_Append.T13.2 record_Append.B13 = true:=by kernel_rfl
theorem record_Append.calls (k:Nat) (A0:Option Addr) (c0:Nat) (l0:List (S52)) (a1_0:Int) (a1_1:Int) (a1_2:Int) (A1_3:Option Addr) (c1_3:Nat) (l1_3:List Int) (A1_4:Option Addr) (c1_4:Nat) (l1_4:List ByteArray) (A1_5:Option Addr) (c1_5:Nat) (l1_5:List ByteArray) (r1:List (S52)) (r2:Int) (w:World) (hr0:Kd.C k52 w A0 l0.length l0) (hc0:l0.length≤c0) (hr1_3:Kd.C (Kd.int .i64) w A1_3 l1_3.length l1_3) (hc1_3:l1_3.length≤c1_3) (hr1_4:Kd.C Kd.string w A1_4 l1_4.length l1_4) (hc1_4:l1_4.length≤c1_4) (hr1_5:Kd.C Kd.string w A1_5 l1_5.length l1_5) (hc1_5:l1_5.length≤c1_5) (hL:LaidW w) (h:record_Append.f k l0 a1_0 a1_1 a1_2 l1_3 l1_4 l1_5 = some (r1,r2)) :
  Calls Tryz.prog 31 #[.slice A0 l0.length c0,.agg #[.int .i64 a1_0,.int .i64 a1_1,.int .i64 a1_2,.slice A1_3 l1_3.length c1_3,.slice A1_4 l1_4.length c1_4,.slice A1_5 l1_5.length c1_5]] w fun e w'=>∃ v0_:Value,e = .returned (.tuple #[v0_,.int .i64 r2])∧Kd.S k52 52 w' w.heap.size (fun _=>True) v0_ r1∧Below w.heap.size w w':=by
 have Ia:=Tryz.underlying26
 have Hz:=Tryz.underlying52
 have Cu:=Aside0.mk hr0
 have Cy:=Aside0.mk hc0
 clear hr0 hc0
 have Bf:=Aside0.mk hr1_3
 have Bl:=Aside0.mk hc1_3
 clear hr1_3 hc1_3
 have Be:=Aside0.mk hr1_4
 have Bk:=Aside0.mk hc1_4
 clear hr1_4 hc1_4
 have Bd:=Aside0.mk hr1_5
 have Bj:=Aside0.mk hc1_5
 clear hr1_5 hc1_5
 have HB:=Aside0.mk (Below.refl w.heap.size w)
 have HLW:=Aside0.mk hL
 clear hL
 have H:=h;clear h;unfold record_Append.f at H
 obtain ⟨⟨Ce,Ba⟩,A3,H⟩:=bn_ H
 dsimp only at H
 by_cases c4:Ba = 0
 ·rw [if_pos c4] at H
  have Dy:(Ba == 0) = true:=beq_iff_eq.mpr c4
  have Dx:(Ba != 0) = false:=bne_eq_false_iff_eq.mpr c4
  clear c4
  obtain ⟨⟨Bc,Bb⟩,A5,H⟩:=bn_ H
  dsimp only at H
  by_cases c6:Bb = 0
  ·rw [if_pos c6] at H
   have Dw:(Bb == 0) = true:=beq_iff_eq.mpr c6
   have Dv:(Bb != 0) = false:=bne_eq_false_iff_eq.mpr c6
   clear c6
   by_cases c7:(l0.length:Int) = 1024
   ·rw [if_pos c7] at H
    have Du:((l0.length:Int) == 1024) = true:=beq_iff_eq.mpr c7
    have Dt:((l0.length:Int) != 1024) = false:=bne_eq_false_iff_eq.mpr c7
    clear c7
    simp only [Option.some.injEq,Prod.mk.injEq] at H
    obtain ⟨rfl,rfl⟩:=H
    go_enter Tryz.func31,Tryz.ntmps31
    go_wp2_with (first|((with_reducible refine gate_dst (N:=3) rfl ?_);refine box_event ?hg (N:=3) ?hd (cs:=#[.int .i64 a1_0,.int .i64 a1_1,.int .i64 a1_2,.slice A1_3 l1_3.length c1_3,.slice A1_4 l1_4.length c1_4,.slice A1_5 l1_5.length c1_5]) (t:=26) ?hr ?_;(case hd=>rfl);(case hg=>rfl);(case hr=>first|(go_simp;done)|(go_simp;rfl));intro Ae hg w8 At hb;have Am:=Aside0.mk (below_step bx_ hb);have Al:=Aside0.mk (At);have Ap:=Aside0.mk ((by rw [hg];exact (below_size bx_):w.heap.size≤Ae));have Aq:=Aside0.mk ((by rw [hg];exact (below_size bx_):w.heap.size≤Ae));clear HB;have HB:=Am;have Ac:=Al;have Ax:=Ap;have Ax:=Aq;clear Am Al Ap Aq;clear hb At hg)|((with_reducible refine gate_callee (f:=27) rfl ?_);refine gm_ (some 15) Tryz.func27 #[.slice A0 l0.length c0] ?_;(with_reducible refine (record_Check.calls k _ _ l0 Ce Ba _ ?side1 ?side2 ?side3 A3.out).mono ?_);(case side1=>exact cx_ (Kd.C_below Cu.out HB.out));(case side2=>exact Cy.out);(case side3=>exact HLW.out.below bx_);rintro e w9 ⟨rfl,hb⟩;refine ⟨_,rfl,?_⟩;have Am:=Aside0.mk (blk_below (g:=Ae) (o:=.cells #[.int .i64 a1_0,.int .i64 a1_1,.int .i64 a1_2,.slice A1_3 l1_3.length c1_3,.slice A1_4 l1_4.length c1_4,.slice A1_5 l1_5.length c1_5] 26 (0,0)) (by (with_reducible repeat (first|refine blk_drewN ?_ _|refine blk_drew ?_|refine blk_alloc ?_ _));exact Ac.out) hb);have Al:=Aside0.mk (below_step bx_ hb);clear Ac;clear HB;have Ac:=Am;have HB:=Al;clear Am Al;(try clear hb);obtain ⟨Gw,Gv,Gu,Gt,Gs,Gr,Fw,Fv,Fu,Ft,Fs,Fr⟩:=c6_ Ac)|((with_reducible refine gate_callee (f:=60) rfl ?_);refine gm_ (some 23) Tryz.func60 #[.slice A0 l0.length c0,.agg #[.int .i64 a1_0,.int .i64 a1_1,.int .i64 a1_2,.slice A1_3 l1_3.length c1_3,.slice A1_4 l1_4.length c1_4,.slice A1_5 l1_5.length c1_5]] ?_;(with_reducible refine (record_fits.calls k _ _ l0 a1_0 a1_1 a1_2 _ _ l1_3 _ _ l1_4 _ _ l1_5 Bc Bb _ ?side1 ?side2 ?side3 ?side4 ?side5 ?side6 ?side7 ?side8 ?side9 A5.out).mono ?_);(case side1=>exact cx_ (Kd.C_below Cu.out HB.out));(case side2=>exact Cy.out);(case side3=>exact cx_ (Kd.C_below Bf.out HB.out));(case side4=>exact Bl.out);(case side5=>exact cx_ (Kd.C_below Be.out HB.out));(case side6=>exact Bk.out);(case side7=>exact cx_ (Kd.C_below Bd.out HB.out));(case side8=>exact Bj.out);(case side9=>exact HLW.out.below bx_);rintro e Iv ⟨rfl,hb⟩;refine ⟨_,rfl,?_⟩;have Am:=Aside0.mk (blk_below (g:=Ae) (o:=.cells #[.int .i64 a1_0,.int .i64 a1_1,.int .i64 a1_2,.slice A1_3 l1_3.length c1_3,.slice A1_4 l1_4.length c1_4,.slice A1_5 l1_5.length c1_5] 26 (0,0)) (by (with_reducible repeat (first|refine blk_drewN ?_ _|refine blk_drew ?_|refine blk_alloc ?_ _));exact Ac.out) hb);have Al:=Aside0.mk (below_step bx_ hb);clear Ac;clear HB;have Ac:=Am;have HB:=Al;clear Am Al;(try clear hb)))
    go_ret2
    exact ⟨_,rf_,by first|exact Kd.S_nil _ _ _ _ _|exact Kd.N_nil _ _ _ _ _|exact Kd.V_nil _ _ _ _ _|exact Kd.Q_nil _ _ _ _ _|exact Kd.R_nil _ _ _ _ _,bx_⟩
   ·rw [if_neg c7] at H
    have Du:((l0.length:Int) == 1024) = false:=beq_eq_false_iff_ne.mpr c7
    have Dt:((l0.length:Int) != 1024) = true:=bne_iff_ne.mpr c7
    have H':=Aside0.mk H
    clear H
    go_enter Tryz.func31,Tryz.ntmps31
    go_wp2_with (first|((with_reducible refine gate_dst (N:=3) rfl ?_);refine box_event ?hg (N:=3) ?hd (cs:=#[.int .i64 a1_0,.int .i64 a1_1,.int .i64 a1_2,.slice A1_3 l1_3.length c1_3,.slice A1_4 l1_4.length c1_4,.slice A1_5 l1_5.length c1_5]) (t:=26) ?hr ?_;(case hd=>rfl);(case hg=>rfl);(case hr=>first|(go_simp;done)|(go_simp;rfl));intro Ae hg Iu At hb;have Am:=Aside0.mk (below_step bx_ hb);have Al:=Aside0.mk (At);have Ap:=Aside0.mk ((by rw [hg];exact (below_size bx_):w.heap.size≤Ae));have Aq:=Aside0.mk ((by rw [hg];exact (below_size bx_):w.heap.size≤Ae));clear HB;have HB:=Am;have Ac:=Al;have Ax:=Ap;have Ax:=Aq;clear Am Al Ap Aq;clear hb At hg)|((with_reducible refine gate_callee (f:=27) rfl ?_);refine gm_ (some 15) Tryz.func27 #[.slice A0 l0.length c0] ?_;(with_reducible refine (record_Check.calls k _ _ l0 Ce Ba _ ?side1 ?side2 ?side3 A3.out).mono ?_);(case side1=>exact cx_ (Kd.C_below Cu.out HB.out));(case side2=>exact Cy.out);(case side3=>exact HLW.out.below bx_);rintro e It ⟨rfl,hb⟩;refine ⟨_,rfl,?_⟩;have Am:=Aside0.mk (blk_below (g:=Ae) (o:=.cells #[.int .i64 a1_0,.int .i64 a1_1,.int .i64 a1_2,.slice A1_3 l1_3.length c1_3,.slice A1_4 l1_4.length c1_4,.slice A1_5 l1_5.length c1_5] 26 (0,0)) (by (with_reducible repeat (first|refine blk_drewN ?_ _|refine blk_drew ?_|refine blk_alloc ?_ _));exact Ac.out) hb);have Al:=Aside0.mk (below_step bx_ hb);clear Ac;clear HB;have Ac:=Am;have HB:=Al;clear Am Al;(try clear hb);obtain ⟨Cq,Cp,Co,Cn,Cm,Cl,Ck,Cj,Ci,Ch,Cg,Cf⟩:=c6_ Ac)|((with_reducible refine gate_callee (f:=60) rfl ?_);refine gm_ (some 23) Tryz.func60 #[.slice A0 l0.length c0,.agg #[.int .i64 a1_0,.int .i64 a1_1,.int .i64 a1_2,.slice A1_3 l1_3.length c1_3,.slice A1_4 l1_4.length c1_4,.slice A1_5 l1_5.length c1_5]] ?_;(with_reducible refine (record_fits.calls k _ _ l0 a1_0 a1_1 a1_2 _ _ l1_3 _ _ l1_4 _ _ l1_5 Bc Bb _ ?side1 ?side2 ?side3 ?side4 ?side5 ?side6 ?side7 ?side8 ?side9 A5.out).mono ?_);(case side1=>exact cx_ (Kd.C_below Cu.out HB.out));(case side2=>exact Cy.out);(case side3=>exact cx_ (Kd.C_below Bf.out HB.out));(case side4=>exact Bl.out);(case side5=>exact cx_ (Kd.C_below Be.out HB.out));(case side6=>exact Bk.out);(case side7=>exact cx_ (Kd.C_below Bd.out HB.out));(case side8=>exact Bj.out);(case side9=>exact HLW.out.below bx_);rintro e Ir ⟨rfl,hb⟩;refine ⟨_,rfl,?_⟩;have Am:=Aside0.mk (blk_below (g:=Ae) (o:=.cells #[.int .i64 a1_0,.int .i64 a1_1,.int .i64 a1_2,.slice A1_3 l1_3.length c1_3,.slice A1_4 l1_4.length c1_4,.slice A1_5 l1_5.length c1_5] 26 (0,0)) (by (with_reducible repeat (first|refine blk_drewN ?_ _|refine blk_drew ?_|refine blk_alloc ?_ _));exact Ac.out) hb);have Al:=Aside0.mk (below_step bx_ hb);clear Ac;clear HB;have Ac:=Am;have HB:=Al;clear Am Al;(try clear hb)))
    go_loopg [10,34] k (fun kq Hy Hx w'=>∃ (As:List (S52)) (Aa:Int),Hx = .int .i64 Aa∧Aside0 (record_Append.l0 kq l0 Bc As l0 (l0.length:Int) Aa a1_0 a1_1 a1_2 l1_3 l1_4 l1_5 = some (r1,r2))∧Aside0 (kq≤k)∧Aside0 (Kd.S k52 52 w' w.heap.size (fun _=>True) Hy As)∧Aside0 (w'.heap[Ae]? = some (.cells #[.int .i64 a1_0,.int .i64 a1_1,.int .i64 a1_2,(.slice A1_3 l1_3.length c1_3),(.slice A1_4 l1_4.length c1_4),(.slice A1_5 l1_5.length c1_5)] 26 (0,0)))∧Aside0 (Below w.heap.size w w'))
    case atStart=>exact ⟨(([]:List (S52))),(0),rg_,H',⟨Nat.le_refl _⟩,⟨by first|exact Kd.S_nil _ _ _ _ _|exact Kd.N_nil _ _ _ _ _|exact Kd.V_nil _ _ _ _ _|exact Kd.Q_nil _ _ _ _ _|exact Kd.R_nil _ _ _ _ _⟩,⟨by (with_reducible repeat (first|refine blk_drewN ?_ _|refine blk_drew ?_|refine blk_alloc ?_ _));exact Ac.out⟩,⟨bx_⟩⟩
    case round =>
     clear H'
     try clear c4
     try clear Dy
     try clear Dx
     try clear c6
     try clear Dw
     try clear Dv
     try clear c7
     try clear Du
     try clear Dt
     try clear Cq
     try clear Cp
     try clear Co
     try clear Cn
     try clear Cm
     try clear Cl
     try clear Ck
     try clear Cj
     try clear Ci
     try clear Ch
     try clear Cg
     try clear Cf
     obtain ⟨As,Aa,rfl,HA,Hn,Ad,Ac,HB⟩:=hrel
     cases gk with
     | zero=>exact absurd HA.out (by simp [record_Append.l0])
     | succ k1 =>
      have H:=HA.out
      clear HA
      simp only [record_Append.l0] at H
      by_cases Df:Aa < (l0.length:Int)
      ·rw [if_pos Df] at H
       have Dz:decide (Aa < (l0.length:Int)) = true:=decide_eq_true Df
       clear Df
       by_cases Ha:0≤Aa
       ·rw [if_pos Ha] at H
        have Hl:decide (0≤Aa) = true:=decide_eq_true Ha
        clear Ha
        by_cases Gz:Aa < (l0.length:Int)
        ·rw [if_pos Gz] at H
         have Hk:decide (Aa < (l0.length:Int)) = true:=decide_eq_true Gz
         clear Gz
         obtain ⟨⟨Ca,Bz,By,Br,Bq,Bp⟩,Id,H⟩:=bn_ H
         dsimp only at H
         by_cases Gy:As.length < 1256584717458
         ·rw [if_pos Gy] at H
          have Ed:=Aside0.mk Gy
          clear Gy
          obtain ⟨y370,hy370⟩:∃ y_:List (S52),y_ = (As ++ [(⟨(⟨Ca,Bz,By,Br,Bq,Bp⟩:S26),(rd_T52 l0 Aa).f1⟩:S52)]):=⟨_,rfl⟩
          replace H:(record_Append.l0 k1 l0 Bc y370 l0 (l0.length:Int) (wrap64 (Aa + 1)) a1_0 a1_1 a1_2 l1_3 l1_4 l1_5) = some (r1,r2):=by first|(rw [hy370];with_reducible exact H)|(have De:=(Option.bind_some _ _).symm.trans H;rw [hy370];with_reducible exact De)|(have De:=(Option.bind_some _ _).symm.trans H;with_reducible exact De)|with_reducible exact H|(rw [hy370];exact H)|exact H
          have Eb:=Aside0.mk hy370
          clear hy370
          have H':=Aside0.mk H
          clear H
          have Da:0≤(Aa:Int):=da_
          have Cz:Aa < (l0.length:Int):=da_
          obtain ⟨Hm,Ah,Ag,Ak,Aj,Ao,An,Hf,Ew,Eu,Et,Es,Er,Ep,Eo,Ct,Cx,Cs,Cw,Cr,Cv⟩:=ao52_ Cu HB Aa Da Cz
          cases Hf
          replace Da:=eq_true Da
          replace Cz:=eq_true Cz
          try go_wp2_with (first|((with_reducible refine gate_dst (N:=12) rfl ?_);refine box_event ?hg (N:=12) ?hd (cs:=#[.int .i64 0,.int .i64 0,.int .i64 0,.slice none 0 0,.slice none 0 0,.slice none 0 0,.string (⟨#[]⟩:ByteArray)]) (t:=52) ?hr ?_;(case hd=>rfl);(case hg=>rfl);(case hr=>first|(go_simp;done)|(go_simp;rfl));intro Ab hg Dg At hb;have Am:=Aside0.mk (Kd.S_below (Kd.S_elderB (by (with_reducible repeat (first|apply Kd.S_alloc|apply Kd.S_drewN|apply Kd.S_drew));exact Ad.out) Ab (Nat.le_of_eq hg.symm)) hb);have Al:=Aside0.mk (blk_below (g:=Ae) (o:=.cells #[.int .i64 a1_0,.int .i64 a1_1,.int .i64 a1_2,.slice A1_3 l1_3.length c1_3,.slice A1_4 l1_4.length c1_4,.slice A1_5 l1_5.length c1_5] 26 (0,0)) (by (with_reducible repeat (first|refine blk_drewN ?_ _|refine blk_drew ?_|refine blk_alloc ?_ _));exact Ac.out) hb);have Ap:=Aside0.mk (below_step bx_ hb);have Aq:=Aside0.mk (At);have Cc:=Aside0.mk ((by rw [hg];exact (below_size bx_):w.heap.size≤Ab));have Cb:=Aside0.mk ((by rw [hg];exact (below_size bx_):w.heap.size≤Ab));have Dh:=Aside0.mk ((by rw [hg];exact Nat.ne_of_lt (blk_lt (g:=Ae) (o:=.cells #[.int .i64 a1_0,.int .i64 a1_1,.int .i64 a1_2,.slice A1_3 l1_3.length c1_3,.slice A1_4 l1_4.length c1_4,.slice A1_5 l1_5.length c1_5] 26 (0,0)) (by (with_reducible repeat (first|refine blk_drewN ?_ _|refine blk_drew ?_|refine blk_alloc ?_ _));exact Ac.out)):Ae≠Ab));have Hh:=Aside0.mk ((by rw [hg];exact Nat.ne_of_gt (blk_lt (g:=Ae) (o:=.cells #[.int .i64 a1_0,.int .i64 a1_1,.int .i64 a1_2,.slice A1_3 l1_3.length c1_3,.slice A1_4 l1_4.length c1_4,.slice A1_5 l1_5.length c1_5] 26 (0,0)) (by (with_reducible repeat (first|refine blk_drewN ?_ _|refine blk_drew ?_|refine blk_alloc ?_ _));exact Ac.out)):Ab≠Ae));clear Ad;clear Ac;clear HB;have Ad:=Am;have Ac:=Al;have HB:=Ap;have Af:=Aq;have Eg:=Cc;have Eg:=Cb;have Ai:=Dh;have Bt:=Hh;clear Am Al Ap Aq Cc Cb Dh Hh;clear hb At hg;have Hj:=Bt.out;have Hi:=Ai.out;obtain ⟨Gq,Gp,Gn,Gm,Gl,Gk,Gj,Fq,Fp,Fo,Fm,Fl,Fk,Fj⟩:=c7_ Af))
          have Am:Aside0 (Kd.S k52 52 (((((((Dg.setCell ⟨Ab,0,none⟩ (.int .i64 ((rd_T52 l0 Aa).f0.f0))).setCell ⟨Ab,1,none⟩ (.int .i64 ((rd_T52 l0 Aa).f0.f1))).setCell ⟨Ab,2,none⟩ (.int .i64 ((rd_T52 l0 Aa).f0.f2))).setCell ⟨Ab,3,none⟩ (.slice Ah ((rd_T52 l0 Aa).f0.f3).length Ag)).setCell ⟨Ab,4,none⟩ (.slice Ak ((rd_T52 l0 Aa).f0.f4).length Aj)).setCell ⟨Ab,5,none⟩ (.slice Ao ((rd_T52 l0 Aa).f0.f5).length An)).setCell ⟨Ab,6,none⟩ (.string ((rd_T52 l0 Aa).f1))) w.heap.size (fun k_=>k_≠Ab) u10 As):=⟨by (with_reducible repeat (first|apply Kd.S_alloc|apply Kd.S_drewN|apply Kd.S_drew));exact Kd.S_mono (Kd.S_far (p:=⟨Ab,6,none⟩) (Kd.S_far (p:=⟨Ab,5,none⟩) (Kd.S_far (p:=⟨Ab,4,none⟩) (Kd.S_far (p:=⟨Ab,3,none⟩) (Kd.S_far (p:=⟨Ab,2,none⟩) (Kd.S_far (p:=⟨Ab,1,none⟩) (Kd.S_far (p:=⟨Ab,0,none⟩) (Kd.S_mono Ad.out (fun k_ hk=>(⟨hk,hk.2⟩:_∧k_≠Ab))) (fun _ hk=>hk.2) (.int .i64 ((rd_T52 l0 Aa).f0.f0))) (fun _ hk=>hk.2) (.int .i64 ((rd_T52 l0 Aa).f0.f1))) (fun _ hk=>hk.2) (.int .i64 ((rd_T52 l0 Aa).f0.f2))) (fun _ hk=>hk.2) (.slice Ah ((rd_T52 l0 Aa).f0.f3).length Ag)) (fun _ hk=>hk.2) (.slice Ak ((rd_T52 l0 Aa).f0.f4).length Aj)) (fun _ hk=>hk.2) (.slice Ao ((rd_T52 l0 Aa).f0.f5).length An)) (fun _ hk=>hk.2) (.string ((rd_T52 l0 Aa).f1))) (fun _ hk=>hk.1.2)⟩
          have Al:Aside0 ((((((((Dg.setCell ⟨Ab,0,none⟩ (.int .i64 ((rd_T52 l0 Aa).f0.f0))).setCell ⟨Ab,1,none⟩ (.int .i64 ((rd_T52 l0 Aa).f0.f1))).setCell ⟨Ab,2,none⟩ (.int .i64 ((rd_T52 l0 Aa).f0.f2))).setCell ⟨Ab,3,none⟩ (.slice Ah ((rd_T52 l0 Aa).f0.f3).length Ag)).setCell ⟨Ab,4,none⟩ (.slice Ak ((rd_T52 l0 Aa).f0.f4).length Aj)).setCell ⟨Ab,5,none⟩ (.slice Ao ((rd_T52 l0 Aa).f0.f5).length An)).setCell ⟨Ab,6,none⟩ (.string ((rd_T52 l0 Aa).f1))).heap[Ae]? = some (.cells #[.int .i64 a1_0,.int .i64 a1_1,.int .i64 a1_2,.slice A1_3 l1_3.length c1_3,.slice A1_4 l1_4.length c1_4,.slice A1_5 l1_5.length c1_5] 26 (0,0))):=⟨by (with_reducible repeat (first|refine blk_drewN ?_ _|refine blk_drew ?_|refine blk_alloc ?_ _));refine blk_far ?_ Ai.out _;(with_reducible repeat (first|refine blk_drewN ?_ _|refine blk_drew ?_|refine blk_alloc ?_ _));refine blk_far ?_ Ai.out _;(with_reducible repeat (first|refine blk_drewN ?_ _|refine blk_drew ?_|refine blk_alloc ?_ _));refine blk_far ?_ Ai.out _;(with_reducible repeat (first|refine blk_drewN ?_ _|refine blk_drew ?_|refine blk_alloc ?_ _));refine blk_far ?_ Ai.out _;(with_reducible repeat (first|refine blk_drewN ?_ _|refine blk_drew ?_|refine blk_alloc ?_ _));refine blk_far ?_ Ai.out _;(with_reducible repeat (first|refine blk_drewN ?_ _|refine blk_drew ?_|refine blk_alloc ?_ _));refine blk_far ?_ Ai.out _;(with_reducible repeat (first|refine blk_drewN ?_ _|refine blk_drew ?_|refine blk_alloc ?_ _));refine blk_far ?_ Ai.out _;(with_reducible repeat (first|refine blk_drewN ?_ _|refine blk_drew ?_|refine blk_alloc ?_ _));exact Ac.out⟩
          have Ap:Aside0 ((((((((Dg.setCell ⟨Ab,0,none⟩ (.int .i64 ((rd_T52 l0 Aa).f0.f0))).setCell ⟨Ab,1,none⟩ (.int .i64 ((rd_T52 l0 Aa).f0.f1))).setCell ⟨Ab,2,none⟩ (.int .i64 ((rd_T52 l0 Aa).f0.f2))).setCell ⟨Ab,3,none⟩ (.slice Ah ((rd_T52 l0 Aa).f0.f3).length Ag)).setCell ⟨Ab,4,none⟩ (.slice Ak ((rd_T52 l0 Aa).f0.f4).length Aj)).setCell ⟨Ab,5,none⟩ (.slice Ao ((rd_T52 l0 Aa).f0.f5).length An)).setCell ⟨Ab,6,none⟩ (.string ((rd_T52 l0 Aa).f1))).heap[Ab]? = some (.cells #[.int .i64 ((rd_T52 l0 Aa).f0.f0),.int .i64 ((rd_T52 l0 Aa).f0.f1),.int .i64 ((rd_T52 l0 Aa).f0.f2),.slice Ah ((rd_T52 l0 Aa).f0.f3).length Ag,.slice Ak ((rd_T52 l0 Aa).f0.f4).length Aj,.slice Ao ((rd_T52 l0 Aa).f0.f5).length An,.string ((rd_T52 l0 Aa).f1)] 52 (0,0))):=⟨by (with_reducible repeat (first|refine blk_drewN ?_ _|refine blk_drew ?_|refine blk_alloc ?_ _));refine blk_put (cs:=#[.int .i64 ((rd_T52 l0 Aa).f0.f0),.int .i64 ((rd_T52 l0 Aa).f0.f1),.int .i64 ((rd_T52 l0 Aa).f0.f2),.slice Ah ((rd_T52 l0 Aa).f0.f3).length Ag,.slice Ak ((rd_T52 l0 Aa).f0.f4).length Aj,.slice Ao ((rd_T52 l0 Aa).f0.f5).length An,.string (⟨#[]⟩:ByteArray)]) ?_ 6 _ rfl;(with_reducible repeat (first|refine blk_drewN ?_ _|refine blk_drew ?_|refine blk_alloc ?_ _));refine blk_put (cs:=#[.int .i64 ((rd_T52 l0 Aa).f0.f0),.int .i64 ((rd_T52 l0 Aa).f0.f1),.int .i64 ((rd_T52 l0 Aa).f0.f2),.slice Ah ((rd_T52 l0 Aa).f0.f3).length Ag,.slice Ak ((rd_T52 l0 Aa).f0.f4).length Aj,.slice none 0 0,.string (⟨#[]⟩:ByteArray)]) ?_ 5 _ rfl;(with_reducible repeat (first|refine blk_drewN ?_ _|refine blk_drew ?_|refine blk_alloc ?_ _));refine blk_put (cs:=#[.int .i64 ((rd_T52 l0 Aa).f0.f0),.int .i64 ((rd_T52 l0 Aa).f0.f1),.int .i64 ((rd_T52 l0 Aa).f0.f2),.slice Ah ((rd_T52 l0 Aa).f0.f3).length Ag,.slice none 0 0,.slice none 0 0,.string (⟨#[]⟩:ByteArray)]) ?_ 4 _ rfl;(with_reducible repeat (first|refine blk_drewN ?_ _|refine blk_drew ?_|refine blk_alloc ?_ _));refine blk_put (cs:=#[.int .i64 ((rd_T52 l0 Aa).f0.f0),.int .i64 ((rd_T52 l0 Aa).f0.f1),.int .i64 ((rd_T52 l0 Aa).f0.f2),.slice none 0 0,.slice none 0 0,.slice none 0 0,.string (⟨#[]⟩:ByteArray)]) ?_ 3 _ rfl;(with_reducible repeat (first|refine blk_drewN ?_ _|refine blk_drew ?_|refine blk_alloc ?_ _));refine blk_put (cs:=#[.int .i64 ((rd_T52 l0 Aa).f0.f0),.int .i64 ((rd_T52 l0 Aa).f0.f1),.int .i64 0,.slice none 0 0,.slice none 0 0,.slice none 0 0,.string (⟨#[]⟩:ByteArray)]) ?_ 2 _ rfl;(with_reducible repeat (first|refine blk_drewN ?_ _|refine blk_drew ?_|refine blk_alloc ?_ _));refine blk_put (cs:=#[.int .i64 ((rd_T52 l0 Aa).f0.f0),.int .i64 0,.int .i64 0,.slice none 0 0,.slice none 0 0,.slice none 0 0,.string (⟨#[]⟩:ByteArray)]) ?_ 1 _ rfl;(with_reducible repeat (first|refine blk_drewN ?_ _|refine blk_drew ?_|refine blk_alloc ?_ _));refine blk_put (cs:=#[.int .i64 0,.int .i64 0,.int .i64 0,.slice none 0 0,.slice none 0 0,.slice none 0 0,.string (⟨#[]⟩:ByteArray)]) ?_ 0 _ rfl;(with_reducible repeat (first|refine blk_drewN ?_ _|refine blk_drew ?_|refine blk_alloc ?_ _));exact Af.out⟩
          have Aq:Aside0 (Below w.heap.size w (((((((Dg.setCell ⟨Ab,0,none⟩ (.int .i64 ((rd_T52 l0 Aa).f0.f0))).setCell ⟨Ab,1,none⟩ (.int .i64 ((rd_T52 l0 Aa).f0.f1))).setCell ⟨Ab,2,none⟩ (.int .i64 ((rd_T52 l0 Aa).f0.f2))).setCell ⟨Ab,3,none⟩ (.slice Ah ((rd_T52 l0 Aa).f0.f3).length Ag)).setCell ⟨Ab,4,none⟩ (.slice Ak ((rd_T52 l0 Aa).f0.f4).length Aj)).setCell ⟨Ab,5,none⟩ (.slice Ao ((rd_T52 l0 Aa).f0.f5).length An)).setCell ⟨Ab,6,none⟩ (.string ((rd_T52 l0 Aa).f1)))):=⟨bx_⟩
          (try clear Ad)
          (try clear Ac)
          (try clear Af)
          (try clear HB)
          generalize (((((((Dg.setCell ⟨Ab,0,none⟩ (.int .i64 ((rd_T52 l0 Aa).f0.f0))).setCell ⟨Ab,1,none⟩ (.int .i64 ((rd_T52 l0 Aa).f0.f1))).setCell ⟨Ab,2,none⟩ (.int .i64 ((rd_T52 l0 Aa).f0.f2))).setCell ⟨Ab,3,none⟩ (.slice Ah ((rd_T52 l0 Aa).f0.f3).length Ag)).setCell ⟨Ab,4,none⟩ (.slice Ak ((rd_T52 l0 Aa).f0.f4).length Aj)).setCell ⟨Ab,5,none⟩ (.slice Ao ((rd_T52 l0 Aa).f0.f5).length An)).setCell ⟨Ab,6,none⟩ (.string ((rd_T52 l0 Aa).f1))) = Ho at Am Al Ap Aq ⊢
          have Ad:=Am
          have Ac:=Al
          have Af:=Ap
          have HB:=Aq
          clear Am Al Ap Aq
          have Am:=Aside0.mk (Kd.S_drew Ad.out)
          have Al:=Aside0.mk (blk_drew Ac.out)
          have Ap:=Aside0.mk (blk_drew Af.out)
          have Aq:=Aside0.mk (below_drew1 HB.out)
          clear Ad
          clear Ac
          clear Af
          clear HB
          have Ad:=Am
          have Ac:=Al
          have Af:=Ap
          have HB:=Aq
          clear Am Al Ap Aq
          refine start_ (n:=10) (S:=fun w'=>w'.cell? ⟨Ab,0,none⟩ = some (.int .i64 ((rd_T52 l0 Aa).f0.f0))∧w'.cell? ⟨Ab,1,none⟩ = some (.int .i64 ((rd_T52 l0 Aa).f0.f1))∧w'.cell? ⟨Ab,2,none⟩ = some (.int .i64 ((rd_T52 l0 Aa).f0.f2))∧w'.cell? ⟨Ab,3,none⟩ = some (.slice Ah ((rd_T52 l0 Aa).f0.f3).length Ag)∧w'.cell? ⟨Ab,4,none⟩ = some (.slice Ak ((rd_T52 l0 Aa).f0.f4).length Aj)∧w'.cell? ⟨Ab,5,none⟩ = some (.slice Ao ((rd_T52 l0 Aa).f0.f5).length An)∧w'.cell? ⟨Ab,6,none⟩ = some (.string ((rd_T52 l0 Aa).f1))) (ds:=[]) #[false,false,false,false,false,false,false,false,false,false] kr_ rfl rfl hc_ (fun Ay=>?_);refine with_tabW record_Append.tab13 record_Append.bits13 (fun Hg Iw=>?_)
          generalize Ho.drew = Iq at Ad Ac Af HB Ay ⊢
          refine pu_ 0 (some 38) (tt_ 10 1) ?_
          refine pu_ 1 (some 39) (tt_ 10 3) ?_
          refine pu_ 4 (some 42) (tt_ 10 19) ?_
          refine tk_ 2 (some 40) (tt_ 10 23) Ay ?_
          refine tk_ 5 (some 43) (tt_ 10 55) Ay ?_
          refine oc_ 3 (some 41) (tt_ 10 63) Tryz.func70 #[.agg #[.int .i64 ((rd_T52 l0 Aa).f0.f0),.int .i64 ((rd_T52 l0 Aa).f0.f1),.int .i64 ((rd_T52 l0 Aa).f0.f2),.slice Ah ((rd_T52 l0 Aa).f0.f3).length Ag,.slice Ak ((rd_T52 l0 Aa).f0.f4).length Aj,.slice Ao ((rd_T52 l0 Aa).f0.f5).length An]] (fun K hK=>?_)
          with_reducible refine (record_event.calls ((rd_T52 l0 Aa).f0.f0) ((rd_T52 l0 Aa).f0.f1) ((rd_T52 l0 Aa).f0.f2) _ _ ((rd_T52 l0 Aa).f0.f3) _ _ ((rd_T52 l0 Aa).f0.f4) _ _ ((rd_T52 l0 Aa).f0.f5) Ca Bz By Br Bq Bp _ ?side1 ?side2 ?side3 ?side4 ?side5 ?side6 Id.out).mono ?_
          (case side1=>exact cx_ (Kd.C_below Ct.out HB.out))
          (case side2=>exact Cx.out)
          (case side3=>exact cx_ (Kd.C_below Cs.out HB.out))
          (case side4=>exact Cw.out)
          (case side5=>exact cx_ (Kd.C_below Cr.out HB.out))
          (case side6=>exact Cv.out)
          rintro e Ip ⟨Hw,Hv,Hu,rfl,Dd,Dc,Db,hb⟩
          refine ⟨_,rfl,?_⟩
          have Am:=Aside0.mk (Kd.S_mono (Kd.S_told (Kd.S_told (Kd.S_told (Kd.S_old (by (with_reducible repeat (first|apply Kd.S_alloc|apply Kd.S_drewN|apply Kd.S_drew));exact Ad.out) hb) (Kd.R_base Dd)) (Kd.R_base Dc)) (Kd.R_base Db)) (fun _ h_=>h_.1))
          have Al:=Aside0.mk (Kd.R_lower Dd (below_size bx_))
          have Ap:=Aside0.mk (Kd.R_lower Dc (below_size bx_))
          have Aq:=Aside0.mk (Kd.R_lower Db (below_size bx_))
          have Cc:=Aside0.mk (blk_below (g:=Ae) (o:=.cells #[.int .i64 a1_0,.int .i64 a1_1,.int .i64 a1_2,.slice A1_3 l1_3.length c1_3,.slice A1_4 l1_4.length c1_4,.slice A1_5 l1_5.length c1_5] 26 (0,0)) (by (with_reducible repeat (first|refine blk_drewN ?_ _|refine blk_drew ?_|refine blk_alloc ?_ _));exact Ac.out) hb)
          have Cb:=Aside0.mk (blk_below (g:=Ab) (o:=.cells #[.int .i64 ((rd_T52 l0 Aa).f0.f0),.int .i64 ((rd_T52 l0 Aa).f0.f1),.int .i64 ((rd_T52 l0 Aa).f0.f2),.slice Ah ((rd_T52 l0 Aa).f0.f3).length Ag,.slice Ak ((rd_T52 l0 Aa).f0.f4).length Aj,.slice Ao ((rd_T52 l0 Aa).f0.f5).length An,.string ((rd_T52 l0 Aa).f1)] 52 (0,0)) (by (with_reducible repeat (first|refine blk_drewN ?_ _|refine blk_drew ?_|refine blk_alloc ?_ _));exact Af.out) hb)
          have Dh:=Aside0.mk (below_step bx_ hb)
          clear Ad
          clear Ac
          clear Af
          clear HB
          have Ad:=Am
          have Bi:=Al
          have Bh:=Ap
          have Bg:=Aq
          have Ac:=Cc
          have Af:=Cb
          have HB:=Dh
          clear Am Al Ap Aq Cc Cb Dh
          (try clear hb)
          (try clear Dd)
          (try clear Dc)
          (try clear Db)
          obtain ⟨Em,Ds,Dm⟩:=Kd.R_slice Bg.out
          (first|subst Dm|(injection Dm with f1_ f2_ f3_;have Dj:=f1_.symm;have Di:=f3_.symm;clear f1_ f2_ f3_;subst Dj;subst Di))
          obtain ⟨El,Dr,Dl⟩:=Kd.R_slice Bh.out
          (first|subst Dl|(injection Dl with f1_ f2_ f3_;have Dj:=f1_.symm;have Di:=f3_.symm;clear f1_ f2_ f3_;subst Dj;subst Di))
          obtain ⟨Ek,Dq,Dk⟩:=Kd.R_slice Bi.out
          (first|subst Dk|(injection Dk with f1_ f2_ f3_;have Dj:=f1_.symm;have Di:=f3_.symm;clear f1_ f2_ f3_;subst Dj;subst Di))
          refine hk_ hK (fun Ay=>?_);clear hK K
          refine pu_ 6 (some 44) (tt_ 10 127) ?_
          refine one_ (i:=7) (N:=some 45) #[true,true,true,true,true,true,true,true,false,false] rfl rfl (one_of Hg.out kr_) de_ (fun K hK=>?_)
          refine value_ (w1:=?_) (v:=?_) (by rfl) rfl ?_ ?_
          rotate_left 2
          ·go_simp
           constructor
           ·rfl
           ·rfl
          refine hK.out _ _ ⟨(blk_cell (blk_alloc Af.out _) 0).trans rfl,(blk_cell (blk_alloc Af.out _) 1).trans rfl,(blk_cell (blk_alloc Af.out _) 2).trans rfl,(blk_cell (blk_alloc Af.out _) 3).trans rfl,(blk_cell (blk_alloc Af.out _) 4).trans rfl,(blk_cell (blk_alloc Af.out _) 5).trans rfl,(blk_cell (blk_alloc Af.out _) 6).trans rfl⟩ (fun Ay=>?_)
          clear hK K
          refine norm_ (a':=?_) ?_ ?_
          rotate_left
          ·show Act.put _ (some 45) _ = _
           simp only [Act.put,List.setIfInBounds_toArray,List.set_cons_zero,List.set_cons_succ,i64_w,i32_w]
           rfl
          refine one_ (i:=8) (N:=some 46) #[true,true,true,true,true,true,true,true,true,false] rfl rfl (one_of Hg.out kr_) de_ (fun K hK=>?_)
          refine Kd.S_append_step k52 (w0:=w) w.heap.size (by rfl) (.tmp 38) (.tmp 45) 37 52 (.agg #[(.int .i64 0),(.int .i64 0),(.int .i64 0),(.slice none 0 0),(.slice none 0 0),(.slice none 0 0),(.string ⟨#[]⟩)]) 112 rfl Tryz.underlying37 info52 rfl de_ (by omega) u10 As (⟨(⟨Ca,Bz,By,Br,Bq,Bp⟩:S26),(rd_T52 l0 Aa).f1⟩:S52) [.int .i64 Ca,.int .i64 Bz,.int .i64 By,.slice Ek Br.length Dq,.slice El Bq.length Dr,.slice Em Bp.length Ds,.string ((rd_T52 l0 Aa).f1)] (fun k_=>k_≠Ab) (fun k_=>some k_ = (.slice Ek Br.length Dq:Value).ownBlock ∨ some k_ = (.slice El Bq.length Dr:Value).ownBlock ∨ some k_ = (.slice Em Bp.length Ds:Value).ownBlock) rfl rfl ?aP (fun k_ hk_=>hk_.elim (fun h_=>((Kd.R_mono (ok':=fun k_=>((fun k_=>k_≠Ab)) k_∧some k_≠(u10:Value).ownBlock) (Kd.R_types (Kd.R_apart' (Bi.out) (Kd.S_typed Ad.out) de_) Af.out de_) (fun k_ hk=>⟨hk.2,hk.1.2⟩))).1 k_ h_.symm) (fun h_=>h_.elim (fun h_=>((Kd.R_mono (ok':=fun k_=>((fun k_=>k_≠Ab)) k_∧some k_≠(u10:Value).ownBlock) (Kd.R_types (Kd.R_apart' (Bh.out) (Kd.S_typed Ad.out) de_) Af.out de_) (fun k_ hk=>⟨hk.2,hk.1.2⟩))).1 k_ h_.symm) (fun h_=>((Kd.R_mono (ok':=fun k_=>((fun k_=>k_≠Ab)) k_∧some k_≠(u10:Value).ownBlock) (Kd.R_types (Kd.R_apart' (Bg.out) (Kd.S_typed Ad.out) de_) Af.out de_) (fun k_ hk=>⟨hk.2,hk.1.2⟩))).1 k_ h_.symm))) ?aF ?aO ?aB ?aS ?aL ?_
          (case aP=>exact k52_mkM _ _ _ (⟨(⟨Ca,Bz,By,Br,Bq,Bp⟩:S26),(rd_T52 l0 Aa).f1⟩:S52) (Kd.R_mono (Kd.R_tight rfl (Kd.R_mono (ok':=fun k_=>((fun k_=>k_≠Ab)) k_∧some k_≠(u10:Value).ownBlock) (Kd.R_types (Kd.R_apart' (Bi.out) (Kd.S_typed Ad.out) de_) Af.out de_) (fun k_ hk=>⟨hk.2,hk.1.2⟩))) (fun _ h_=>Or.inl h_)) (Kd.R_mono (Kd.R_tight rfl (Kd.R_mono (ok':=fun k_=>((fun k_=>k_≠Ab)) k_∧some k_≠(u10:Value).ownBlock) (Kd.R_types (Kd.R_apart' (Bh.out) (Kd.S_typed Ad.out) de_) Af.out de_) (fun k_ hk=>⟨hk.2,hk.1.2⟩))) (fun _ h_=>Or.inr (Or.inl h_))) (Kd.R_mono (Kd.R_tight rfl (Kd.R_mono (ok':=fun k_=>((fun k_=>k_≠Ab)) k_∧some k_≠(u10:Value).ownBlock) (Kd.R_types (Kd.R_apart' (Bg.out) (Kd.S_typed Ad.out) de_) Af.out de_) (fun k_ hk=>⟨hk.2,hk.1.2⟩))) (fun _ h_=>Or.inr (Or.inr (h_)))))
          (case aB=>exact bx_)
          (case aF=>exact (fun k_ hk=>Kd.freshB (g:=Ab) (o:=.cells #[.int .i64 ((rd_T52 l0 Aa).f0.f0),.int .i64 ((rd_T52 l0 Aa).f0.f1),.int .i64 ((rd_T52 l0 Aa).f0.f2),.slice Ah ((rd_T52 l0 Aa).f0.f3).length Ag,.slice Ak ((rd_T52 l0 Aa).f0.f4).length Aj,.slice Ao ((rd_T52 l0 Aa).f0.f5).length An,.string ((rd_T52 l0 Aa).f1)] 52 (0,0)) (by (with_reducible repeat (first|refine blk_drewN ?_ _|refine blk_drew ?_|refine blk_alloc ?_ _));exact Af.out) k_ hk))
          (case aO=>exact (by (with_reducible repeat (first|apply Kd.S_alloc|apply Kd.S_drewN|apply Kd.S_drew));exact Kd.S_mono Ad.out (fun k_ hk=>⟨hk.1.1.1,fun e_=>e_.elim (fun h_=>hk.1.1.2 h_) (fun h_=>h_.elim (fun h_=>hk.1.2 h_) (fun h_=>hk.2 h_))⟩)))
          (case aS=>exact (below_size bx_))
          (case aL=>have:=Ed.out;omega)
          intro Ht Io ho hb hg hat
          rw [← Eb.out] at ho
          have Am:=Aside0.mk (blk_grown (g:=Ae) (o:=.cells #[.int .i64 a1_0,.int .i64 a1_1,.int .i64 a1_2,.slice A1_3 l1_3.length c1_3,.slice A1_4 l1_4.length c1_4,.slice A1_5 l1_5.length c1_5] 26 (0,0)) (by (with_reducible repeat (first|refine blk_drewN ?_ _|refine blk_drew ?_|refine blk_alloc ?_ _));exact Ac.out) hg (Kd.S_ne Ad.out Ac.out de_))
          have Al:=Aside0.mk (blk_grown (g:=Ab) (o:=.cells #[.int .i64 ((rd_T52 l0 Aa).f0.f0),.int .i64 ((rd_T52 l0 Aa).f0.f1),.int .i64 ((rd_T52 l0 Aa).f0.f2),.slice Ah ((rd_T52 l0 Aa).f0.f3).length Ag,.slice Ak ((rd_T52 l0 Aa).f0.f4).length Aj,.slice Ao ((rd_T52 l0 Aa).f0.f5).length An,.string ((rd_T52 l0 Aa).f1)] 52 (0,0)) (by (with_reducible repeat (first|refine blk_drewN ?_ _|refine blk_drew ?_|refine blk_alloc ?_ _));exact Af.out) hg (Kd.S_away Ad.out (fun _ hk=>hk.1.1.1)))
          have Ap:=Aside0.mk (hb)
          have Aq:=Aside0.mk (ho)
          clear Ac
          clear Af
          clear HB
          clear Ad
          clear Bi
          clear Bh
          clear Bg
          have Ac:=Am
          have Af:=Al
          have HB:=Ap
          have Ef:=Aq
          clear Am Al Ap Aq
          clear ho hb hg hat
          refine hk_ hK (fun Ay=>?_);clear hK K
          refine pu_ 9 (some 10) (tt_ 10 1023) ?_
          refine done_ (done_of Hg.out kr_) ?_
          try go_wp2
          go_roundg k1
          case measure=>have:=Hn.out;omega
          case rel=>exact ⟨(y370),(wrap64 (Aa + 1)),rg_,H',⟨by have:=Hn.out;omega⟩,⟨by (with_reducible repeat (first|apply Kd.S_alloc|apply Kd.S_drewN|apply Kd.S_drew));exact Kd.S_mono Ef.out (fun _ hk=>trivial)⟩,⟨by (with_reducible repeat (first|refine blk_drewN ?_ _|refine blk_drew ?_|refine blk_alloc ?_ _));exact Ac.out⟩,⟨bx_⟩⟩
         ·rw [if_neg Gy] at H
          exact absurd H sm_
        ·rw [if_neg Gz] at H
         exact absurd H sm_
       ·rw [if_neg Ha] at H
        exact absurd H sm_
      ·rw [if_neg Df] at H
       have Dz:decide (Aa < (l0.length:Int)) = false:=decide_eq_false Df
       clear Df
       obtain ⟨⟨Bx,Bw,Bv,Bo,Bn,Bm⟩,Ic,H⟩:=bn_ H
       dsimp only at H
       obtain ⟨Bu,Ib,H⟩:=bn_ H
       by_cases Gx:As.length < 1256584717458
       ·rw [if_pos Gx] at H
        have Ec:=Aside0.mk Gx
        clear Gx
        obtain ⟨y386,hy386⟩:∃ y_:List (S52),y_ = (As ++ [(⟨(⟨Bx,Bw,Bv,Bo,Bn,Bm⟩:S26),Bu⟩:S52)]):=⟨_,rfl⟩
        replace H:(some (y386,0)) = some (r1,r2):=by first|(rw [hy386];with_reducible exact H)|(have De:=(Option.bind_some _ _).symm.trans H;rw [hy386];with_reducible exact De)|(have De:=(Option.bind_some _ _).symm.trans H;with_reducible exact De)|with_reducible exact H|(rw [hy386];exact H)|exact H
        have Ea:=Aside0.mk hy386
        clear hy386
        simp only [Option.some.injEq,Prod.mk.injEq] at H
        obtain ⟨rfl,rfl⟩:=H
        obtain ⟨Gi,Gh,Gg,Gf,Ge,Gd,Fi,Fh,Fg,Ff,Fe,Fd⟩:=c6_ Ac
        go_wp2_with (first|((with_reducible refine gate_callee (f:=70) rfl ?_);refine gm_ (some 50) Tryz.func70 #[.agg #[.int .i64 a1_0,.int .i64 a1_1,.int .i64 a1_2,.slice A1_3 l1_3.length c1_3,.slice A1_4 l1_4.length c1_4,.slice A1_5 l1_5.length c1_5]] ?_;(with_reducible refine (record_event.calls a1_0 a1_1 a1_2 _ _ l1_3 _ _ l1_4 _ _ l1_5 Bx Bw Bv Bo Bn Bm _ ?side1 ?side2 ?side3 ?side4 ?side5 ?side6 Ic.out).mono ?_);(case side1=>exact cx_ (Kd.C_below Bf.out HB.out));(case side2=>exact Bl.out);(case side3=>exact cx_ (Kd.C_below Be.out HB.out));(case side4=>exact Bk.out);(case side5=>exact cx_ (Kd.C_below Bd.out HB.out));(case side6=>exact Bj.out);rintro e Im ⟨Hs,Hr,Hq,rfl,Dd,Dc,Db,hb⟩;refine ⟨_,rfl,?_⟩;have Am:=Aside0.mk (Kd.S_mono (Kd.S_told (Kd.S_told (Kd.S_told (Kd.S_old (by (with_reducible repeat (first|apply Kd.S_alloc|apply Kd.S_drewN|apply Kd.S_drew));exact Ad.out) hb) (Kd.R_base Dd)) (Kd.R_base Dc)) (Kd.R_base Db)) (fun _ h_=>h_.1));have Al:=Aside0.mk (Kd.R_lower Dd (below_size bx_));have Ap:=Aside0.mk (Kd.R_lower Dc (below_size bx_));have Aq:=Aside0.mk (Kd.R_lower Db (below_size bx_));have Cc:=Aside0.mk (blk_below (g:=Ae) (o:=.cells #[.int .i64 a1_0,.int .i64 a1_1,.int .i64 a1_2,.slice A1_3 l1_3.length c1_3,.slice A1_4 l1_4.length c1_4,.slice A1_5 l1_5.length c1_5] 26 (0,0)) (by (with_reducible repeat (first|refine blk_drewN ?_ _|refine blk_drew ?_|refine blk_alloc ?_ _));exact Ac.out) hb);have Cb:=Aside0.mk (below_step bx_ hb);clear Ad;clear Ac;clear HB;have Ad:=Am;have Aw:=Al;have Av:=Ap;have Au:=Aq;have Ac:=Cc;have HB:=Cb;clear Am Al Ap Aq Cc Cb;(try clear hb);(try clear Dd);(try clear Dc);(try clear Db))|((with_reducible refine gate_callee (f:=61) rfl ?_);refine gm_ (some 53) Tryz.func61 #[.slice A0 l0.length c0,.string Bc] ?_;(with_reducible refine (record_seal.calls _ _ l0 Bc Bu _ ?side1 ?side2 Ib.out).mono ?_);(case side1=>exact cx_ (Kd.C_below Cu.out HB.out));(case side2=>exact Cy.out);rintro e Il ⟨rfl,hb⟩;refine ⟨_,rfl,?_⟩;have Am:=Aside0.mk (Kd.S_below (by (with_reducible repeat (first|apply Kd.S_alloc|apply Kd.S_drewN|apply Kd.S_drew));exact Ad.out) hb);have Al:=Aside0.mk (Kd.R_below (by (with_reducible repeat (first|apply Kd.R_alloc|apply Kd.R_drewN|apply Kd.R_drew));exact Aw.out) hb);have Ap:=Aside0.mk (Kd.R_below (by (with_reducible repeat (first|apply Kd.R_alloc|apply Kd.R_drewN|apply Kd.R_drew));exact Av.out) hb);have Aq:=Aside0.mk (Kd.R_below (by (with_reducible repeat (first|apply Kd.R_alloc|apply Kd.R_drewN|apply Kd.R_drew));exact Au.out) hb);have Cc:=Aside0.mk (blk_below (g:=Ae) (o:=.cells #[.int .i64 a1_0,.int .i64 a1_1,.int .i64 a1_2,.slice A1_3 l1_3.length c1_3,.slice A1_4 l1_4.length c1_4,.slice A1_5 l1_5.length c1_5] 26 (0,0)) (by (with_reducible repeat (first|refine blk_drewN ?_ _|refine blk_drew ?_|refine blk_alloc ?_ _));exact Ac.out) hb);have Cb:=Aside0.mk (below_step bx_ hb);clear Ad;clear Aw;clear Av;clear Au;clear Ac;clear HB;have Ad:=Am;have Aw:=Al;have Av:=Ap;have Au:=Aq;have Ac:=Cc;have HB:=Cb;clear Am Al Ap Aq Cc Cb;(try clear hb);obtain ⟨Ej,Dp,He⟩:=Kd.R_slice Au.out;subst He;obtain ⟨Ei,Do,Hd⟩:=Kd.R_slice Av.out;subst Hd;obtain ⟨Eh,Dn,Hb⟩:=Kd.R_slice Aw.out;subst Hb)|((with_reducible refine gate_builtin (b:=.append) (xs:=#[.tmp 48,.tmp 55]) rfl ?_);at_builtin;refine Kd.S_append k52 (w0:=w) w.heap.size rfl (.tmp 48) (.tmp 55) 37 52 (.agg #[(.int .i64 0),(.int .i64 0),(.int .i64 0),(.slice none 0 0),(.slice none 0 0),(.slice none 0 0),(.string ⟨#[]⟩)]) 112 rfl Tryz.underlying37 info52 rfl de_ (by omega) u10 As (⟨(⟨Bx,Bw,Bv,Bo,Bn,Bm⟩:S26),Bu⟩:S52) [.int .i64 Bx,.int .i64 Bw,.int .i64 Bv,.slice Eh Bo.length Dn,.slice Ei Bn.length Do,.slice Ej Bm.length Dp,.string Bu] (fun _=>True) (fun k_=>some k_ = (.slice Eh Bo.length Dn:Value).ownBlock ∨ some k_ = (.slice Ei Bn.length Do:Value).ownBlock ∨ some k_ = (.slice Ej Bm.length Dp:Value).ownBlock) rfl rfl ?aP (fun k_ hk_=>hk_.elim (fun h_=>((Kd.R_mono (ok':=fun k_=>((fun _=>True)) k_∧some k_≠(u10:Value).ownBlock) (Kd.R_apart' (Aw.out) (Kd.S_typed Ad.out) de_) (fun k_ hk=>⟨trivial,hk.2⟩))).1 k_ h_.symm) (fun h_=>h_.elim (fun h_=>((Kd.R_mono (ok':=fun k_=>((fun _=>True)) k_∧some k_≠(u10:Value).ownBlock) (Kd.R_apart' (Av.out) (Kd.S_typed Ad.out) de_) (fun k_ hk=>⟨trivial,hk.2⟩))).1 k_ h_.symm) (fun h_=>((Kd.R_mono (ok':=fun k_=>((fun _=>True)) k_∧some k_≠(u10:Value).ownBlock) (Kd.R_apart' (Au.out) (Kd.S_typed Ad.out) de_) (fun k_ hk=>⟨trivial,hk.2⟩))).1 k_ h_.symm))) ?aF ?aO ?aB ?aS ?aL ?_;(case aP=>exact k52_mkM _ _ _ (⟨(⟨Bx,Bw,Bv,Bo,Bn,Bm⟩:S26),Bu⟩:S52) (Kd.R_mono (Kd.R_tight rfl (Kd.R_mono (ok':=fun k_=>((fun _=>True)) k_∧some k_≠(u10:Value).ownBlock) (Kd.R_apart' (Aw.out) (Kd.S_typed Ad.out) de_) (fun k_ hk=>⟨trivial,hk.2⟩))) (fun _ h_=>Or.inl h_)) (Kd.R_mono (Kd.R_tight rfl (Kd.R_mono (ok':=fun k_=>((fun _=>True)) k_∧some k_≠(u10:Value).ownBlock) (Kd.R_apart' (Av.out) (Kd.S_typed Ad.out) de_) (fun k_ hk=>⟨trivial,hk.2⟩))) (fun _ h_=>Or.inr (Or.inl h_))) (Kd.R_mono (Kd.R_tight rfl (Kd.R_mono (ok':=fun k_=>((fun _=>True)) k_∧some k_≠(u10:Value).ownBlock) (Kd.R_apart' (Au.out) (Kd.S_typed Ad.out) de_) (fun k_ hk=>⟨trivial,hk.2⟩))) (fun _ h_=>Or.inr (Or.inr (h_)))));(case aB=>exact bx_);(case aF=>exact (fun _ _=>trivial));(case aO=>exact (by (with_reducible repeat (first|apply Kd.S_alloc|apply Kd.S_drewN|apply Kd.S_drew));exact Kd.S_mono Ad.out (fun k_ hk=>⟨trivial,fun e_=>e_.elim (fun h_=>hk.1.1.2 h_) (fun h_=>h_.elim (fun h_=>hk.1.2 h_) (fun h_=>hk.2 h_))⟩)));(case aS=>exact (below_size bx_));(case aL=>have:=Ec.out;omega);intro Hp Ik ho hb hg hat;rw [← Ea.out] at ho;have Am:=Aside0.mk (blk_grown (g:=Ae) (o:=.cells #[.int .i64 a1_0,.int .i64 a1_1,.int .i64 a1_2,.slice A1_3 l1_3.length c1_3,.slice A1_4 l1_4.length c1_4,.slice A1_5 l1_5.length c1_5] 26 (0,0)) (by (with_reducible repeat (first|refine blk_drewN ?_ _|refine blk_drew ?_|refine blk_alloc ?_ _));exact Ac.out) hg (Kd.S_ne Ad.out Ac.out de_));have Al:=Aside0.mk (hb);have Ap:=Aside0.mk (ho);clear Ac;clear HB;clear Ad;clear Aw;clear Av;clear Au;have Ac:=Am;have HB:=Al;have Ee:=Ap;clear Am Al Ap;clear ho hb hg hat))
        go_ret2
        exact ⟨_,rf_,by (with_reducible repeat (first|apply Kd.S_alloc|apply Kd.S_drewN|apply Kd.S_drew));exact Ee.out,bx_⟩
       ·rw [if_neg Gx] at H
        exact absurd H sm_
  ·rw [if_neg c6] at H
   have Dw:(Bb == 0) = false:=beq_eq_false_iff_ne.mpr c6
   have Dv:(Bb != 0) = true:=bne_iff_ne.mpr c6
   simp only [Option.some.injEq,Prod.mk.injEq] at H
   obtain ⟨rfl,rfl⟩:=H
   go_enter Tryz.func31,Tryz.ntmps31
   go_wp2_with (first|((with_reducible refine gate_dst (N:=3) rfl ?_);refine box_event ?hg (N:=3) ?hd (cs:=#[.int .i64 a1_0,.int .i64 a1_1,.int .i64 a1_2,.slice A1_3 l1_3.length c1_3,.slice A1_4 l1_4.length c1_4,.slice A1_5 l1_5.length c1_5]) (t:=26) ?hr ?_;(case hd=>rfl);(case hg=>rfl);(case hr=>first|(go_simp;done)|(go_simp;rfl));intro Ae hg Ij At hb;have Am:=Aside0.mk (below_step bx_ hb);have Al:=Aside0.mk (At);have Ap:=Aside0.mk ((by rw [hg];exact (below_size bx_):w.heap.size≤Ae));have Aq:=Aside0.mk ((by rw [hg];exact (below_size bx_):w.heap.size≤Ae));clear HB;have HB:=Am;have Ac:=Al;have Ax:=Ap;have Ax:=Aq;clear Am Al Ap Aq;clear hb At hg)|((with_reducible refine gate_callee (f:=27) rfl ?_);refine gm_ (some 15) Tryz.func27 #[.slice A0 l0.length c0] ?_;(with_reducible refine (record_Check.calls k _ _ l0 Ce Ba _ ?side1 ?side2 ?side3 A3.out).mono ?_);(case side1=>exact cx_ (Kd.C_below Cu.out HB.out));(case side2=>exact Cy.out);(case side3=>exact HLW.out.below bx_);rintro e Ii ⟨rfl,hb⟩;refine ⟨_,rfl,?_⟩;have Am:=Aside0.mk (blk_below (g:=Ae) (o:=.cells #[.int .i64 a1_0,.int .i64 a1_1,.int .i64 a1_2,.slice A1_3 l1_3.length c1_3,.slice A1_4 l1_4.length c1_4,.slice A1_5 l1_5.length c1_5] 26 (0,0)) (by (with_reducible repeat (first|refine blk_drewN ?_ _|refine blk_drew ?_|refine blk_alloc ?_ _));exact Ac.out) hb);have Al:=Aside0.mk (below_step bx_ hb);clear Ac;clear HB;have Ac:=Am;have HB:=Al;clear Am Al;(try clear hb);obtain ⟨Gc,Gb,Ga,Fz,Fy,Fx,Fc,Fb,Fa,Ez,Ey,Ex⟩:=c6_ Ac)|((with_reducible refine gate_callee (f:=60) rfl ?_);refine gm_ (some 23) Tryz.func60 #[.slice A0 l0.length c0,.agg #[.int .i64 a1_0,.int .i64 a1_1,.int .i64 a1_2,.slice A1_3 l1_3.length c1_3,.slice A1_4 l1_4.length c1_4,.slice A1_5 l1_5.length c1_5]] ?_;(with_reducible refine (record_fits.calls k _ _ l0 a1_0 a1_1 a1_2 _ _ l1_3 _ _ l1_4 _ _ l1_5 Bc Bb _ ?side1 ?side2 ?side3 ?side4 ?side5 ?side6 ?side7 ?side8 ?side9 A5.out).mono ?_);(case side1=>exact cx_ (Kd.C_below Cu.out HB.out));(case side2=>exact Cy.out);(case side3=>exact cx_ (Kd.C_below Bf.out HB.out));(case side4=>exact Bl.out);(case side5=>exact cx_ (Kd.C_below Be.out HB.out));(case side6=>exact Bk.out);(case side7=>exact cx_ (Kd.C_below Bd.out HB.out));(case side8=>exact Bj.out);(case side9=>exact HLW.out.below bx_);rintro e Ih ⟨rfl,hb⟩;refine ⟨_,rfl,?_⟩;have Am:=Aside0.mk (blk_below (g:=Ae) (o:=.cells #[.int .i64 a1_0,.int .i64 a1_1,.int .i64 a1_2,.slice A1_3 l1_3.length c1_3,.slice A1_4 l1_4.length c1_4,.slice A1_5 l1_5.length c1_5] 26 (0,0)) (by (with_reducible repeat (first|refine blk_drewN ?_ _|refine blk_drew ?_|refine blk_alloc ?_ _));exact Ac.out) hb);have Al:=Aside0.mk (below_step bx_ hb);clear Ac;clear HB;have Ac:=Am;have HB:=Al;clear Am Al;(try clear hb)))
   go_ret2
   exact ⟨_,rf_,by first|exact Kd.S_nil _ _ _ _ _|exact Kd.N_nil _ _ _ _ _|exact Kd.V_nil _ _ _ _ _|exact Kd.Q_nil _ _ _ _ _|exact Kd.R_nil _ _ _ _ _,bx_⟩
 ·rw [if_neg c4] at H
  have Dy:(Ba == 0) = false:=beq_eq_false_iff_ne.mpr c4
  have Dx:(Ba != 0) = true:=bne_iff_ne.mpr c4
  simp only [Option.some.injEq,Prod.mk.injEq] at H
  obtain ⟨rfl,rfl⟩:=H
  go_enter Tryz.func31,Tryz.ntmps31
  go_wp2_with (first|((with_reducible refine gate_dst (N:=3) rfl ?_);refine box_event ?hg (N:=3) ?hd (cs:=#[.int .i64 a1_0,.int .i64 a1_1,.int .i64 a1_2,.slice A1_3 l1_3.length c1_3,.slice A1_4 l1_4.length c1_4,.slice A1_5 l1_5.length c1_5]) (t:=26) ?hr ?_;(case hd=>rfl);(case hg=>rfl);(case hr=>first|(go_simp;done)|(go_simp;rfl));intro Ae hg Ig At hb;have Am:=Aside0.mk (below_step bx_ hb);have Al:=Aside0.mk (At);have Ap:=Aside0.mk ((by rw [hg];exact (below_size bx_):w.heap.size≤Ae));have Aq:=Aside0.mk ((by rw [hg];exact (below_size bx_):w.heap.size≤Ae));clear HB;have HB:=Am;have Ac:=Al;have Ax:=Ap;have Ax:=Aq;clear Am Al Ap Aq;clear hb At hg)|((with_reducible refine gate_callee (f:=27) rfl ?_);refine gm_ (some 15) Tryz.func27 #[.slice A0 l0.length c0] ?_;(with_reducible refine (record_Check.calls k _ _ l0 Ce Ba _ ?side1 ?side2 ?side3 A3.out).mono ?_);(case side1=>exact cx_ (Kd.C_below Cu.out HB.out));(case side2=>exact Cy.out);(case side3=>exact HLW.out.below bx_);rintro e Ie ⟨rfl,hb⟩;refine ⟨_,rfl,?_⟩;have Am:=Aside0.mk (blk_below (g:=Ae) (o:=.cells #[.int .i64 a1_0,.int .i64 a1_1,.int .i64 a1_2,.slice A1_3 l1_3.length c1_3,.slice A1_4 l1_4.length c1_4,.slice A1_5 l1_5.length c1_5] 26 (0,0)) (by (with_reducible repeat (first|refine blk_drewN ?_ _|refine blk_drew ?_|refine blk_alloc ?_ _));exact Ac.out) hb);have Al:=Aside0.mk (below_step bx_ hb);clear Ac;clear HB;have Ac:=Am;have HB:=Al;clear Am Al;(try clear hb)))
  go_ret2
  exact ⟨_,rf_,by first|exact Kd.S_nil _ _ _ _ _|exact Kd.N_nil _ _ _ _ _|exact Kd.V_nil _ _ _ _ _|exact Kd.Q_nil _ _ _ _ _|exact Kd.R_nil _ _ _ _ _,bx_⟩
set_option maxHeartbeats 8000000
set_option maxRecDepth 100000
def record_Events.l0:Nat→List (S26)→List (S52)→Int→Int→Option ((List (S26)))
 | 0,_,_,_,_=>none
 | k + 1,x3,x6,x7,x8=>if x8 < x7 then (if 0≤x8 then (if x8 < (x6.length:Int) then ((record_event.f ((rd_T52 x6 x8).f0.f0) ((rd_T52 x6 x8).f0.f1) ((rd_T52 x6 x8).f0.f2) ((rd_T52 x6 x8).f0.f3) ((rd_T52 x6 x8).f0.f4) ((rd_T52 x6 x8).f0.f5)).bind fun bt391=>(if x3.length < 1466015503701 then (record_Events.l0 k (x3 ++ [(⟨bt391.1,bt391.2.1,bt391.2.2.1,bt391.2.2.2.1,bt391.2.2.2.2.1,bt391.2.2.2.2.2⟩:S26)]) x6 x7 (wrap64 (x8 + 1))) else (none))) else (none)) else (none)) else (some x3)
def record_Events.f (k:Nat) (l0:List (S52)):Option ((List (S26))):=record_Events.l0 k ([]:List (S26)) l0 (l0.length:Int) 0
theorem record_Events.mono_l:∀ k,(∀ y0 y1 y2 y3,LeO (record_Events.l0 k y0 y1 y2 y3) (record_Events.l0 (k + 1) y0 y1 y2 y3))
 | 0=>fun _ _ _ _ r h=>by simp [record_Events.l0] at h
 | k + 1=>by
  have ih0:=record_Events.mono_l k
  ·intro y0 y1 y2 y3
   unfold record_Events.l0
   repeat' first
   | (with_reducible exact ih0 _ _ _ _)
   | (with_reducible exact LeO.refl _)
   | (with_reducible exact LeO.none _)
   | (with_reducible refine LeO.ite ?_ ?_)
   | (with_reducible refine LeO.bind ?_ (fun _=>?_))
   | exact ih0 _ _ _ _
   | exact LeO.none _
   | refine LeO.ite ?_ ?_
   | refine LeO.bind ?_ (fun _=>?_)
theorem record_Events.mono:∀ a0 k,LeO (record_Events.f k a0) (record_Events.f (k + 1) a0):=by
 intro a0 k
 have Aa:=record_Events.mono_l k
 unfold record_Events.f
 repeat' first
   | (with_reducible exact Aa _ _ _ _)
   | (with_reducible exact LeO.refl _)
   | (with_reducible exact LeO.none _)
   | (with_reducible refine LeO.ite ?_ ?_)
   | (with_reducible refine LeO.bind ?_ (fun _=>?_))
   | exact Aa _ _ _ _
   | exact LeO.none _
   | refine LeO.ite ?_ ?_
   | refine LeO.bind ?_ (fun _=>?_)
theorem record_Events.calls (k:Nat) (A0:Option Addr) (c0:Nat) (l0:List (S52)) (r:List (S26)) (w:World) (hr0:Kd.C k52 w A0 l0.length l0) (hc0:l0.length≤c0) (h:record_Events.f k l0 = some r) :
  Calls Tryz.prog 35 #[.slice A0 l0.length c0] w fun e w'=>∃ v0_:Value,e = .returned (v0_)∧Kd.S k26 26 w' w.heap.size (fun _=>True) v0_ r∧Below w.heap.size w w':=by
 have Da:=Tryz.underlying52
 have Db:=Tryz.underlying26
 have De:=Aside0.mk hr0
 have Dg:=Aside0.mk hc0
 clear hr0 hc0
 have HB:=Aside0.mk (Below.refl w.heap.size w)
 have H:=h;clear h;unfold record_Events.f at H
 have H':=Aside0.mk H
 clear H
 go_enter Tryz.func35,Tryz.ntmps35
 go_wp2
 go_loopg [3,8] k (fun kq v3 v8 w'=>∃ (An:List (S26)) (Aa:Int),v8 = .int .i64 Aa∧Aside0 (record_Events.l0 kq An l0 (l0.length:Int) Aa = some r)∧Aside0 (kq≤k)∧Aside0 (Kd.S k26 26 w' w.heap.size (fun _=>True) v3 An)∧Aside0 (Below w.heap.size w w'))
 case atStart=>exact ⟨(([]:List (S26))),(0),rg_,H',⟨Nat.le_refl _⟩,⟨by first|exact Kd.S_nil _ _ _ _ _|exact Kd.N_nil _ _ _ _ _|exact Kd.V_nil _ _ _ _ _|exact Kd.Q_nil _ _ _ _ _|exact Kd.R_nil _ _ _ _ _⟩,⟨bx_⟩⟩
 case round =>
  clear H'
  obtain ⟨An,Aa,rfl,HA,Cu,Ac,HB⟩:=hrel
  cases gk with
  | zero=>exact absurd HA.out (by simp [record_Events.l0])
  | succ k1 =>
   have H:=HA.out
   clear HA
   simp only [record_Events.l0] at H
   by_cases c2:Aa < (l0.length:Int)
   ·rw [if_pos c2] at H
    have Cq:decide (Aa < (l0.length:Int)) = true:=decide_eq_true c2
    clear c2
    by_cases c3:0≤Aa
    ·rw [if_pos c3] at H
     have Dd:decide (0≤Aa) = true:=decide_eq_true c3
     clear c3
     by_cases c4:Aa < (l0.length:Int)
     ·rw [if_pos c4] at H
      have Dc:decide (Aa < (l0.length:Int)) = true:=decide_eq_true c4
      clear c4
      obtain ⟨⟨Au,At,As,Aq,Ap,Ao⟩,A5,H⟩:=bn_ H
      dsimp only at H
      by_cases c6:An.length < 1466015503701
      ·rw [if_pos c6] at H
       have Cr:=Aside0.mk c6
       clear c6
       obtain ⟨y403,hy403⟩:∃ y_:List (S26),y_ = (An ++ [(⟨Au,At,As,Aq,Ap,Ao⟩:S26)]):=⟨_,rfl⟩
       replace H:(record_Events.l0 k1 y403 l0 (l0.length:Int) (wrap64 (Aa + 1))) = some r:=by first|(rw [hy403];with_reducible exact H)|(have Cs:=(Option.bind_some _ _).symm.trans H;rw [hy403];with_reducible exact Cs)|(have Cs:=(Option.bind_some _ _).symm.trans H;with_reducible exact Cs)|with_reducible exact H|(rw [hy403];exact H)|exact H
       have Bh:=Aside0.mk hy403
       clear hy403
       have H':=Aside0.mk H
       clear H
       have Bd:0≤(Aa:Int):=da_
       have Bc:Aa < (l0.length:Int):=da_
       obtain ⟨Ct,Ai,Af,Ah,Ae,Ag,Ad,Cp,Bt,Br,Bq,Bp,Bo,Bn,Bm,Ax,Bb,Aw,Ba,Av,Ay⟩:=ao52_ De HB Aa Bd Bc
       cases Cp
       replace Bd:=eq_true Bd
       replace Bc:=eq_true Bc
       go_wp2_with (first|((with_reducible refine gate_dst (N:=5) rfl ?_);refine bv_ #[.int .i64 0,.int .i64 0,.int .i64 0,.slice none 0 0,.slice none 0 0,.slice none 0 0,.string (⟨#[]⟩:ByteArray)] 52 ?_;clear HB;intro Ab hg w7 Aj Cv hb HB;replace Ac:=Aside0.mk (Kd.S_below (by (with_reducible repeat (first|apply Kd.S_alloc|apply Kd.S_drewN|apply Kd.S_drew));exact Ac.out) hb);clear hb hg;obtain ⟨Cl,Ck,Cj,Ci,Ch,Cg,Cf,Ce,Cc,Cb,Ca,Bz,By,Bx⟩:=c7_ Aj)|((with_reducible refine gate_callee (f:=70) rfl ?_);refine gm_ (some 15) Tryz.func70 #[.agg #[.int .i64 ((rd_T52 l0 Aa).f0.f0),.int .i64 ((rd_T52 l0 Aa).f0.f1),.int .i64 ((rd_T52 l0 Aa).f0.f2),.slice Ai ((rd_T52 l0 Aa).f0.f3).length Af,.slice Ah ((rd_T52 l0 Aa).f0.f4).length Ae,.slice Ag ((rd_T52 l0 Aa).f0.f5).length Ad]] ?_;(with_reducible refine (record_event.calls ((rd_T52 l0 Aa).f0.f0) ((rd_T52 l0 Aa).f0.f1) ((rd_T52 l0 Aa).f0.f2) _ _ ((rd_T52 l0 Aa).f0.f3) _ _ ((rd_T52 l0 Aa).f0.f4) _ _ ((rd_T52 l0 Aa).f0.f5) Au At As Aq Ap Ao _ ?side1 ?side2 ?side3 ?side4 ?side5 ?side6 A5.out).mono ?_);(case side1=>exact Kd.C_below Ax.out bx_);(case side2=>exact Bb.out);(case side3=>exact Kd.C_below Aw.out bx_);(case side4=>exact Ba.out);(case side5=>exact Kd.C_below Av.out bx_);(case side6=>exact Ay.out);rintro e w9 ⟨Cz,Cy,Cx,rfl,Bw,Bv,Bu,hb⟩;refine ⟨_,rfl,?_⟩;have Am:=Aside0.mk (Kd.R_lower Bw (below_size bx_));have Al:=Aside0.mk (Kd.R_lower Bv (below_size bx_));have Ak:=Aside0.mk (Kd.R_lower Bu (below_size bx_));replace Ac:=Aside0.mk (Kd.S_mono (Kd.S_told (Kd.S_told (Kd.S_told (Kd.S_old (by (with_reducible repeat (first|apply Kd.S_alloc|apply Kd.S_drewN|apply Kd.S_drew));exact (Kd.S_mono (Kd.S_far (p:=⟨Ab,6,none⟩) (Kd.S_far (p:=⟨Ab,5,none⟩) (Kd.S_far (p:=⟨Ab,4,none⟩) (Kd.S_far (p:=⟨Ab,3,none⟩) (Kd.S_far (p:=⟨Ab,2,none⟩) (Kd.S_far (p:=⟨Ab,1,none⟩) (Kd.S_far (p:=⟨Ab,0,none⟩) (Kd.S_types Ac.out Aj.out de_) (fun _ hk=>hk.2) (.int .i64 ((rd_T52 l0 Aa).f0.f0))) (fun _ hk=>hk.2) (.int .i64 ((rd_T52 l0 Aa).f0.f1))) (fun _ hk=>hk.2) (.int .i64 ((rd_T52 l0 Aa).f0.f2))) (fun _ hk=>hk.2) (.slice Ai ((rd_T52 l0 Aa).f0.f3).length Af)) (fun _ hk=>hk.2) (.slice Ah ((rd_T52 l0 Aa).f0.f4).length Ae)) (fun _ hk=>hk.2) (.slice Ag ((rd_T52 l0 Aa).f0.f5).length Ad)) (fun _ hk=>hk.2) (.string ((rd_T52 l0 Aa).f1))) (fun _ h_=>h_.1))) hb) (Kd.R_base Bw)) (Kd.R_base Bv)) (Kd.R_base Bu)) (fun _ h_=>h_.1));replace Aj:=Aside0.mk (blk_below (g:=Ab) (o:=.cells #[.int .i64 ((rd_T52 l0 Aa).f0.f0),.int .i64 ((rd_T52 l0 Aa).f0.f1),.int .i64 ((rd_T52 l0 Aa).f0.f2),.slice Ai ((rd_T52 l0 Aa).f0.f3).length Af,.slice Ah ((rd_T52 l0 Aa).f0.f4).length Ae,.slice Ag ((rd_T52 l0 Aa).f0.f5).length Ad,.string ((rd_T52 l0 Aa).f1)] 52 (0,0)) bk_ hb);replace HB:=bs_ hb;(try clear hb);(try clear Bw);(try clear Bv);(try clear Bu);obtain ⟨Bl,Bg,Co⟩:=Kd.R_slice Am.out;subst Co;obtain ⟨Bk,Bf,Cn⟩:=Kd.R_slice Al.out;subst Cn;obtain ⟨Bj,Be,Cm⟩:=Kd.R_slice Ak.out;subst Cm)|((with_reducible refine gate_builtin (b:=.append) (xs:=#[.tmp 12,.tmp 16]) rfl ?_);at_builtin;refine Kd.S_append k26 (w0:=w) w.heap.size rfl (.tmp 12) (.tmp 16) 45 26 (.agg #[(.int .i64 0),(.int .i64 0),(.int .i64 0),(.slice none 0 0),(.slice none 0 0),(.slice none 0 0)]) 96 rfl Tryz.underlying45 info26 rfl de_ (by omega) u3 An (⟨Au,At,As,Aq,Ap,Ao⟩:S26) [.int .i64 Au,.int .i64 At,.int .i64 As,.slice Bl Aq.length Bg,.slice Bk Ap.length Bf,.slice Bj Ao.length Be] (fun _=>True) (fun k_=>some k_ = (.slice Bl Aq.length Bg:Value).ownBlock ∨ some k_ = (.slice Bk Ap.length Bf:Value).ownBlock ∨ some k_ = (.slice Bj Ao.length Be:Value).ownBlock) rfl rfl ?aP (fun k_ hk_=>hk_.elim (fun h_=>((Kd.R_mono (ok':=fun k_=>((fun _=>True)) k_∧some k_≠(u3:Value).ownBlock) (Kd.R_apart' (Am.out) (Kd.S_typed Ac.out) de_) (fun k_ hk=>⟨trivial,hk.2⟩))).1 k_ h_.symm) (fun h_=>h_.elim (fun h_=>((Kd.R_mono (ok':=fun k_=>((fun _=>True)) k_∧some k_≠(u3:Value).ownBlock) (Kd.R_apart' (Al.out) (Kd.S_typed Ac.out) de_) (fun k_ hk=>⟨trivial,hk.2⟩))).1 k_ h_.symm) (fun h_=>((Kd.R_mono (ok':=fun k_=>((fun _=>True)) k_∧some k_≠(u3:Value).ownBlock) (Kd.R_apart' (Ak.out) (Kd.S_typed Ac.out) de_) (fun k_ hk=>⟨trivial,hk.2⟩))).1 k_ h_.symm))) ?aF ?aO ?aB ?aS ?aL ?_;(case aP=>exact k26_mkM _ _ _ (⟨Au,At,As,Aq,Ap,Ao⟩:S26) (Kd.R_mono (Kd.R_tight rfl (Kd.R_mono (ok':=fun k_=>((fun _=>True)) k_∧some k_≠(u3:Value).ownBlock) (Kd.R_apart' (Am.out) (Kd.S_typed Ac.out) de_) (fun k_ hk=>⟨trivial,hk.2⟩))) (fun _ h_=>Or.inl h_)) (Kd.R_mono (Kd.R_tight rfl (Kd.R_mono (ok':=fun k_=>((fun _=>True)) k_∧some k_≠(u3:Value).ownBlock) (Kd.R_apart' (Al.out) (Kd.S_typed Ac.out) de_) (fun k_ hk=>⟨trivial,hk.2⟩))) (fun _ h_=>Or.inr (Or.inl h_))) (Kd.R_mono (Kd.R_tight rfl (Kd.R_mono (ok':=fun k_=>((fun _=>True)) k_∧some k_≠(u3:Value).ownBlock) (Kd.R_apart' (Ak.out) (Kd.S_typed Ac.out) de_) (fun k_ hk=>⟨trivial,hk.2⟩))) (fun _ h_=>Or.inr (Or.inr (h_)))));(case aB=>exact bx_);(case aF=>exact (fun _ _=>trivial));(case aO=>exact (by (with_reducible repeat (first|apply Kd.S_alloc|apply Kd.S_drewN|apply Kd.S_drew));exact Kd.S_mono Ac.out (fun k_ hk=>⟨trivial,fun e_=>e_.elim (fun h_=>hk.1.1.2 h_) (fun h_=>h_.elim (fun h_=>hk.1.2 h_) (fun h_=>hk.2 h_))⟩)));(case aS=>exact (below_size bx_));(case aL=>have:=Cr.out;omega);intro Cw Df ho hb hg hat;rw [← Bh.out] at ho;have Bi:=Aside0.mk ho;replace Aj:=Aside0.mk (blk_grown (g:=Ab) (o:=.cells #[.int .i64 ((rd_T52 l0 Aa).f0.f0),.int .i64 ((rd_T52 l0 Aa).f0.f1),.int .i64 ((rd_T52 l0 Aa).f0.f2),.slice Ai ((rd_T52 l0 Aa).f0.f3).length Af,.slice Ah ((rd_T52 l0 Aa).f0.f4).length Ae,.slice Ag ((rd_T52 l0 Aa).f0.f5).length Ad,.string ((rd_T52 l0 Aa).f1)] 52 (0,0)) bk_ hg (Kd.S_ne Ac.out Aj.out de_));replace HB:=Aside0.mk hb;clear Ac;clear Am;clear Al;clear Ak;clear ho hb hg hat))
       go_roundg k1
       case measure=>have:=Cu.out;omega
       case rel=>exact ⟨(y403),(wrap64 (Aa + 1)),rg_,H',⟨by have:=Cu.out;omega⟩,⟨by (with_reducible repeat (first|apply Kd.S_alloc|apply Kd.S_drewN|apply Kd.S_drew));exact Bi.out⟩,⟨bx_⟩⟩
      ·rw [if_neg c6] at H
       exact absurd H sm_
     ·rw [if_neg c4] at H
      exact absurd H sm_
    ·rw [if_neg c3] at H
     exact absurd H sm_
   ·rw [if_neg c2] at H
    have Cq:decide (Aa < (l0.length:Int)) = false:=decide_eq_false c2
    clear c2
    obtain rfl:=Option.some.inj H
    go_wp2
    go_ret
    exact ⟨_,rf_,by (with_reducible repeat (first|apply Kd.S_alloc|apply Kd.S_drewN|apply Kd.S_drew));exact Ac.out,bx_⟩
open Go.Shelf Go.Lib
def encE (k:Nat) (x:S26):Option (ByteArray × Int):=record_Encode.f k x.f0 x.f1 x.f2 x.f3 x.f4 x.f5
def writeG (k:Nat):List UInt8→List S52→Option (List UInt8)
 | acc,[]=>some acc
 | acc,x :: l=>(encE k x.f0).bind fun t=>(record_strs.f k [t.1]).bind fun u=>if acc.length + (u.size + x.f1.size)≤mostB then writeG k (acc ++ (u ++ x.f1).data.toList) l else none
def record_Write.f (k:Nat) (l:List S52):Option (ByteArray × Int) :=
 (record_Check.f k l).bind fun t=>if t.2 = 0 then (if l.length≤mostB then (writeG k [] l).bind fun L=>some (⟨L.toArray⟩,0) else none) else some ((⟨#[]⟩:ByteArray),1)
theorem writeG_mono (k:Nat):∀ acc l,LeO (writeG k acc l) (writeG (k + 1) acc l)
 | acc,[]=>LeO.refl _
 | acc,x :: l=>by
  unfold writeG
  exact LeO.bind (record_Encode.mono _ _ _ _ _ _ _) fun _=>LeO.bind (record_strs.mono _ _) fun _=>LeO.ite (writeG_mono k _ l) (LeO.refl _)
theorem record_Write.mono:∀ l k,LeO (record_Write.f k l) (record_Write.f (k + 1) l):=fun l k =>
 LeO.bind (record_Check.mono _ _) fun _=>LeO.ite (LeO.ite (LeO.bind (writeG_mono k _ l) fun _=>LeO.refl _) (LeO.refl _)) (LeO.refl _)
theorem rd52_drop (l:List S52) (i:Nat) (h:i < l.length):l.drop i = rd_T52 l (i:Int) :: l.drop (i + 1):=by
 rw [List.drop_eq_getElem_cons h]
 congr 1
 simp [rd_T52,h]
set_option maxHeartbeats 8000000
set_option maxRecDepth 100000
theorem record_Write.calls (k:Nat) (A0:Option Addr) (c0:Nat) (l0:List S52) (r1:ByteArray) (r2:Int) (w:World) (hr0:Kd.C k52 w A0 l0.length l0) (hc0:l0.length≤c0) (hL:LaidW w) (h:record_Write.f k l0 = some (r1,r2)) :
  Calls Tryz.prog 19 #[.slice A0 l0.length c0] w fun e w'=>e = .returned (.tuple #[.string r1,.int .i64 r2])∧Below w.heap.size w w':=by
 have Bn:=Tryz.underlying52
 have HR:=Aside0.mk hr0
 have HLW:=Aside0.mk hL
 unfold record_Write.f at h
 obtain ⟨⟨t1,t2⟩,A1,h⟩:=bn_ h
 have hck:=record_Check.calls k A0 c0 l0 t1 t2 w hr0 hc0 hL A1.out
 dsimp only at h
 clear hr0 hc0 hL A1
 by_cases h2:t2 = 0
 case neg =>
  rw [if_neg h2] at h
  obtain ⟨rfl,rfl⟩:=(by simpa using h:_∧_)
  have Ac:(t2 == 0) = false:=beq_eq_false_iff_ne.2 h2
  have Bg:(t2 != 0) = true:=bne_iff_ne.2 h2
  clear h h2
  go_enter Tryz.func19,Tryz.ntmps19
  go_wp2_with (go_at_call 27;refine hck.mono ?_;rintro e w' ⟨rfl,hb⟩;have HB:=Aside0.mk hb;clear hb)
  go_ret2
  exact ⟨rfl,HB.out⟩
 rw [if_pos h2] at h
 subst h2
 by_cases Ab:l0.length≤mostB
 case neg=>rw [if_neg Ab] at h;cases h
 rw [if_pos Ab] at h
 obtain ⟨L,HL,h⟩:=bn_ h
 obtain ⟨rfl,rfl⟩:=(by simpa using h:_∧_)
 have HLN:=Aside0.mk Ab
 clear h Ab
 go_enter Tryz.func19,Tryz.ntmps19
 go_wp2_with (go_at_call 27;refine hck.mono ?_;rintro e w1 ⟨rfl,hb⟩;have HB:=Aside0.mk hb;clear hb)
 have HBd:=Aside0.mk (Bld.new HB.out)
 clear hck
 generalize w1.alloc (.cells #[.pointer none,.slice none 0 0] 73) = W8 at HBd ⊢
 generalize w1.heap.size = b at HBd ⊢
 clear HB
 go_loopw [20] (fun Bh w'=>∃ (i:Nat) (acc:List UInt8),Bh = .int .i64 (i:Int)∧i≤l0.length∧Aside0 (writeG k acc (l0.drop i) = some L)∧Aside0 (Bld w w' b acc)) (fun Bh _=>l0.length - (RowKit.intOf Bh).toNat)
 case atStart=>exact ⟨0,[],rfl,Nat.zero_le _,HL,HBd⟩
 case round =>
  clear HBd
  obtain ⟨i,acc,rfl,hi,HS,HBd⟩:=hrel
  by_cases hlt:i < l0.length
  ·have HW:=Aside0.mk (wrap_succ hlt HLN.out)
   have hs:=HS.out
   rw [rd52_drop l0 i hlt,writeG] at hs
   obtain ⟨⟨t,te⟩,C0,hs⟩:=bn_ hs
   obtain ⟨u,C1,hs⟩:=bn_ hs
   by_cases hsz:acc.length + (u.size + (rd_T52 l0 (i:Int)).f1.size)≤mostB
   case neg=>rw [if_neg hsz] at hs;cases hs
   rw [if_pos hsz] at hs
   obtain ⟨ad,A3,c3,A4,c4,A5,c5,e,Ay,Ax,Aw,Av,Au,At,As,Bc,Bf,Bb,Be,Ba,Bd⟩:=at_T52 HR.out (i:Int) (by omega) (by omega)
   cases e
   have Ac:=HBd.out.below
   replace Ay:=(Ac.cell (World.block_lt_of_cell? w _ Ay)).trans Ay
   replace Ax:=(Ac.cell (World.block_lt_of_cell? w _ Ax)).trans Ax
   replace Aw:=(Ac.cell (World.block_lt_of_cell? w _ Aw)).trans Aw
   replace Av:=(Ac.cell (World.block_lt_of_cell? w _ Av)).trans Av
   replace Au:=(Ac.cell (World.block_lt_of_cell? w _ Au)).trans Au
   replace At:=(Ac.cell (World.block_lt_of_cell? w _ At)).trans At
   replace As:=(Ac.cell (World.block_lt_of_cell? w _ As)).trans As
   simp only [Int.toNat_natCast] at Ay Ax Aw Av Au At As
   clear Ac
   unfold encE at C0
   generalize rd_T52 l0 (i:Int) = x at Ay Ax Aw Av Au At As Bc Bf Bb Be Ba Bd C0 hs hsz
   obtain ⟨⟨x0,x1,x2,x3,x4,x5⟩,x6⟩:=x
   dsimp only at Ay Ax Aw Av Au At As Bc Bf Bb Be Ba Bd C0 hs hsz
   have Bj:=Aside0.mk hs
   have HSZ:=Aside0.mk hsz
   have Bq:=Aside0.mk Bc
   have Bu:=Aside0.mk Bf
   have Bp:=Aside0.mk Bb
   have Bt:=Aside0.mk Be
   have Bo:=Aside0.mk Ba
   have Br:=Aside0.mk Bd
   have HLT:=Aside0.mk hlt
   clear hs hsz Bc Bf Bb Be Ba Bd HS
   have hd:decide ((i:Int) < (l0.length:Int)) = true:=decide_eq_true (by omega)
   have By:decide (i < l0.length) = true:=decide_eq_true hlt
   clear hlt
   have HB:=Aside0.mk (Below.refl wr.heap.size wr)
   go_upto_region 8 with (first|((with_reducible refine gate_dst (N:=8) rfl ?_);refine bv_ #[.int .i64 0,.int .i64 0,.int .i64 0,.slice none 0 0,.slice none 0 0,.slice none 0 0,.string (⟨#[]⟩:ByteArray)] 52 ?_;clear HB;intro gx hg Bm BK GE hb HB;clear hb hg;obtain ⟨Aq,Ap,Ao,An,Am,Al,Ak,Aj,Ai,Ah,Ag,Af,Ae,Ad⟩:=c7_ BK))
   generalize Bi:(((((((Bm.setCell ⟨gx,0,none⟩ (.int .i64 x0)).setCell ⟨gx,1,none⟩ (.int .i64 x1)).setCell ⟨gx,2,none⟩ (.int .i64 x2)).setCell ⟨gx,3,none⟩ (.slice A3 x3.length c3)).setCell ⟨gx,4,none⟩ (.slice A4 x4.length c4)).setCell ⟨gx,5,none⟩ (.slice A5 x5.length c5)).setCell ⟨gx,6,none⟩ (.string x6)) = Bl
   replace BK:Aside0 (Bl.heap[gx]? = some (.cells #[.int .i64 x0,.int .i64 x1,.int .i64 x2,.slice A3 x3.length c3,.slice A4 x4.length c4,.slice A5 x5.length c5,.string x6] 52 (0,0))):=gk_ Bi
   replace HB:=gb_ Bi
   clear Bi Aq Ap Ao An Am Al Ak Aj Ai Ah Ag Af Ae Ad
   have NE:Aside0 (gx≠b):=⟨fun e=>by have:=HBd.out.lt;have:=GE.out;omega⟩
   replace HBd:=bk_kept HBd HB.out
   clear HB
   obtain ⟨Aq,Ap,Ao,An,Am,Al,Ak,Aj,Ai,Ah,Ag,Af,Ae,Ad⟩:=c7_ BK
   go_wp2_with fail
   go_at_call 12
   refine (record_Encode.calls k x0 x1 x2 _ _ x3 _ _ x4 _ _ x5 t te _ (Kd.C_below Bu.out HBd.out.below) Bq.out (Kd.C_below Bt.out HBd.out.below) Bp.out (Kd.C_below Br.out HBd.out.below) Bo.out (HLW.out.below HBd.out.below) C0.out).mono ?_
   rintro e Bk ⟨rfl,hb⟩
   clear Aq Ap Ao An Am Al Ak Aj Ai Ah Ag Af Ae Ad
   replace BK:=bb_ BK hb
   replace HBd:=bk_kept HBd hb
   clear hb
   go_upto_region 9 with (fail)
   replace BK:=dr_ BK
   replace HBd:=Aside0.mk HBd.out.drew
   refine start_ (n:=7) (S:=fun w'=>w'.cell? ⟨gx,6,none⟩ = some (.string x6)) (ds:=[]) #[false,false,false,false,false,false,false] kr_ rfl rfl hc_ (fun Aa=>?_)
   generalize Bk.drew = W9 at BK HBd Aa ⊢
   refine pu_ 0 (some 30) #[true,false,false,false,false,false,false] ?_
   refine pu_ 3 (some 33) #[true,false,false,true,false,false,false] ?_
   refine tk_ 4 (some 34) #[true,false,false,true,true,false,false] Aa ?_
   refine one_ (i:=1) (N:=some 31) #[true,true,false,true,true,false,false] rfl rfl kr_ (by decide) (fun K hK=>?_)
   refine event_step (v:=.slice (some ⟨W9.heap.size,0,none⟩) 1 1) (w1:=W9.alloc (.cells #[.string t] 9)) rfl (by first|(go_simp;done)|(go_simp;rfl)) ?_
   have Bg:Below W9.heap.size W9 (W9.alloc (.cells #[.string t] 9)):=below_alloc (Below.refl _ _) _
   have HA:=Aside0.mk (C_one W9 t)
   replace BK:=bb_ BK Bg
   replace HBd:=bk_kept HBd Bg
   clear Bg
   generalize W9.alloc (.cells #[.string t] 9) = Bz at BK HBd HA ⊢
   generalize W9.heap.size = gs at HA ⊢
   refine hk_ hK (fun Aa=>?_);clear hK K
   refine oc_ 2 (some 32) #[true,true,true,true,true,false,false] Tryz.func48 #[.slice (some ⟨gs,0,none⟩) 1 1] (fun K hK=>?_)
   refine (record_strs.calls k _ 1 [t] u _ HA.out (Nat.le_refl _) C1.out).mono ?_
   rintro e Bx ⟨rfl,hb⟩
   refine ⟨_,rfl,?_⟩
   replace BK:=bb_ BK hb
   replace HBd:=bk_kept HBd hb
   clear hb
   refine hk_ hK (fun Aa=>?_);clear hK K
   have z1:(9223372036854775807 < u.size + x6.size) = False:=eq_false (by have:=HSZ.out;unfold mostB at this;omega)
   refine pu_ 5 (some 35) #[true,true,true,true,true,true,false] ?_
   clear z1
   have hts:acc.length + (u ++ x6).size≤140737488355328:=by have:=HSZ.out;unfold mostB at this;simp only [ByteArray.size_append];exact this
   generalize u ++ x6 = tu at hts Bj ⊢
   have HTU:=Aside0.mk hts
   clear hts
   refine oc_ 6 (some 36) #[true,true,true,true,true,true,true] Tryz.func45 #[.pointer (some ⟨b,0,none⟩),.string tu] (fun K hK=>?_)
   with_reducible refine (bld_write tu HBd.out HTU.out).mono ?_
   rintro e Bw ⟨rfl,hb,hkp⟩
   refine ⟨_,rfl,?_⟩
   replace BK:=kept_blk BK hkp NE (by decide)
   replace HBd:=Aside0.mk hb
   clear hb hkp
   refine hk_ hK (fun Aa=>?_);clear hK K
   refine done_ kr_ ?_
   go_wp2
   go_roundw
   case rel=>exact ⟨i + 1,_,by rw [HW.out],by have:=HLT.out;omega,Bj,HBd⟩
   case measure =>
    have:=HLT.out
    rw [HW.out]
    simp only [RowKit.intOf,Int.toNat_natCast]
    omega
   all_goals exact absurd HLT.out (by assumption)
  ·have hd:decide ((i:Int) < (l0.length:Int)) = false:=decide_eq_false (by omega)
   have hs:=HS.out
   rw [List.drop_eq_nil_of_le (by omega),writeG] at hs
   obtain rfl:=Option.some.inj hs
   clear HS hs
   go_wp2_with fail
   go_at_call 49
   refine (bld_string HBd.out).mono ?_
   rintro e Bv ⟨rfl,hb⟩
   have HB:=Aside0.mk hb
   clear hb
   go_wp2
   go_ret2
   exact ⟨rfl,HB.out⟩
end Go.Proofs.YtcmbggahndfnnaaGreatDoor.Pr
namespace Go.Proofs.YtcmbggahndfnnaaGreatDoor.Pr
open Go.RowKit Go.Proofs.YtcmbggahndfnnaaGreatDoorW.PrintWords Go.Proofs.YtcmbggahndfnnaaGreatDoorW.PrintLast Go.Proofs.YtcmbggahndfnnaaGreatDoorW.PrintMore
attribute [local go_sem] max2_int min2_int max_two min_two max_three min_three max_four min_four
def garboardlaw57_awake.f (k:Nat) :Option (Bool):=(some (([(-1),64]:List Int):List Int)).bind fun y406=>((some (([(⟨#[49,47,50]⟩:ByteArray)]:List ByteArray):List ByteArray)).bind fun y409=>((record_Sum.f (⟨#[97,98,99]⟩:ByteArray)).bind fun t413=>((record_Encode.f k 1 300 2 y406 y409 ([]:List ByteArray)).bind fun bt414=>((record_Append.f k ([]:List (S52)) 1 300 2 y406 y409 ([]:List ByteArray)).bind fun bt416=>((record_Write.f k bt416.1).bind fun bt420=>(if bt420.1.size + 1≤9223372036854775807 then ((record_Recover.f k (bt420.1 ++ (⟨#[120]⟩:ByteArray))).bind fun bt422=>(if (t413.size:Int) = 32 then (if 0≤4 then (if 4≤(t413.size:Int) then (if (t413.extract 0 4).toList = ([186,120,22,191]:List UInt8) then (if 28≤(t413.size:Int) then (if (t413.extract 28 t413.size).toList = ([242,0,21,173]:List UInt8) then (if bt414.2 = 0 then (if bt416.2 = 0 then (if bt420.2 = 0 then (if bt414.1.toList = ([1,172,2,2,2,1,128,1,1,3,49,47,50,0]:List UInt8) then (if (bt416.1.length:Int) = 1 then (if 0 < (bt416.1.length:Int) then (if (((rd_T52 bt416.1 0).f1).size:Int) = 32 then (if bt422.2 = (bt420.1.size:Int) then ((garboardref57_Same.f k bt422.1 bt416.1).bind fun t427=>(if t427 = true then ((record_Events.f k bt416.1).bind fun t428=>(some ((t428.length:Int) == 1))) else (some false))) else (some false)) else (some false)) else (none)) else (some false)) else (some false)) else (some false)) else (some false)) else (some false)) else (some false)) else (none)) else (some false)) else (none)) else (none)) else (some false))) else (none)))))))
theorem garboardlaw57_awake.mono:∀ k,LeO (garboardlaw57_awake.f k ) (garboardlaw57_awake.f (k + 1) ):=by
 intro  k
 unfold garboardlaw57_awake.f
 repeat' first
   | (with_reducible exact garboardref57_Same.mono _ _ _)
   | (with_reducible exact record_Append.mono _ _ _ _ _ _ _ _)
   | (with_reducible exact record_Encode.mono _ _ _ _ _ _ _)
   | (with_reducible exact record_Events.mono _ _)
   | (with_reducible exact record_Recover.mono _ _)
   | (with_reducible exact record_Write.mono _ _)
   | (with_reducible exact LeO.refl _)
   | (with_reducible exact LeO.none _)
   | (with_reducible refine LeO.ite ?_ ?_)
   | (with_reducible refine LeO.bind ?_ (fun _=>?_))
   | exact garboardref57_Same.mono _ _ _
   | exact record_Append.mono _ _ _ _ _ _ _ _
   | exact record_Encode.mono _ _ _ _ _ _ _
   | exact record_Events.mono _ _
   | exact record_Recover.mono _ _
   | exact record_Write.mono _ _
   | exact LeO.none _
   | refine LeO.ite ?_ ?_
   | refine LeO.bind ?_ (fun _=>?_)
set_option maxRecDepth 100000
theorem awake_20:garboardlaw57_awake.f 20 = some true:=by kernel_rfl
theorem rounds_on {α:Type} {g:Nat→Option α} (hm:∀ k,LeO (g k) (g (k + 1))) {a b:Nat} (h:a≤b) {r:α} (hr:g a = some r):g b = some r:=by
 induction h with
 | refl=>exact hr
 | step _ ih=>exact hm _ _ ih
theorem awake_true {k:Nat} {r:Bool} (h:garboardlaw57_awake.f k = some r):r = true:=by
 have h1:=rounds_on (g:=fun k=>garboardlaw57_awake.f k) garboardlaw57_awake.mono (Nat.le_max_left k 20) h
 exact Option.some.inj (h1.symm.trans (rounds_on (g:=fun k=>garboardlaw57_awake.f k) garboardlaw57_awake.mono (Nat.le_max_right k 20) awake_20))
theorem awake_on {k:Nat} (h:20≤k):garboardlaw57_awake.f k = some true:=rounds_on (g:=fun k=>garboardlaw57_awake.f k) garboardlaw57_awake.mono h awake_20
set_option maxHeartbeats 8000000
set_option maxRecDepth 100000
theorem garboardlaw57_awake.calls (k:Nat)  (r:Bool) (w:World) (hL:LaidW w) (h:garboardlaw57_awake.f k  = some r) :
  Calls Tryz.prog 10 #[] w fun e w'=>e = .returned (.bool r)∧Below w.heap.size w w':=by
 have Gu:=Tryz.underlying26
 have HB:=Aside0.mk (Below.refl w.heap.size w)
 have HLW:=Aside0.mk hL
 clear hL
 have HRT:=Aside0.mk (awake_true h)
 have H:((some (([(-1),64]:List Int):List Int)).bind fun An=>((some (([(⟨#[49,47,50]⟩:ByteArray)]:List ByteArray):List ByteArray)).bind fun Am=>((record_Sum.f (⟨#[97,98,99]⟩:ByteArray)).bind fun Aa=>((record_Encode.f k 1 300 2 An Am ([]:List ByteArray)).bind fun Aw=>((record_Append.f k ([]:List (S52)) 1 300 2 An Am ([]:List ByteArray)).bind fun Ad=>((record_Write.f k Ad.1).bind fun Ai=>(if Ai.1.size + 1≤9223372036854775807 then ((record_Recover.f k (Ai.1 ++ (⟨#[120]⟩:ByteArray))).bind fun Av=>(if (Aa.size:Int) = 32 then (if 0≤4 then (if 4≤(Aa.size:Int) then (if (Aa.extract 0 4).toList = ([186,120,22,191]:List UInt8) then (if 28≤(Aa.size:Int) then (if (Aa.extract 28 Aa.size).toList = ([242,0,21,173]:List UInt8) then (if Aw.2 = 0 then (if Ad.2 = 0 then (if Ai.2 = 0 then (if Aw.1.toList = ([1,172,2,2,2,1,128,1,1,3,49,47,50,0]:List UInt8) then (if (Ad.1.length:Int) = 1 then (if 0 < (Ad.1.length:Int) then (if (((rd_T52 Ad.1 0).f1).size:Int) = 32 then (if Av.2 = (Ai.1.size:Int) then ((garboardref57_Same.f k Av.1 Ad.1).bind fun Bm=>(if Bm = true then ((record_Events.f k Ad.1).bind fun Bd=>(some ((Bd.length:Int) == 1))) else (some false))) else (some false)) else (some false)) else (none)) else (some false)) else (some false)) else (some false)) else (some false)) else (some false)) else (some false)) else (none)) else (some false)) else (none)) else (none)) else (some false))) else (none)))))))) = some r:=h
 clear h
 obtain ⟨An,hy406⟩:∃ y_:List Int,y_ = (([(-1),64]:List Int)):=⟨_,rfl⟩
 replace H:((some (([(⟨#[49,47,50]⟩:ByteArray)]:List ByteArray):List ByteArray)).bind fun Am=>((record_Sum.f (⟨#[97,98,99]⟩:ByteArray)).bind fun Aa=>((record_Encode.f k 1 300 2 An Am ([]:List ByteArray)).bind fun Aw=>((record_Append.f k ([]:List (S52)) 1 300 2 An Am ([]:List ByteArray)).bind fun Ad=>((record_Write.f k Ad.1).bind fun Ai=>(if Ai.1.size + 1≤9223372036854775807 then ((record_Recover.f k (Ai.1 ++ (⟨#[120]⟩:ByteArray))).bind fun Av=>(if (Aa.size:Int) = 32 then (if 0≤4 then (if 4≤(Aa.size:Int) then (if (Aa.extract 0 4).toList = ([186,120,22,191]:List UInt8) then (if 28≤(Aa.size:Int) then (if (Aa.extract 28 Aa.size).toList = ([242,0,21,173]:List UInt8) then (if Aw.2 = 0 then (if Ad.2 = 0 then (if Ai.2 = 0 then (if Aw.1.toList = ([1,172,2,2,2,1,128,1,1,3,49,47,50,0]:List UInt8) then (if (Ad.1.length:Int) = 1 then (if 0 < (Ad.1.length:Int) then (if (((rd_T52 Ad.1 0).f1).size:Int) = 32 then (if Av.2 = (Ai.1.size:Int) then ((garboardref57_Same.f k Av.1 Ad.1).bind fun Bm=>(if Bm = true then ((record_Events.f k Ad.1).bind fun Bd=>(some ((Bd.length:Int) == 1))) else (some false))) else (some false)) else (some false)) else (none)) else (some false)) else (some false)) else (some false)) else (some false)) else (some false)) else (some false)) else (none)) else (some false)) else (none)) else (none)) else (some false))) else (none))))))) = some r:=by first|(rw [hy406];with_reducible exact H)|(have Cx:=(Option.bind_some _ _).symm.trans H;rw [hy406];with_reducible exact Cx)|(have Cx:=(Option.bind_some _ _).symm.trans H;with_reducible exact Cx)|with_reducible exact H|(rw [hy406];exact H)|exact H
 have Cl:=Aside0.mk hy406
 clear hy406
 obtain ⟨Am,hy409⟩:∃ y_:List ByteArray,y_ = (([(⟨#[49,47,50]⟩:ByteArray)]:List ByteArray)):=⟨_,rfl⟩
 replace H:((record_Sum.f (⟨#[97,98,99]⟩:ByteArray)).bind fun Aa=>((record_Encode.f k 1 300 2 An Am ([]:List ByteArray)).bind fun Aw=>((record_Append.f k ([]:List (S52)) 1 300 2 An Am ([]:List ByteArray)).bind fun Ad=>((record_Write.f k Ad.1).bind fun Ai=>(if Ai.1.size + 1≤9223372036854775807 then ((record_Recover.f k (Ai.1 ++ (⟨#[120]⟩:ByteArray))).bind fun Av=>(if (Aa.size:Int) = 32 then (if 0≤4 then (if 4≤(Aa.size:Int) then (if (Aa.extract 0 4).toList = ([186,120,22,191]:List UInt8) then (if 28≤(Aa.size:Int) then (if (Aa.extract 28 Aa.size).toList = ([242,0,21,173]:List UInt8) then (if Aw.2 = 0 then (if Ad.2 = 0 then (if Ai.2 = 0 then (if Aw.1.toList = ([1,172,2,2,2,1,128,1,1,3,49,47,50,0]:List UInt8) then (if (Ad.1.length:Int) = 1 then (if 0 < (Ad.1.length:Int) then (if (((rd_T52 Ad.1 0).f1).size:Int) = 32 then (if Av.2 = (Ai.1.size:Int) then ((garboardref57_Same.f k Av.1 Ad.1).bind fun Bm=>(if Bm = true then ((record_Events.f k Ad.1).bind fun Bd=>(some ((Bd.length:Int) == 1))) else (some false))) else (some false)) else (some false)) else (none)) else (some false)) else (some false)) else (some false)) else (some false)) else (some false)) else (some false)) else (none)) else (some false)) else (none)) else (none)) else (some false))) else (none)))))) = some r:=by first|(rw [hy409];with_reducible exact H)|(have Cx:=(Option.bind_some _ _).symm.trans H;rw [hy409];with_reducible exact Cx)|(have Cx:=(Option.bind_some _ _).symm.trans H;with_reducible exact Cx)|with_reducible exact H|(rw [hy409];exact H)|exact H
 have Ck:=Aside0.mk hy409
 clear hy409
 obtain ⟨Aa,A1,H⟩:=bn_ H
 obtain ⟨⟨By,Bx⟩,A2,H⟩:=bn_ H
 dsimp only at H
 obtain ⟨⟨Ag,Bw⟩,A3,H⟩:=bn_ H
 dsimp only at H
 obtain ⟨⟨Bb,Bv⟩,A4,H⟩:=bn_ H
 dsimp only at H
 by_cases c5:Bb.size + 1≤9223372036854775807
 ·rw [if_pos c5] at H
  have He:=eq_true c5
  have Hd:decide (Bb.size + 1≤9223372036854775807) = true:=decide_eq_true c5
  try have Hb:(9223372036854775807 < Bb.size + 1) = False:=eq_false (Nat.not_lt.2 c5)
  obtain ⟨⟨Cy,Bu⟩,A6,H⟩:=bn_ H
  dsimp only at H
  by_cases c7:(Aa.size:Int) = 32
  ·rw [if_pos c7] at H
   have Fy:((Aa.size:Int) == 32) = true:=beq_iff_eq.mpr c7
   have Fx:((Aa.size:Int) != 32) = false:=bne_eq_false_iff_eq.mpr c7
   clear c7
   by_cases c8:0≤4
   ·rw [if_pos c8] at H
    have Ha:=eq_true c8
    have Gz:decide (0≤4) = true:=decide_eq_true c8
    clear c8
    by_cases c9:4≤(Aa.size:Int)
    ·rw [if_pos c9] at H
     have Gy:=eq_true c9
     have Gx:decide (4≤(Aa.size:Int)) = true:=decide_eq_true c9
     clear c9
     by_cases Cw:(Aa.extract 0 4).toList = ([186,120,22,191]:List UInt8)
     ·rw [if_pos Cw] at H
      have Dr:((Aa.extract 0 4).toList == ([186,120,22,191]:List UInt8)) = true:=beq_iff_eq.mpr Cw
      have Dq:((Aa.extract 0 4).toList != ([186,120,22,191]:List UInt8)) = false:=bne_eq_false_iff_eq.mpr Cw
      clear Cw
      by_cases Dp:28≤(Aa.size:Int)
      ·rw [if_pos Dp] at H
       have Gl:=eq_true Dp
       have Gk:decide (28≤(Aa.size:Int)) = true:=decide_eq_true Dp
       clear Dp
       by_cases Cv:(Aa.extract 28 Aa.size).toList = ([242,0,21,173]:List UInt8)
       ·rw [if_pos Cv] at H
        have Do:((Aa.extract 28 Aa.size).toList == ([242,0,21,173]:List UInt8)) = true:=beq_iff_eq.mpr Cv
        have Dn:((Aa.extract 28 Aa.size).toList != ([242,0,21,173]:List UInt8)) = false:=bne_eq_false_iff_eq.mpr Cv
        clear Cv
        by_cases Cu:Bx = 0
        ·rw [if_pos Cu] at H
         have Dm:(Bx == 0) = true:=beq_iff_eq.mpr Cu
         have Dl:(Bx != 0) = false:=bne_eq_false_iff_eq.mpr Cu
         clear Cu
         by_cases Ct:Bw = 0
         ·rw [if_pos Ct] at H
          have Dk:(Bw == 0) = true:=beq_iff_eq.mpr Ct
          have Dj:(Bw != 0) = false:=bne_eq_false_iff_eq.mpr Ct
          clear Ct
          by_cases Cs:Bv = 0
          ·rw [if_pos Cs] at H
           have Di:(Bv == 0) = true:=beq_iff_eq.mpr Cs
           have Dh:(Bv != 0) = false:=bne_eq_false_iff_eq.mpr Cs
           clear Cs
           by_cases Cr:By.toList = ([1,172,2,2,2,1,128,1,1,3,49,47,50,0]:List UInt8)
           ·rw [if_pos Cr] at H
            have Dg:(By.toList == ([1,172,2,2,2,1,128,1,1,3,49,47,50,0]:List UInt8)) = true:=beq_iff_eq.mpr Cr
            have Df:(By.toList != ([1,172,2,2,2,1,128,1,1,3,49,47,50,0]:List UInt8)) = false:=bne_eq_false_iff_eq.mpr Cr
            clear Cr
            by_cases Cq:(Ag.length:Int) = 1
            ·rw [if_pos Cq] at H
             have De:((Ag.length:Int) == 1) = true:=beq_iff_eq.mpr Cq
             have Dd:((Ag.length:Int) != 1) = false:=bne_eq_false_iff_eq.mpr Cq
             clear Cq
             by_cases Fk:0 < (Ag.length:Int)
             ·rw [if_pos Fk] at H
              have Gj:decide (0 < (Ag.length:Int)) = true:=decide_eq_true Fk
              have Gi:decide (0 < Ag.length) = true:=decide_eq_true (by omega)
              clear Fk
              by_cases Cp:(((rd_T52 Ag 0).f1).size:Int) = 32
              ·rw [if_pos Cp] at H
               have Dc:((((rd_T52 Ag 0).f1).size:Int) == 32) = true:=beq_iff_eq.mpr Cp
               have Db:((((rd_T52 Ag 0).f1).size:Int) != 32) = false:=bne_eq_false_iff_eq.mpr Cp
               clear Cp
               by_cases Co:Bu = (Bb.size:Int)
               ·rw [if_pos Co] at H
                have Da:(Bu == (Bb.size:Int)) = true:=beq_iff_eq.mpr Co
                have Cz:(Bu != (Bb.size:Int)) = false:=bne_eq_false_iff_eq.mpr Co
                clear Co
                obtain ⟨Bm,Hi,H⟩:=bn_ H
                by_cases Fj:Bm = true
                ·subst Fj
                 have H1:((record_Events.f k Ag).bind fun Bd=>(some ((Bd.length:Int) == 1))) = some r:=by rw [if_pos rfl] at H;exact H
                 clear H
                 have H:=H1
                 clear H1
                 obtain ⟨Bd,Hh,H⟩:=bn_ H
                 obtain rfl:=Option.some.inj H
                 go_enter Tryz.func10,Tryz.ntmps10
                 go_wp2_with (first|((with_reducible refine gate_dst (N:=11) rfl ?_);(try (refine gate_guard (by rfl) ?_;dsimp only));refine Kd.R_lit (Kd.int .i64) _ 3 ?hg (N:=11) ?hd (xs:=([(-1),64]:List Int)) (inner:=[.int .i64 (-1),.int .i64 64]) (ok:=fun _=>True) (okp:=fun _=>True) ?hr ?hp (fun _ hk=>hk) trivial (Below.refl _ _) (Nat.le_refl _) sm_ ?_;(case hd=>rfl);(case hg=>rfl);(case hr=>first|(go_simp;done)|(go_simp;rfl));(case hp=>exact (Reps.one (show Kd.M (Kd.int .i64) _ _ _ (-1) [.int .i64 (-1)] from rfl) (Reps.one (show Kd.M (Kd.int .i64) _ _ _ 64 [.int .i64 64] from rfl) (Reps.none _ _))));intro Gt Hs Cf hb Fp Cg;clear Fp Cg;(first|rw [← Cl.out] at Cf|(simp only [Int.reduceToNat] at Cf;rw [← Cl.out] at Cf));have Ab:=Aside0.mk (Kd.R_lower Cf (below_size bx_));replace HB:=bs_ hb;clear hb Cf)|((with_reducible refine gate_dst (N:=12) rfl ?_);(try (refine gate_guard (by rfl) ?_;dsimp only));refine Kd.R_lit Kd.string _ 65 ?hg (N:=12) ?hd (xs:=([(⟨#[49,47,50]⟩:ByteArray)]:List ByteArray)) (inner:=[.string (⟨#[49,47,50]⟩:ByteArray)]) (ok:=fun _=>True) (okp:=fun _=>True) ?hr ?hp (fun _ hk=>hk) trivial (Below.refl _ _) (Nat.le_refl _) sm_ ?_;(case hd=>rfl);(case hg=>rfl);(case hr=>first|(go_simp;done)|(go_simp;rfl));(case hp=>exact (Reps.one (show Kd.M Kd.string _ _ _ (⟨#[49,47,50]⟩:ByteArray) [.string (⟨#[49,47,50]⟩:ByteArray)] from rfl) (Reps.none _ _)));intro Gs Hr Ce hb Fp Cg;clear Fp Cg;(first|rw [← Ck.out] at Ce|(simp only [Int.reduceToNat] at Ce;rw [← Ck.out] at Ce));have Ac:=Aside0.mk (Kd.R_lower Ce (below_size bx_));replace Ab:=rb_ Ab hb;replace HB:=bs_ hb;clear hb Ce;obtain ⟨Cc,Ca,Fu⟩:=Kd.R_slice Ac.out;subst Fu;obtain ⟨Cb,Bz,Ft⟩:=Kd.R_slice Ab.out;subst Ft)|((with_reducible refine gate_dst (N:=1) rfl ?_);(try (refine gate_guard (by rfl) ?_;dsimp only));refine bv_ #[.int .i64 0,.int .i64 0,.int .i64 0,.slice none 0 0,.slice none 0 0,.slice none 0 0] 26 ?_;clear HB;intro Ah hg Hq Af Gn hb HB;replace Ab:=rb_ Ab hb;replace Ac:=rb_ Ac hb;clear hb hg;obtain ⟨Fi,Fh,Fg,Ff,Fe,Fd,Eo,Em,El,Ek,Ej,Ei⟩:=c6_ Af)|((with_reducible refine gate_callee (f:=30) rfl ?_);refine gm_ (some 14) Tryz.func30 #[.string (⟨#[97,98,99]⟩:ByteArray)] ?_;(with_reducible refine (record_Sum.calls (⟨#[97,98,99]⟩:ByteArray) Aa _ A1.out).mono ?_);rintro e Hp ⟨rfl,hb⟩;refine ⟨_,rfl,?_⟩;replace Ab:=Aside0.mk (Kd.R_below (by (with_reducible repeat (first|apply Kd.R_alloc|apply Kd.R_drewN|apply Kd.R_drew));exact (Kd.R_mono (Kd.R_far (p:=⟨Ah,5,none⟩) (Kd.R_far (p:=⟨Ah,4,none⟩) (Kd.R_far (p:=⟨Ah,3,none⟩) (Kd.R_far (p:=⟨Ah,2,none⟩) (Kd.R_far (p:=⟨Ah,1,none⟩) (Kd.R_far (p:=⟨Ah,0,none⟩) (Kd.R_types Ab.out Af.out de_) (fun _ hk=>hk.2) (.int .i64 1)) (fun _ hk=>hk.2) (.int .i64 300)) (fun _ hk=>hk.2) (.int .i64 2)) (fun _ hk=>hk.2) (.slice Cb An.length Bz)) (fun _ hk=>hk.2) (.slice Cc Am.length Ca)) (fun _ hk=>hk.2) (.slice none 0 0)) (fun _ h_=>h_.1))) hb);replace Ac:=Aside0.mk (Kd.R_below (by (with_reducible repeat (first|apply Kd.R_alloc|apply Kd.R_drewN|apply Kd.R_drew));exact (Kd.R_mono (Kd.R_far (p:=⟨Ah,5,none⟩) (Kd.R_far (p:=⟨Ah,4,none⟩) (Kd.R_far (p:=⟨Ah,3,none⟩) (Kd.R_far (p:=⟨Ah,2,none⟩) (Kd.R_far (p:=⟨Ah,1,none⟩) (Kd.R_far (p:=⟨Ah,0,none⟩) (Kd.R_types Ac.out Af.out de_) (fun _ hk=>hk.2) (.int .i64 1)) (fun _ hk=>hk.2) (.int .i64 300)) (fun _ hk=>hk.2) (.int .i64 2)) (fun _ hk=>hk.2) (.slice Cb An.length Bz)) (fun _ hk=>hk.2) (.slice Cc Am.length Ca)) (fun _ hk=>hk.2) (.slice none 0 0)) (fun _ h_=>h_.1))) hb);replace Af:=Aside0.mk (blk_below (g:=Ah) (o:=.cells #[.int .i64 1,.int .i64 300,.int .i64 2,.slice Cb An.length Bz,.slice Cc Am.length Ca,.slice none 0 0] 26 (0,0)) bk_ hb);replace HB:=bs_ hb;(try clear hb);obtain ⟨Fc,Fb,Fa,Ez,Ey,Ex,Eh,Eg,Ef,Ee,Ed,Ec⟩:=c6_ Af)|((with_reducible refine gate_callee (f:=12) rfl ?_);refine gm_ (some 17) Tryz.func12 #[.agg #[.int .i64 1,.int .i64 300,.int .i64 2,.slice Cb An.length Bz,.slice Cc Am.length Ca,.slice none 0 0]] ?_;(refine (record_Encode.calls k 1 300 2 _ _ An _ _ Am _ _ ([]:List ByteArray) By Bx _ ?side1 ?side2 ?side3 ?side4 ?side5 ?side6 ?side7 A2.out).mono ?_);(case side1=>exact cx_ ((Kd.R_reads' Ab.out).2.2));(case side2=>exact (Kd.R_reads' Ab.out).2.1);(case side3=>exact cx_ ((Kd.R_reads' Ac.out).2.2));(case side4=>exact (Kd.R_reads' Ac.out).2.1);(case side5=>exact Kd.C_nil _ _);(case side6=>exact Nat.le_refl _);(case side7=>exact HLW.out.below bx_);rintro e Ho ⟨rfl,hb⟩;refine ⟨_,rfl,?_⟩;replace Ab:=rb_ Ab hb;replace Ac:=rb_ Ac hb;replace Af:=bb_ Af hb;replace HB:=bs_ hb;(try clear hb);obtain ⟨Ew,Eu,Et,Es,Er,Ep,Eb,Ea,Dz,Dy,Dx,Dw⟩:=c6_ Af)|((with_reducible refine gate_callee (f:=31) rfl ?_);refine gm_ (some 22) Tryz.func31 #[.slice none 0 0,.agg #[.int .i64 1,.int .i64 300,.int .i64 2,.slice Cb An.length Bz,.slice Cc Am.length Ca,.slice none 0 0]] ?_;(refine (record_Append.calls k _ _ ([]:List (S52)) 1 300 2 _ _ An _ _ Am _ _ ([]:List ByteArray) Ag Bw _ ?side1 ?side2 ?side3 ?side4 ?side5 ?side6 ?side7 ?side8 ?side9 A3.out).mono ?_);(case side1=>exact Kd.C_nil _ _);(case side2=>exact Nat.le_refl _);(case side3=>exact cx_ ((Kd.R_reads' Ab.out).2.2));(case side4=>exact (Kd.R_reads' Ab.out).2.1);(case side5=>exact cx_ ((Kd.R_reads' Ac.out).2.2));(case side6=>exact (Kd.R_reads' Ac.out).2.1);(case side7=>exact Kd.C_nil _ _);(case side8=>exact Nat.le_refl _);(case side9=>exact HLW.out.below bx_);rintro e Hn ⟨Gr,rfl,Cj,hb⟩;refine ⟨_,rfl,?_⟩;have Ae:=Aside0.mk (Kd.S_lower (Kd.S_new' (Kd.S_new' Cj (Kd.R_lt (by (with_reducible repeat (first|apply Kd.R_alloc|apply Kd.R_drewN|apply Kd.R_drew));exact Ab.out))) (Kd.R_lt (by (with_reducible repeat (first|apply Kd.R_alloc|apply Kd.R_drewN|apply Kd.R_drew));exact Ac.out))) (below_size bx_));replace Ab:=rb_ Ab hb;replace Ac:=rb_ Ac hb;replace Af:=bb_ Af hb;replace HB:=bs_ hb;(try clear hb);(try clear Cj);obtain ⟨Gc,Fw,Fs⟩:=Kd.S_slice Ae.out;subst Fs)|((with_reducible refine gate_callee (f:=19) rfl ?_);refine gm_ (some 27) Tryz.func19 #[.slice Gc Ag.length Fw] ?_;(with_reducible refine (record_Write.calls k _ _ Ag Bb Bv _ ?side1 ?side2 ?side3 A4.out).mono ?_);(case side1=>exact cx_ ((Kd.S_reads' Ae.out).2.2));(case side2=>exact (Kd.S_reads' Ae.out).2.1);(case side3=>exact HLW.out.below bx_);rintro e Hm ⟨rfl,hb⟩;refine ⟨_,rfl,?_⟩;replace Ab:=rb_ Ab hb;replace Ac:=rb_ Ac hb;replace Ae:=Aside0.mk (Kd.S_below (by (with_reducible repeat (first|apply Kd.S_alloc|apply Kd.S_drewN|apply Kd.S_drew));exact Ae.out) hb);replace Af:=bb_ Af hb;replace HB:=bs_ hb;(try clear hb))|((with_reducible refine gate_callee (f:=22) rfl ?_);refine gm_ (some 33) Tryz.func22 #[.string (Bb ++ (⟨#[120]⟩:ByteArray))] ?_;(with_reducible refine (record_Recover.calls k (Bb ++ (⟨#[120]⟩:ByteArray)) Cy Bu _ (HLW.out.below bx_) A6.out).mono ?_);rintro e Hl ⟨Gq,rfl,Cj,hb⟩;refine ⟨_,rfl,?_⟩;have Bc:=Aside0.mk (Kd.S_lower (Kd.S_new' (Kd.S_new' (Kd.S_new' Cj (Kd.R_lt (by (with_reducible repeat (first|apply Kd.R_alloc|apply Kd.R_drewN|apply Kd.R_drew));exact Ab.out))) (Kd.R_lt (by (with_reducible repeat (first|apply Kd.R_alloc|apply Kd.R_drewN|apply Kd.R_drew));exact Ac.out))) (Kd.S_lt (by (with_reducible repeat (first|apply Kd.S_alloc|apply Kd.S_drewN|apply Kd.S_drew));exact Ae.out))) (below_size bx_));replace Ab:=rb_ Ab hb;replace Ac:=rb_ Ac hb;replace Ae:=Aside0.mk (Kd.S_elder' (by (with_reducible repeat (first|apply Kd.S_alloc|apply Kd.S_drewN|apply Kd.S_drew));exact Ae.out) (Kd.S_base Cj) hb);replace Af:=bb_ Af hb;replace HB:=bs_ hb;(try clear hb);(try clear Cj);have Ci:0≤(0:Int):=(by omega);have Ch:0 < (Ag.length:Int):=da_;obtain ⟨Gm,Gf,Gb,Ge,Ga,Gd,Fz,Fv,Bh,Bg,Bf,Ba,Ay,Ax,Be,Bp,Bt,Bo,Br,Bn,Bq⟩:=at_T52 (Kd.S_reads' Ae.out).2.2 0 Ci Ch;cases Fv;obtain ⟨Gh,Cm,Cn,Bi⟩:=Kd.S_get Ae.out z52 0 Ci (by first|exact Ch|exact of_decide_eq_true (by first|(with_reducible assumption)|assumption)|(have e_:=(Kd.S_reads' Ae.out).1;omega));obtain ⟨Dv,Du,Dt,rfl,Bl,Bk,Bj⟩:=k52_openM Cn;have Aq:=Bi 3 _ rfl;rw [add_field _ _ 3 (by omega)] at Aq;replace Aq:=Option.some.inj (Aq.symm.trans Ba);rw [Aq] at Bl;have Au:=Aside0.mk (show Kd.R (Kd.int .i64) 3 _ _ _ _ ((rd_T52 Ag 0).f0.f3) from Bl);clear Aq Bl;have Ap:=Bi 4 _ rfl;rw [add_field _ _ 4 (by omega)] at Ap;replace Ap:=Option.some.inj (Ap.symm.trans Ay);rw [Ap] at Bk;have At:=Aside0.mk (show Kd.R Kd.string 65 _ _ _ _ ((rd_T52 Ag 0).f0.f4) from Bk);clear Ap Bk;have Ao:=Bi 5 _ rfl;rw [add_field _ _ 5 (by omega)] at Ao;replace Ao:=Option.some.inj (Ao.symm.trans Ax);rw [Ao] at Bj;have As:=Aside0.mk (show Kd.R Kd.string 9 _ _ _ _ ((rd_T52 Ag 0).f0.f5) from Bj);clear Ao Bj;clear Bi Cm;have Gg:(0 < Ag.length) = True:=eq_true (by omega);(try rw [show ((0:Int)).toNat = 0 from rfl] at Bh);(try rw [show 0 * 7 = 0 from rfl] at Bh);(try rw [Addr.add_zero'] at Bh);(try rw [show ((0:Int)).toNat = 0 from rfl] at Bg);(try rw [show 0 * 7 = 0 from rfl] at Bg);(try rw [Addr.add_zero'] at Bg);(try rw [show ((0:Int)).toNat = 0 from rfl] at Bf);(try rw [show 0 * 7 = 0 from rfl] at Bf);(try rw [Addr.add_zero'] at Bf);(try rw [show ((0:Int)).toNat = 0 from rfl] at Ba);(try rw [show 0 * 7 = 0 from rfl] at Ba);(try rw [Addr.add_zero'] at Ba);(try rw [show ((0:Int)).toNat = 0 from rfl] at Ay);(try rw [show 0 * 7 = 0 from rfl] at Ay);(try rw [Addr.add_zero'] at Ay);(try rw [show ((0:Int)).toNat = 0 from rfl] at Ax);(try rw [show 0 * 7 = 0 from rfl] at Ax);(try rw [Addr.add_zero'] at Ax);(try rw [show ((0:Int)).toNat = 0 from rfl] at Be);(try rw [show 0 * 7 = 0 from rfl] at Be);(try rw [Addr.add_zero'] at Be);have Al:=Aside0.mk Bt;have Fo:=Aside0.mk Bp;clear Bt Bp;have Ak:=Aside0.mk Br;have Fm:=Aside0.mk Bo;clear Br Bo;have Aj:=Aside0.mk Bq;have Fl:=Aside0.mk Bn;clear Bq Bn;replace Ci:=eq_true Ci;replace Ch:=eq_true Ch;obtain ⟨Hg,Gw,Fr⟩:=Kd.S_slice Bc.out;subst Fr)|(go_at_call 24;(with_reducible refine (garboardref57_Same.calls k _ _ Cy _ _ Ag true _ ?side1 ?side2 ?side3 ?side4 Hi.out).mono ?_);(case side1=>exact cx_ ((Kd.S_reads' Bc.out).2.2));(case side2=>exact (Kd.S_reads' Bc.out).2.1);(case side3=>exact cx_ ((Kd.S_reads' Ae.out).2.2));(case side4=>exact (Kd.S_reads' Ae.out).2.1);rintro e Hk ⟨rfl,hb⟩;replace Ab:=rb_ Ab hb;replace Ac:=rb_ Ac hb;replace Ae:=Aside0.mk (Kd.S_below (by (with_reducible repeat (first|apply Kd.S_alloc|apply Kd.S_drewN|apply Kd.S_drew));exact Ae.out) hb);replace Bc:=Aside0.mk (Kd.S_below (by (with_reducible repeat (first|apply Kd.S_alloc|apply Kd.S_drewN|apply Kd.S_drew));exact Bc.out) hb);replace Au:=Aside0.mk (Kd.R_below (by (with_reducible repeat (first|apply Kd.R_alloc|apply Kd.R_drewN|apply Kd.R_drew));exact Au.out) hb);replace At:=Aside0.mk (Kd.R_below (by (with_reducible repeat (first|apply Kd.R_alloc|apply Kd.R_drewN|apply Kd.R_drew));exact At.out) hb);replace As:=Aside0.mk (Kd.R_below (by (with_reducible repeat (first|apply Kd.R_alloc|apply Kd.R_drewN|apply Kd.R_drew));exact As.out) hb);replace Af:=bb_ Af hb;replace Al:=Aside0.mk (Kd.C_below (by repeat (first|(with_reducible exact Al.out)|(with_reducible refine Kd.C_alloc ?_ _)|(with_reducible refine Kd.C_drewN ?_ _)|(with_reducible refine Kd.C_drew ?_)|exact Al.out)) hb);replace Ak:=Aside0.mk (Kd.C_below (by repeat (first|(with_reducible exact Ak.out)|(with_reducible refine Kd.C_alloc ?_ _)|(with_reducible refine Kd.C_drewN ?_ _)|(with_reducible refine Kd.C_drew ?_)|exact Ak.out)) hb);replace Aj:=Aside0.mk (Kd.C_below (by repeat (first|(with_reducible exact Aj.out)|(with_reducible refine Kd.C_alloc ?_ _)|(with_reducible refine Kd.C_drewN ?_ _)|(with_reducible refine Kd.C_drew ?_)|exact Aj.out)) hb);replace HB:=bs_ hb;(try clear hb))|(go_at_call 35;(with_reducible refine (record_Events.calls k _ _ Ag Bd _ ?side1 ?side2 Hh.out).mono ?_);(case side1=>exact cx_ ((Kd.S_reads' Ae.out).2.2));(case side2=>exact (Kd.S_reads' Ae.out).2.1);rintro e Hj ⟨Gp,rfl,Cj,hb⟩;have Ds:=Aside0.mk (Kd.S_lower (Kd.S_newB (Kd.S_new' (Kd.S_new' (Kd.S_new' (Kd.S_new' (Kd.S_new' Cj (Kd.R_lt (by (with_reducible repeat (first|apply Kd.R_alloc|apply Kd.R_drewN|apply Kd.R_drew));exact Ab.out))) (Kd.R_lt (by (with_reducible repeat (first|apply Kd.R_alloc|apply Kd.R_drewN|apply Kd.R_drew));exact Ac.out))) (Kd.R_lt (by (with_reducible repeat (first|apply Kd.R_alloc|apply Kd.R_drewN|apply Kd.R_drew));exact Au.out))) (Kd.R_lt (by (with_reducible repeat (first|apply Kd.R_alloc|apply Kd.R_drewN|apply Kd.R_drew));exact At.out))) (Kd.R_lt (by (with_reducible repeat (first|apply Kd.R_alloc|apply Kd.R_drewN|apply Kd.R_drew));exact As.out))) (g:=Ah) (o:=.cells #[.int .i64 1,.int .i64 300,.int .i64 2,.slice Cb An.length Bz,.slice Cc Am.length Ca,.slice none 0 0] 26 (0,0)) bk_) (below_size bx_));replace Ab:=rb_ Ab hb;replace Ac:=rb_ Ac hb;replace Ae:=Aside0.mk (Kd.S_below (by (with_reducible repeat (first|apply Kd.S_alloc|apply Kd.S_drewN|apply Kd.S_drew));exact Ae.out) hb);replace Bc:=Aside0.mk (Kd.S_below (by (with_reducible repeat (first|apply Kd.S_alloc|apply Kd.S_drewN|apply Kd.S_drew));exact Bc.out) hb);replace Au:=Aside0.mk (Kd.R_below (by (with_reducible repeat (first|apply Kd.R_alloc|apply Kd.R_drewN|apply Kd.R_drew));exact Au.out) hb);replace At:=Aside0.mk (Kd.R_below (by (with_reducible repeat (first|apply Kd.R_alloc|apply Kd.R_drewN|apply Kd.R_drew));exact At.out) hb);replace As:=Aside0.mk (Kd.R_below (by (with_reducible repeat (first|apply Kd.R_alloc|apply Kd.R_drewN|apply Kd.R_drew));exact As.out) hb);replace Af:=bb_ Af hb;replace Al:=Aside0.mk (Kd.C_below (by repeat (first|(with_reducible exact Al.out)|(with_reducible refine Kd.C_alloc ?_ _)|(with_reducible refine Kd.C_drewN ?_ _)|(with_reducible refine Kd.C_drew ?_)|exact Al.out)) hb);replace Ak:=Aside0.mk (Kd.C_below (by repeat (first|(with_reducible exact Ak.out)|(with_reducible refine Kd.C_alloc ?_ _)|(with_reducible refine Kd.C_drewN ?_ _)|(with_reducible refine Kd.C_drew ?_)|exact Ak.out)) hb);replace Aj:=Aside0.mk (Kd.C_below (by repeat (first|(with_reducible exact Aj.out)|(with_reducible refine Kd.C_alloc ?_ _)|(with_reducible refine Kd.C_drewN ?_ _)|(with_reducible refine Kd.C_drew ?_)|exact Aj.out)) hb);replace HB:=bs_ hb;(try clear hb);(try clear Cj);obtain ⟨Hf,Gv,Fq⟩:=Kd.S_slice Ds.out;subst Fq))
                 go_ret
                 exact ⟨rf_,bx_⟩
                ·replace Fj:=Bool.eq_false_iff.mpr Fj
                 subst Fj
                 have H1:(some false) = some r:=by rw [if_neg (show ¬ (false = true) by decide)] at H;exact H
                 clear H
                 have H:=H1
                 clear H1
                 exact absurd (Option.some.inj H) (by rw [HRT.out];decide)
               ·rw [if_neg Co] at H
                have Da:(Bu == (Bb.size:Int)) = false:=beq_eq_false_iff_ne.mpr Co
                have Cz:(Bu != (Bb.size:Int)) = true:=bne_iff_ne.mpr Co
                exact absurd (Option.some.inj H) (by rw [HRT.out];decide)
              ·rw [if_neg Cp] at H
               have Dc:((((rd_T52 Ag 0).f1).size:Int) == 32) = false:=beq_eq_false_iff_ne.mpr Cp
               have Db:((((rd_T52 Ag 0).f1).size:Int) != 32) = true:=bne_iff_ne.mpr Cp
               exact absurd (Option.some.inj H) (by rw [HRT.out];decide)
             ·rw [if_neg Fk] at H
              exact absurd H sm_
            ·rw [if_neg Cq] at H
             have De:((Ag.length:Int) == 1) = false:=beq_eq_false_iff_ne.mpr Cq
             have Dd:((Ag.length:Int) != 1) = true:=bne_iff_ne.mpr Cq
             exact absurd (Option.some.inj H) (by rw [HRT.out];decide)
           ·rw [if_neg Cr] at H
            have Dg:(By.toList == ([1,172,2,2,2,1,128,1,1,3,49,47,50,0]:List UInt8)) = false:=beq_eq_false_iff_ne.mpr Cr
            have Df:(By.toList != ([1,172,2,2,2,1,128,1,1,3,49,47,50,0]:List UInt8)) = true:=bne_iff_ne.mpr Cr
            exact absurd (Option.some.inj H) (by rw [HRT.out];decide)
          ·rw [if_neg Cs] at H
           have Di:(Bv == 0) = false:=beq_eq_false_iff_ne.mpr Cs
           have Dh:(Bv != 0) = true:=bne_iff_ne.mpr Cs
           exact absurd (Option.some.inj H) (by rw [HRT.out];decide)
         ·rw [if_neg Ct] at H
          have Dk:(Bw == 0) = false:=beq_eq_false_iff_ne.mpr Ct
          have Dj:(Bw != 0) = true:=bne_iff_ne.mpr Ct
          exact absurd (Option.some.inj H) (by rw [HRT.out];decide)
        ·rw [if_neg Cu] at H
         have Dm:(Bx == 0) = false:=beq_eq_false_iff_ne.mpr Cu
         have Dl:(Bx != 0) = true:=bne_iff_ne.mpr Cu
         exact absurd (Option.some.inj H) (by rw [HRT.out];decide)
       ·rw [if_neg Cv] at H
        have Do:((Aa.extract 28 Aa.size).toList == ([242,0,21,173]:List UInt8)) = false:=beq_eq_false_iff_ne.mpr Cv
        have Dn:((Aa.extract 28 Aa.size).toList != ([242,0,21,173]:List UInt8)) = true:=bne_iff_ne.mpr Cv
        exact absurd (Option.some.inj H) (by rw [HRT.out];decide)
      ·rw [if_neg Dp] at H
       exact absurd H sm_
     ·rw [if_neg Cw] at H
      have Dr:((Aa.extract 0 4).toList == ([186,120,22,191]:List UInt8)) = false:=beq_eq_false_iff_ne.mpr Cw
      have Dq:((Aa.extract 0 4).toList != ([186,120,22,191]:List UInt8)) = true:=bne_iff_ne.mpr Cw
      exact absurd (Option.some.inj H) (by rw [HRT.out];decide)
    ·rw [if_neg c9] at H
     exact absurd H sm_
   ·rw [if_neg c8] at H
    exact absurd H sm_
  ·rw [if_neg c7] at H
   have Fy:((Aa.size:Int) == 32) = false:=beq_eq_false_iff_ne.mpr c7
   have Fx:((Aa.size:Int) != 32) = true:=bne_iff_ne.mpr c7
   exact absurd (Option.some.inj H) (by rw [HRT.out];decide)
 ·rw [if_neg c5] at H
  exact absurd H sm_
end Go.Proofs.YtcmbggahndfnnaaGreatDoor.Pr
