/- Part 1 of 1: RecordReturns answers true for every input, and each argument reads behind the call as before. The library's tables are tied to the program's text by the card. -/
import Derived.Below
import Derived.Deep.Draws
import Derived.Deep.AppendLies
import Derived.Maps.AppendAt
import Derived.OwnWalk
import Derived.Laws.BytesArg
import Derived.Laws.MakeOwn
import Derived.Laws.OwnMore
import Derived.Deep.OwnRows
import Derived.Tactics
import Derived.Lib.ConvBytes
import Derived.Laws.Slices
import Derived.WalkKit
import Derived.KernelRfl
import Derived.RowKit3
import Derived.Deep.LoopGhost
import Derived.Deep.QuietTactic
import Derived.BigQuiet
import Derived.WideLaws
import Derived.Deep.DeepCutAuto
import Derived.Deep.CutBlock
import Derived.Deep.RegionHeld3
import Derived.Laws.Rows
import Derived.Lib.AppendStr
import Derived.ArgAppend
import Derived.Laws.IdiomCopy
import Derived.RowKit
import Derived.OrdersHeld
import Derived.Laws.BitsLemmas
import Derived.Laws.StructEq
import Derived.Test.YtcmbggahndfnnaaGreatDoorProg
import Derived.Shelf.Abstract
import Derived.Lib.AppendIntMem
import Derived.Shelf.LaysM
import Derived.Shelf.Strconv.Itoa3
import Derived.Shelf.Strings.Builder1
import Derived.Shelf.Strings.Builder2
import Derived.Shelf.Small.Wraps
import Derived.Shelf.Strings.BuilderF
import Derived.Shelf.Strings.BuilderK
import Derived.Shelf.Strings.Builder2Cap
import Derived.Shelf.Strconv.Itoa0
import Derived.Shelf.Strconv.Itoa1
import Derived.Shelf.Strconv.Itoa2
import Derived.Shelf.Strconv.Clone
import Derived.Shelf.Strconv.SyntaxError
import Derived.Shelf.Strconv.Lower
import Derived.Shelf.Strconv.ParseUint10
import Derived.Shelf.Strconv.ParseUint10Empty
import Derived.Shelf.Strconv.RangeError
import Derived.Shelf.Strconv.ParseUintEmpty
import Derived.Shelf.Strconv.ParseUint10b64
import Derived.Shelf.Strconv.ParseUint10b32
import Derived.Shelf.Strconv.ParseUint10b16
import Derived.Shelf.Strconv.ParseUint10b8
import Derived.Ground.MpProg
import Derived.Shelf.Pu.ParseUintPublic10
import Derived.Shelf.Strings.Prefix
import Derived.Shelf.Bits.Mul64
import Derived.Shelf.Strings.Repeat
import Derived.Ground.Names2Prog
import Derived.Shelf.Slices.SearchI
import Derived.Lib.AtoiErrMem
import Derived.Lib.ItoaNum
import Derived.Lib.ParseIntB
import Derived.RangeFuncFrom
import Derived.RangeFuncBox
import Derived.RangeFuncLeaves
import Derived.RangeFuncCalls
import Derived.RangeFuncBound
import Derived.OwnWalkIn
import Derived.TacticsInMore
import Derived.LoopNIn
import Derived.LoopIn
import Derived.Lib.Hide
import Derived.Lib.FrozenHead
import Derived.Lib.Walk
import Derived.Lib.ItoaMem
import Derived.BigCall
import Derived.BigGuard
import Derived.Shelf.Strings.Search1
import Derived.Shelf.Strings.Cut
import Derived.IntWalk
import Derived.Great.BuildSlice
import Derived.StillTailTactics
import Derived.Lib.SmallJoins
import Derived.LaidMore
import Derived.ProofKit
import Derived.Stop.Joined
import Derived.SizedLaws
import Derived.DataShut
import Derived.SliceStrings
import Derived.SevenTiedAt
import Derived.Test.YtcmbggahndfnnaaGreatDoorEz6
set_option linter.unusedVariables false
set_option linter.unusedSimpArgs false
namespace Go.Proofs.YtcmbggahndfnnaaGreatDoor.Pr
open Go.RowKit Go.Proofs.YtcmbggahndfnnaaGreatDoorW.PrintWords Go.Proofs.YtcmbggahndfnnaaGreatDoorW.PrintLast Go.Proofs.YtcmbggahndfnnaaGreatDoorW.PrintMore
set_option maxHeartbeats 4000000
set_option maxRecDepth 100000
def PredT52 (g:Nat) (xs:List S52) (p:S52→Bool) (w:World):Prop :=
 ∀ (W:World) (x:S52),x ∈ xs→Below w.heap.size w W→∀ A3 c3 A4 c4 A5 c5,x.f0.f3.length≤c3→Kd.C (Kd.int .i64) W A3 x.f0.f3.length x.f0.f3→x.f0.f4.length≤c4→Kd.C Kd.string W A4 x.f0.f4.length x.f0.f4→x.f0.f5.length≤c5→Kd.C Kd.string W A5 x.f0.f5.length x.f0.f5 →
  Calls Tryz.prog g #[.agg #[.int .i64 x.f0.f0,.int .i64 x.f0.f1,.int .i64 x.f0.f2,.slice A3 x.f0.f3.length c3,.slice A4 x.f0.f4.length c4,.slice A5 x.f0.f5.length c5,.string x.f1]] W fun e w'=>e = .returned (.bool (p x))∧Below w.heap.size w w'
theorem idxT52 (p:S52→Bool) (g:Nat) (eg:∀ args w,(callFunc g args).run Tryz.prog w = .ok (.enter g args) w) (A:Option Addr) (c:Nat) (xs:List S52) (w:World)
  (hr:Kd.C k52 w A xs.length xs) (hp:PredT52 g xs p w) :
  Calls Tryz.prog 68 #[.slice A xs.length c,.func (.func g) #[] #[]] w fun e w'=>e = .returned (.int .i64 (fidx p xs 0))∧Below w.heap.size w w':=by
 have At:=hr.2.1
 have As:=Tryz.underlying26
 have Aq:=Tryz.underlying52
 have HR:=Aside0.mk hr
 have HP:=Aside0.mk hp
 clear hr hp
 go_enter Tryz.func68,Tryz.ntmps68
 go_wp2
 go_loopg [5,8] xs.length (fun gg _ s8 wr=>∃ kk:Nat,kk≤xs.length∧xs.length - kk≤gg∧s8 = .int .i64 kk∧Aside0 (Below w.heap.size w wr)∧Aside0 (∀ j z,j < kk→xs[j]? = some z→p z = false))
 case atStart=>exact ⟨0,Nat.zero_le _,by omega,rfl,⟨Below.refl _ w⟩,⟨fun j z hj=>absurd hj (Nat.not_lt_zero _)⟩⟩
 case round =>
  obtain ⟨kk,hkk,hg,rfl,BW,AF⟩:=hrel
  by_cases hlt:kk < xs.length
  ·have Aj:(kk:Int) < (xs.length:Int):=by omega
   obtain ⟨ad,A3,c3,A4,c4,A5,c5,e,Ai,Ah,Ag,Af,Ae,Ad,Ac,Am,Ap,Al,Ao,Ak,An⟩:=at_T52 HR.out (kk:Int) (by omega) Aj
   cases e
   replace Ai:=(BW.out.cell (World.block_lt_of_cell? w _ Ai)).trans Ai
   replace Ah:=(BW.out.cell (World.block_lt_of_cell? w _ Ah)).trans Ah
   replace Ag:=(BW.out.cell (World.block_lt_of_cell? w _ Ag)).trans Ag
   replace Af:=(BW.out.cell (World.block_lt_of_cell? w _ Af)).trans Af
   replace Ae:=(BW.out.cell (World.block_lt_of_cell? w _ Ae)).trans Ae
   replace Ad:=(BW.out.cell (World.block_lt_of_cell? w _ Ad)).trans Ad
   replace Ac:=(BW.out.cell (World.block_lt_of_cell? w _ Ac)).trans Ac
   simp only [Int.toNat_natCast] at Ai Ah Ag Af Ae Ad Ac
   have Ab:xs[kk]? = some (rd_T52 xs kk):=by
    unfold rd_T52
    rw [List.getD_eq_getElem?_getD,Int.toNat_natCast,List.getElem?_eq_getElem hlt]
    rfl
   have Aa:=HP.out wr (rd_T52 xs kk) (List.mem_of_getElem? Ab) BW.out A3 c3 A4 c4 A5 c5 Am (Kd.C_below Ap BW.out) Al (Kd.C_below Ao BW.out) Ak (Kd.C_below An BW.out)
   clear Am Ap Al Ao Ak An
   have HG:=Aside0.mk Ab
   clear Ab
   generalize rd_T52 xs (kk:Int) = y at Ai Ah Ag Af Ae Ad Ac Aa HG
   cases hq:p y with
   | true =>
    have HQ:=Aside0.mk hq
    rw [hq] at Aa
    clear hq
    go_wp2_with fail
    refine Aa.mono ?_
    clear Aa
    rintro e w' ⟨rfl,hb'⟩
    go_wp2_with fail
    go_ret
    refine ⟨?_,hb'⟩
    rw [fidx_hit p xs 0 kk _ HG.out HQ.out AF.out,Nat.zero_add]
    rfl
   | false =>
    have HQ:=Aside0.mk hq
    rw [hq] at Aa
    clear hq
    go_wp2_with fail
    refine Aa.mono ?_
    clear Aa
    rintro e w' ⟨rfl,hb'⟩
    go_wp2_with fail
    go_roundg (xs.length - (kk + 1))
    case measure=>omega
    case rel =>
     refine ⟨kk + 1,by omega,by omega,by go_num,⟨hb'⟩,⟨fun j z hj hz=>?_⟩⟩
     by_cases e:j = kk
     ·subst e
      rw [HG.out] at hz
      injection hz with hz
      rw [← hz]
      exact HQ.out
     ·exact AF.out j z (by omega) hz
  ·have Aj:¬ (kk:Int) < (xs.length:Int):=by omega
   go_wp2
   go_ret
   refine ⟨?_,BW.out⟩
   have hf:fidx p xs 0 = -1:=fidx_miss p xs 0 (fun x hx=>by
    obtain ⟨j,hj⟩:=List.getElem?_of_mem hx
    have hjl:=(List.getElem?_eq_some_iff.1 hj).1
    exact AF.out j x (by omega) hj)
   rw [hf]
   rfl
theorem hasT52 (p:S52→Bool) (g:Nat) (eg:∀ args w,(callFunc g args).run Tryz.prog w = .ok (.enter g args) w) (A:Option Addr) (c:Nat) (xs:List S52) (w:World)
  (hr:Kd.C k52 w A xs.length xs) (hp:PredT52 g xs p w) :
  Calls Tryz.prog 28 #[.slice A xs.length c,.func (.func g) #[] #[]] w fun e w'=>e = .returned (.bool (xs.any p))∧Below w.heap.size w w':=by
 have Aa:=idxT52 p g eg A c xs w hr hp
 rw [fidx_any p xs 0]
 clear hr hp eg
 generalize fidx p xs 0 = q at Aa ⊢
 go_enter Tryz.func28,Tryz.ntmps28
 go_wp2_with fail
 refine Aa.mono ?_
 clear Aa
 rintro e w' ⟨rfl,hb'⟩
 go_wp2_with fail
 go_ret
 exact ⟨by first|rfl|simp,hb'⟩
open Go.Lib Go.Proofs.YtcmbggahndfnnaaGreatDoor.NatTh
theorem take_len (l:List S52) (n:Nat):(recB (l.take n)).length≤(recB l).length:=by
 have:=congrArg (fun x=>(recB x).length) (List.take_append_drop n l)
 rw [recB_append,List.length_append] at this
 omega
end Go.Proofs.YtcmbggahndfnnaaGreatDoor.Pr
namespace Go.Proofs.YtcmbggahndfnnaaGreatDoor.Pr
open Go.RowKit Go.Proofs.YtcmbggahndfnnaaGreatDoorW.PrintWords Go.Proofs.YtcmbggahndfnnaaGreatDoorW.PrintLast Go.Proofs.YtcmbggahndfnnaaGreatDoorW.PrintMore
attribute [local go_sem] max2_int min2_int max_two min_two max_three min_three max_four min_four
set_option maxHeartbeats 8000000
set_option maxRecDepth 100000
def garboardlaw57_RecordReturns_1.f (k:Nat) (a0_0:Int) (a0_1:Int) (a0_2:Int) (l0_3:List Int) (l0_4:List ByteArray) (l0_5:List ByteArray) (a0_6:ByteArray):Option (Bool):=(garboardref57_CopyEvent.f a0_0 a0_1 a0_2 l0_3 l0_4 l0_5).bind fun bt862=>((record_Encode.f k bt862.1 bt862.2.1 bt862.2.2.1 bt862.2.2.2.1 bt862.2.2.2.2.1 bt862.2.2.2.2.2).bind fun bt874=>((record_Decode.f k bt874.1).bind fun bt876=>(if bt874.2 = 0 then (if bt876.2.2.2.2.2.2 = 0 then ((garboardref57_SameEvent.f k a0_0 a0_1 a0_2 l0_3 l0_4 l0_5 bt876.1 bt876.2.1 bt876.2.2.1 bt876.2.2.2.1 bt876.2.2.2.2.1 bt876.2.2.2.2.2.1).bind fun t890=>(some (!t890))) else (some true)) else (some true))))
theorem garboardlaw57_RecordReturns_1.calls (k:Nat) (a0_0:Int) (a0_1:Int) (a0_2:Int) (A0_3:Option Addr) (c0_3:Nat) (l0_3:List Int) (A0_4:Option Addr) (c0_4:Nat) (l0_4:List ByteArray) (A0_5:Option Addr) (c0_5:Nat) (l0_5:List ByteArray) (a0_6:ByteArray) (r:Bool) (w:World) (hr0_3:Kd.C (Kd.int .i64) w A0_3 l0_3.length l0_3) (hc0_3:l0_3.length≤c0_3) (hr0_4:Kd.C Kd.string w A0_4 l0_4.length l0_4) (hc0_4:l0_4.length≤c0_4) (hr0_5:Kd.C Kd.string w A0_5 l0_5.length l0_5) (hc0_5:l0_5.length≤c0_5) (hL:LaidW w) (h:garboardlaw57_RecordReturns_1.f k a0_0 a0_1 a0_2 l0_3 l0_4 l0_5 a0_6 = some r) :
  Calls Tryz.prog 29 #[.agg #[.int .i64 a0_0,.int .i64 a0_1,.int .i64 a0_2,.slice A0_3 l0_3.length c0_3,.slice A0_4 l0_4.length c0_4,.slice A0_5 l0_5.length c0_5,.string a0_6]] w fun e w'=>e = .returned (.bool r)∧Below w.heap.size w w':=by
 have Hr:=Tryz.underlying52
 have Hs:=Tryz.underlying26
 have Bn:=Aside0.mk hr0_3
 have Bq:=Aside0.mk hc0_3
 clear hr0_3 hc0_3
 have Bm:=Aside0.mk hr0_4
 have Bp:=Aside0.mk hc0_4
 clear hr0_4 hc0_4
 have Bl:=Aside0.mk hr0_5
 have Bo:=Aside0.mk hc0_5
 clear hr0_5 hc0_5
 have HB:=Aside0.mk (Below.refl w.heap.size w)
 have HLW:=Aside0.mk hL
 clear hL
 have H:=h;clear h;unfold garboardlaw57_RecordReturns_1.f at H
 obtain ⟨⟨Bi,Bh,Bg,Ax,Aw,Av⟩,A2,H⟩:=bn_ H
 dsimp only at H
 obtain ⟨⟨Bf,Bk⟩,A3,H⟩:=bn_ H
 dsimp only at H
 obtain ⟨⟨Aq,Ap,Ao,An,Am,Al,Bj⟩,A4,H⟩:=bn_ H
 dsimp only at H
 by_cases c5:Bk = 0
 ·rw [if_pos c5] at H
  have He:(Bk == 0) = true:=beq_iff_eq.mpr c5
  have Hd:(Bk != 0) = false:=bne_eq_false_iff_eq.mpr c5
  clear c5
  by_cases c6:Bj = 0
  ·rw [if_pos c6] at H
   have Hb:(Bj == 0) = true:=beq_iff_eq.mpr c6
   have Ha:(Bj != 0) = false:=bne_eq_false_iff_eq.mpr c6
   clear c6
   obtain ⟨Fl,A7,H⟩:=bn_ H
   obtain rfl:=Option.some.inj H
   go_enter Tryz.func29,Tryz.ntmps29
   go_wp2_with (first|((with_reducible refine gate_dst (N:=1) rfl ?_);refine bv_ #[.int .i64 a0_0,.int .i64 a0_1,.int .i64 a0_2,.slice A0_3 l0_3.length c0_3,.slice A0_4 l0_4.length c0_4,.slice A0_5 l0_5.length c0_5,.string a0_6] 52 ?_;clear HB;intro Br hg w8 Ae Bu hb HB;clear hb hg;obtain ⟨Ga,Fz,Fy,Fx,Fw,Fv,Fu,Ft,Fs,Fr,Fq,Fp,Fo,Fm⟩:=c7_ Ae)|((with_reducible refine gate_callee (f:=13) rfl ?_);refine gm_ (some 10) Tryz.func13 #[.agg #[.int .i64 a0_0,.int .i64 a0_1,.int .i64 a0_2,.slice A0_3 l0_3.length c0_3,.slice A0_4 l0_4.length c0_4,.slice A0_5 l0_5.length c0_5]] ?_;(with_reducible refine (garboardref57_CopyEvent.calls a0_0 a0_1 a0_2 _ _ l0_3 _ _ l0_4 _ _ l0_5 Bi Bh Bg Ax Aw Av _ ?side1 ?side2 ?side3 ?side4 ?side5 ?side6 A2.out).mono ?_);(case side1=>exact cx_ (Kd.C_below Bn.out HB.out));(case side2=>exact Bq.out);(case side3=>exact cx_ (Kd.C_below Bm.out HB.out));(case side4=>exact Bp.out);(case side5=>exact cx_ (Kd.C_below Bl.out HB.out));(case side6=>exact Bo.out);rintro e Iw ⟨Ca,Bz,By,rfl,Be,Bd,Bc,hb⟩;refine ⟨_,rfl,?_⟩;have Ad:=Aside0.mk (Kd.R_lower Be (below_size bx_));have Ac:=Aside0.mk (Kd.R_lower Bd (below_size bx_));have Ab:=Aside0.mk (Kd.R_lower Bc (below_size bx_));replace Ae:=bb_ Ae hb;replace HB:=bs_ hb;(try clear hb);(try clear Be);(try clear Bd);(try clear Bc);obtain ⟨Ch,Ce,Gt⟩:=Kd.R_slice Ad.out;subst Gt;obtain ⟨Cg,Cc,Gs⟩:=Kd.R_slice Ac.out;subst Gs;obtain ⟨Cf,Cb,Gr⟩:=Kd.R_slice Ab.out;subst Gr)|((with_reducible refine gate_callee (f:=12) rfl ?_);refine gm_ (some 11) Tryz.func12 #[.agg #[.int .i64 Bi,.int .i64 Bh,.int .i64 Bg,.slice Ch Ax.length Ce,.slice Cg Aw.length Cc,.slice Cf Av.length Cb]] ?_;(with_reducible refine (record_Encode.calls k Bi Bh Bg _ _ Ax _ _ Aw _ _ Av Bf Bk _ ?side1 ?side2 ?side3 ?side4 ?side5 ?side6 ?side7 A3.out).mono ?_);(case side1=>exact cx_ ((Kd.R_reads' Ad.out).2.2));(case side2=>exact (Kd.R_reads' Ad.out).2.1);(case side3=>exact cx_ ((Kd.R_reads' Ac.out).2.2));(case side4=>exact (Kd.R_reads' Ac.out).2.1);(case side5=>exact cx_ ((Kd.R_reads' Ab.out).2.2));(case side6=>exact (Kd.R_reads' Ab.out).2.1);(case side7=>exact HLW.out.below bx_);rintro e Iv ⟨rfl,hb⟩;refine ⟨_,rfl,?_⟩;replace Ad:=rb_ Ad hb;replace Ac:=rb_ Ac hb;replace Ab:=rb_ Ab hb;replace Ae:=bb_ Ae hb;replace HB:=bs_ hb;(try clear hb))|((with_reducible refine gate_callee (f:=15) rfl ?_);refine gm_ (some 16) Tryz.func15 #[.string Bf] ?_;(with_reducible refine (record_Decode.calls k Bf Aq Ap Ao An Am Al Bj _ (HLW.out.below bx_) A4.out).mono ?_);rintro e Iu ⟨Bx,Bw,Bv,rfl,Be,Bd,Bc,hb⟩;refine ⟨_,rfl,?_⟩;have Ah:=Aside0.mk (Kd.R_lower (Kd.R_new' Be (Kd.R_lt (by (with_reducible repeat (first|apply Kd.R_alloc|apply Kd.R_drewN|apply Kd.R_drew));exact Ad.out))) (below_size bx_));have Ag:=Aside0.mk (Kd.R_lower (Kd.R_new' Bd (Kd.R_lt (by (with_reducible repeat (first|apply Kd.R_alloc|apply Kd.R_drewN|apply Kd.R_drew));exact Ac.out))) (below_size bx_));have Af:=Aside0.mk (Kd.R_lower (Kd.R_new' Bc (Kd.R_lt (by (with_reducible repeat (first|apply Kd.R_alloc|apply Kd.R_drewN|apply Kd.R_drew));exact Ab.out))) (below_size bx_));replace Ad:=Aside0.mk (Kd.R_elder' (by (with_reducible repeat (first|apply Kd.R_alloc|apply Kd.R_drewN|apply Kd.R_drew));exact Ad.out) (Kd.R_base Be) hb);replace Ac:=Aside0.mk (Kd.R_elder' (by (with_reducible repeat (first|apply Kd.R_alloc|apply Kd.R_drewN|apply Kd.R_drew));exact Ac.out) (Kd.R_base Bd) hb);replace Ab:=Aside0.mk (Kd.R_elder' (by (with_reducible repeat (first|apply Kd.R_alloc|apply Kd.R_drewN|apply Kd.R_drew));exact Ab.out) (Kd.R_base Bc) hb);replace Ae:=bb_ Ae hb;replace HB:=bs_ hb;(try clear hb);(try clear Be);(try clear Bd);(try clear Bc))|((with_reducible refine gate_dst (N:=5) rfl ?_);refine bv_ #[.int .i64 0,.int .i64 0,.int .i64 0,.slice none 0 0,.slice none 0 0,.slice none 0 0] 26 ?_;clear HB;intro Aa hg It Ai Bt hb HB;have x_:=ol_ Ae hg hb;clear Ae;obtain ⟨Ae,Ak,Aj⟩:=x_;replace Ad:=rb_ Ad hb;replace Ac:=rb_ Ac hb;replace Ab:=rb_ Ab hb;replace Ah:=rb_ Ah hb;replace Ag:=rb_ Ag hb;replace Af:=rb_ Af hb;clear hb hg;have Hq:=Aj.out;have Hn:=Ak.out;obtain ⟨Fk,Fj,Fi,Fh,Fg,Ff,Du,Dt,Ds,Dr,Dq,Dp⟩:=c6_ Ai;obtain ⟨Bb,Au,Gq⟩:=Kd.R_slice Ah.out;subst Gq;obtain ⟨Ba,At,Gp⟩:=Kd.R_slice Ag.out;subst Gp;obtain ⟨Ay,As,Gn⟩:=Kd.R_slice Af.out;subst Gn;obtain ⟨Fe,Fd,Fc,Fb,Fa,Ez,Ey,Do,Dn,Dm,Dl,Dk,Dj,Di⟩:=c7_ Ae)|(go_at_call 17;(with_reducible refine (garboardref57_SameEvent.calls k a0_0 a0_1 a0_2 _ _ l0_3 _ _ l0_4 _ _ l0_5 Aq Ap Ao _ _ An _ _ Am _ _ Al Fl _ ?side1 ?side2 ?side3 ?side4 ?side5 ?side6 ?side7 ?side8 ?side9 ?side10 ?side11 ?side12 A7.out).mono ?_);(case side1=>exact Kd.C_below Bn.out bx_);(case side2=>exact Bq.out);(case side3=>exact Kd.C_below Bm.out bx_);(case side4=>exact Bp.out);(case side5=>exact Kd.C_below Bl.out bx_);(case side6=>exact Bo.out);(case side7=>refine (Kd.R_reads' (e:=3) (base:=w.heap.size) (ok:=fun k_=>(True∧some k_≠(.slice Ch Ax.length Ce:Value).ownBlock)) (n:=An.length) (c:=Au) ?_).2.2;exact (by (with_reducible repeat (first|apply Kd.R_alloc|apply Kd.R_drewN|apply Kd.R_drew));exact (Kd.R_mono (Kd.R_far (p:=⟨Aa,5,none⟩) (Kd.R_far (p:=⟨Aa,4,none⟩) (Kd.R_far (p:=⟨Aa,3,none⟩) (Kd.R_far (p:=⟨Aa,2,none⟩) (Kd.R_far (p:=⟨Aa,1,none⟩) (Kd.R_far (p:=⟨Aa,0,none⟩) (Kd.R_types Ah.out Ai.out de_) (fun _ hk=>hk.2) (.int .i64 Aq)) (fun _ hk=>hk.2) (.int .i64 Ap)) (fun _ hk=>hk.2) (.int .i64 Ao)) (fun _ hk=>hk.2) (.slice Bb An.length Au)) (fun _ hk=>hk.2) (.slice Ba Am.length At)) (fun _ hk=>hk.2) (.slice Ay Al.length As)) (fun _ h_=>h_.1))));(case side8=>exact (Kd.R_reads' Ah.out).2.1);(case side9=>refine (Kd.R_reads' (e:=65) (base:=w.heap.size) (ok:=fun k_=>(True∧some k_≠(.slice Cg Aw.length Cc:Value).ownBlock)) (n:=Am.length) (c:=At) ?_).2.2;exact (by (with_reducible repeat (first|apply Kd.R_alloc|apply Kd.R_drewN|apply Kd.R_drew));exact (Kd.R_mono (Kd.R_far (p:=⟨Aa,5,none⟩) (Kd.R_far (p:=⟨Aa,4,none⟩) (Kd.R_far (p:=⟨Aa,3,none⟩) (Kd.R_far (p:=⟨Aa,2,none⟩) (Kd.R_far (p:=⟨Aa,1,none⟩) (Kd.R_far (p:=⟨Aa,0,none⟩) (Kd.R_types Ag.out Ai.out de_) (fun _ hk=>hk.2) (.int .i64 Aq)) (fun _ hk=>hk.2) (.int .i64 Ap)) (fun _ hk=>hk.2) (.int .i64 Ao)) (fun _ hk=>hk.2) (.slice Bb An.length Au)) (fun _ hk=>hk.2) (.slice Ba Am.length At)) (fun _ hk=>hk.2) (.slice Ay Al.length As)) (fun _ h_=>h_.1))));(case side10=>exact (Kd.R_reads' Ag.out).2.1);(case side11=>refine (Kd.R_reads' (e:=9) (base:=w.heap.size) (ok:=fun k_=>(True∧some k_≠(.slice Cf Av.length Cb:Value).ownBlock)) (n:=Al.length) (c:=As) ?_).2.2;exact (by (with_reducible repeat (first|apply Kd.R_alloc|apply Kd.R_drewN|apply Kd.R_drew));exact (Kd.R_mono (Kd.R_far (p:=⟨Aa,5,none⟩) (Kd.R_far (p:=⟨Aa,4,none⟩) (Kd.R_far (p:=⟨Aa,3,none⟩) (Kd.R_far (p:=⟨Aa,2,none⟩) (Kd.R_far (p:=⟨Aa,1,none⟩) (Kd.R_far (p:=⟨Aa,0,none⟩) (Kd.R_types Af.out Ai.out de_) (fun _ hk=>hk.2) (.int .i64 Aq)) (fun _ hk=>hk.2) (.int .i64 Ap)) (fun _ hk=>hk.2) (.int .i64 Ao)) (fun _ hk=>hk.2) (.slice Bb An.length Au)) (fun _ hk=>hk.2) (.slice Ba Am.length At)) (fun _ hk=>hk.2) (.slice Ay Al.length As)) (fun _ h_=>h_.1))));(case side12=>exact (Kd.R_reads' Af.out).2.1);rintro e Ir ⟨rfl,hb⟩;replace Ad:=Aside0.mk (Kd.R_below (by (with_reducible repeat (first|apply Kd.R_alloc|apply Kd.R_drewN|apply Kd.R_drew));exact (Kd.R_mono (Kd.R_far (p:=⟨Aa,5,none⟩) (Kd.R_far (p:=⟨Aa,4,none⟩) (Kd.R_far (p:=⟨Aa,3,none⟩) (Kd.R_far (p:=⟨Aa,2,none⟩) (Kd.R_far (p:=⟨Aa,1,none⟩) (Kd.R_far (p:=⟨Aa,0,none⟩) (Kd.R_types Ad.out Ai.out de_) (fun _ hk=>hk.2) (.int .i64 Aq)) (fun _ hk=>hk.2) (.int .i64 Ap)) (fun _ hk=>hk.2) (.int .i64 Ao)) (fun _ hk=>hk.2) (.slice Bb An.length Au)) (fun _ hk=>hk.2) (.slice Ba Am.length At)) (fun _ hk=>hk.2) (.slice Ay Al.length As)) (fun _ h_=>h_.1))) hb);replace Ac:=Aside0.mk (Kd.R_below (by (with_reducible repeat (first|apply Kd.R_alloc|apply Kd.R_drewN|apply Kd.R_drew));exact (Kd.R_mono (Kd.R_far (p:=⟨Aa,5,none⟩) (Kd.R_far (p:=⟨Aa,4,none⟩) (Kd.R_far (p:=⟨Aa,3,none⟩) (Kd.R_far (p:=⟨Aa,2,none⟩) (Kd.R_far (p:=⟨Aa,1,none⟩) (Kd.R_far (p:=⟨Aa,0,none⟩) (Kd.R_types Ac.out Ai.out de_) (fun _ hk=>hk.2) (.int .i64 Aq)) (fun _ hk=>hk.2) (.int .i64 Ap)) (fun _ hk=>hk.2) (.int .i64 Ao)) (fun _ hk=>hk.2) (.slice Bb An.length Au)) (fun _ hk=>hk.2) (.slice Ba Am.length At)) (fun _ hk=>hk.2) (.slice Ay Al.length As)) (fun _ h_=>h_.1))) hb);replace Ab:=Aside0.mk (Kd.R_below (by (with_reducible repeat (first|apply Kd.R_alloc|apply Kd.R_drewN|apply Kd.R_drew));exact (Kd.R_mono (Kd.R_far (p:=⟨Aa,5,none⟩) (Kd.R_far (p:=⟨Aa,4,none⟩) (Kd.R_far (p:=⟨Aa,3,none⟩) (Kd.R_far (p:=⟨Aa,2,none⟩) (Kd.R_far (p:=⟨Aa,1,none⟩) (Kd.R_far (p:=⟨Aa,0,none⟩) (Kd.R_types Ab.out Ai.out de_) (fun _ hk=>hk.2) (.int .i64 Aq)) (fun _ hk=>hk.2) (.int .i64 Ap)) (fun _ hk=>hk.2) (.int .i64 Ao)) (fun _ hk=>hk.2) (.slice Bb An.length Au)) (fun _ hk=>hk.2) (.slice Ba Am.length At)) (fun _ hk=>hk.2) (.slice Ay Al.length As)) (fun _ h_=>h_.1))) hb);replace Ah:=Aside0.mk (Kd.R_below (by (with_reducible repeat (first|apply Kd.R_alloc|apply Kd.R_drewN|apply Kd.R_drew));exact (Kd.R_mono (Kd.R_far (p:=⟨Aa,5,none⟩) (Kd.R_far (p:=⟨Aa,4,none⟩) (Kd.R_far (p:=⟨Aa,3,none⟩) (Kd.R_far (p:=⟨Aa,2,none⟩) (Kd.R_far (p:=⟨Aa,1,none⟩) (Kd.R_far (p:=⟨Aa,0,none⟩) (Kd.R_types Ah.out Ai.out de_) (fun _ hk=>hk.2) (.int .i64 Aq)) (fun _ hk=>hk.2) (.int .i64 Ap)) (fun _ hk=>hk.2) (.int .i64 Ao)) (fun _ hk=>hk.2) (.slice Bb An.length Au)) (fun _ hk=>hk.2) (.slice Ba Am.length At)) (fun _ hk=>hk.2) (.slice Ay Al.length As)) (fun _ h_=>h_.1))) hb);replace Ag:=Aside0.mk (Kd.R_below (by (with_reducible repeat (first|apply Kd.R_alloc|apply Kd.R_drewN|apply Kd.R_drew));exact (Kd.R_mono (Kd.R_far (p:=⟨Aa,5,none⟩) (Kd.R_far (p:=⟨Aa,4,none⟩) (Kd.R_far (p:=⟨Aa,3,none⟩) (Kd.R_far (p:=⟨Aa,2,none⟩) (Kd.R_far (p:=⟨Aa,1,none⟩) (Kd.R_far (p:=⟨Aa,0,none⟩) (Kd.R_types Ag.out Ai.out de_) (fun _ hk=>hk.2) (.int .i64 Aq)) (fun _ hk=>hk.2) (.int .i64 Ap)) (fun _ hk=>hk.2) (.int .i64 Ao)) (fun _ hk=>hk.2) (.slice Bb An.length Au)) (fun _ hk=>hk.2) (.slice Ba Am.length At)) (fun _ hk=>hk.2) (.slice Ay Al.length As)) (fun _ h_=>h_.1))) hb);replace Af:=Aside0.mk (Kd.R_below (by (with_reducible repeat (first|apply Kd.R_alloc|apply Kd.R_drewN|apply Kd.R_drew));exact (Kd.R_mono (Kd.R_far (p:=⟨Aa,5,none⟩) (Kd.R_far (p:=⟨Aa,4,none⟩) (Kd.R_far (p:=⟨Aa,3,none⟩) (Kd.R_far (p:=⟨Aa,2,none⟩) (Kd.R_far (p:=⟨Aa,1,none⟩) (Kd.R_far (p:=⟨Aa,0,none⟩) (Kd.R_types Af.out Ai.out de_) (fun _ hk=>hk.2) (.int .i64 Aq)) (fun _ hk=>hk.2) (.int .i64 Ap)) (fun _ hk=>hk.2) (.int .i64 Ao)) (fun _ hk=>hk.2) (.slice Bb An.length Au)) (fun _ hk=>hk.2) (.slice Ba Am.length At)) (fun _ hk=>hk.2) (.slice Ay Al.length As)) (fun _ h_=>h_.1))) hb);replace Ae:=Aside0.mk (blk_below (g:=Br) (o:=.cells #[.int .i64 a0_0,.int .i64 a0_1,.int .i64 a0_2,.slice A0_3 l0_3.length c0_3,.slice A0_4 l0_4.length c0_4,.slice A0_5 l0_5.length c0_5,.string a0_6] 52 (0,0)) bk_ hb);replace Ai:=Aside0.mk (blk_below (g:=Aa) (o:=.cells #[.int .i64 Aq,.int .i64 Ap,.int .i64 Ao,.slice Bb An.length Au,.slice Ba Am.length At,.slice Ay Al.length As] 26 (0,0)) bk_ hb);replace HB:=bs_ hb;(try clear hb)))
   go_ret
   exact ⟨rf_,bx_⟩
  ·rw [if_neg c6] at H
   have Hb:(Bj == 0) = false:=beq_eq_false_iff_ne.mpr c6
   have Ha:(Bj != 0) = true:=bne_iff_ne.mpr c6
   obtain rfl:=Option.some.inj H
   go_enter Tryz.func29,Tryz.ntmps29
   go_wp2_with (first|((with_reducible refine gate_dst (N:=1) rfl ?_);refine bv_ #[.int .i64 a0_0,.int .i64 a0_1,.int .i64 a0_2,.slice A0_3 l0_3.length c0_3,.slice A0_4 l0_4.length c0_4,.slice A0_5 l0_5.length c0_5,.string a0_6] 52 ?_;clear HB;intro Br hg Iq Ae Bu hb HB;clear hb hg;obtain ⟨Ex,Ew,Eu,Et,Es,Er,Ep,Dh,Dg,Df,De,Dd,Dc,Db⟩:=c7_ Ae)|((with_reducible refine gate_callee (f:=13) rfl ?_);refine gm_ (some 10) Tryz.func13 #[.agg #[.int .i64 a0_0,.int .i64 a0_1,.int .i64 a0_2,.slice A0_3 l0_3.length c0_3,.slice A0_4 l0_4.length c0_4,.slice A0_5 l0_5.length c0_5]] ?_;(with_reducible refine (garboardref57_CopyEvent.calls a0_0 a0_1 a0_2 _ _ l0_3 _ _ l0_4 _ _ l0_5 Bi Bh Bg Ax Aw Av _ ?side1 ?side2 ?side3 ?side4 ?side5 ?side6 A2.out).mono ?_);(case side1=>exact cx_ (Kd.C_below Bn.out HB.out));(case side2=>exact Bq.out);(case side3=>exact cx_ (Kd.C_below Bm.out HB.out));(case side4=>exact Bp.out);(case side5=>exact cx_ (Kd.C_below Bl.out HB.out));(case side6=>exact Bo.out);rintro e Ip ⟨Ca,Bz,By,rfl,Be,Bd,Bc,hb⟩;refine ⟨_,rfl,?_⟩;have Ad:=Aside0.mk (Kd.R_lower Be (below_size bx_));have Ac:=Aside0.mk (Kd.R_lower Bd (below_size bx_));have Ab:=Aside0.mk (Kd.R_lower Bc (below_size bx_));replace Ae:=bb_ Ae hb;replace HB:=bs_ hb;(try clear hb);(try clear Be);(try clear Bd);(try clear Bc);obtain ⟨Hk,Gz,Gm⟩:=Kd.R_slice Ad.out;subst Gm;obtain ⟨Hj,Gy,Gl⟩:=Kd.R_slice Ac.out;subst Gl;obtain ⟨Hi,Gx,Gk⟩:=Kd.R_slice Ab.out;subst Gk)|((with_reducible refine gate_callee (f:=12) rfl ?_);refine gm_ (some 11) Tryz.func12 #[.agg #[.int .i64 Bi,.int .i64 Bh,.int .i64 Bg,.slice Hk Ax.length Gz,.slice Hj Aw.length Gy,.slice Hi Av.length Gx]] ?_;(with_reducible refine (record_Encode.calls k Bi Bh Bg _ _ Ax _ _ Aw _ _ Av Bf Bk _ ?side1 ?side2 ?side3 ?side4 ?side5 ?side6 ?side7 A3.out).mono ?_);(case side1=>exact cx_ ((Kd.R_reads' Ad.out).2.2));(case side2=>exact (Kd.R_reads' Ad.out).2.1);(case side3=>exact cx_ ((Kd.R_reads' Ac.out).2.2));(case side4=>exact (Kd.R_reads' Ac.out).2.1);(case side5=>exact cx_ ((Kd.R_reads' Ab.out).2.2));(case side6=>exact (Kd.R_reads' Ab.out).2.1);(case side7=>exact HLW.out.below bx_);rintro e Io ⟨rfl,hb⟩;refine ⟨_,rfl,?_⟩;replace Ad:=rb_ Ad hb;replace Ac:=rb_ Ac hb;replace Ab:=rb_ Ab hb;replace Ae:=bb_ Ae hb;replace HB:=bs_ hb;(try clear hb))|((with_reducible refine gate_callee (f:=15) rfl ?_);refine gm_ (some 16) Tryz.func15 #[.string Bf] ?_;(with_reducible refine (record_Decode.calls k Bf Aq Ap Ao An Am Al Bj _ (HLW.out.below bx_) A4.out).mono ?_);rintro e Im ⟨Bx,Bw,Bv,rfl,Be,Bd,Bc,hb⟩;refine ⟨_,rfl,?_⟩;have Ah:=Aside0.mk (Kd.R_lower (Kd.R_new' Be (Kd.R_lt (by (with_reducible repeat (first|apply Kd.R_alloc|apply Kd.R_drewN|apply Kd.R_drew));exact Ad.out))) (below_size bx_));have Ag:=Aside0.mk (Kd.R_lower (Kd.R_new' Bd (Kd.R_lt (by (with_reducible repeat (first|apply Kd.R_alloc|apply Kd.R_drewN|apply Kd.R_drew));exact Ac.out))) (below_size bx_));have Af:=Aside0.mk (Kd.R_lower (Kd.R_new' Bc (Kd.R_lt (by (with_reducible repeat (first|apply Kd.R_alloc|apply Kd.R_drewN|apply Kd.R_drew));exact Ab.out))) (below_size bx_));replace Ad:=Aside0.mk (Kd.R_elder' (by (with_reducible repeat (first|apply Kd.R_alloc|apply Kd.R_drewN|apply Kd.R_drew));exact Ad.out) (Kd.R_base Be) hb);replace Ac:=Aside0.mk (Kd.R_elder' (by (with_reducible repeat (first|apply Kd.R_alloc|apply Kd.R_drewN|apply Kd.R_drew));exact Ac.out) (Kd.R_base Bd) hb);replace Ab:=Aside0.mk (Kd.R_elder' (by (with_reducible repeat (first|apply Kd.R_alloc|apply Kd.R_drewN|apply Kd.R_drew));exact Ab.out) (Kd.R_base Bc) hb);replace Ae:=bb_ Ae hb;replace HB:=bs_ hb;(try clear hb);(try clear Be);(try clear Bd);(try clear Bc))|((with_reducible refine gate_dst (N:=5) rfl ?_);refine bv_ #[.int .i64 0,.int .i64 0,.int .i64 0,.slice none 0 0,.slice none 0 0,.slice none 0 0] 26 ?_;clear HB;intro Aa hg Il Ai Bt hb HB;have x_:=ol_ Ae hg hb;clear Ae;obtain ⟨Ae,Ak,Aj⟩:=x_;replace Ad:=rb_ Ad hb;replace Ac:=rb_ Ac hb;replace Ab:=rb_ Ab hb;replace Ah:=rb_ Ah hb;replace Ag:=rb_ Ag hb;replace Af:=rb_ Af hb;clear hb hg;have Hp:=Aj.out;have Hm:=Ak.out;obtain ⟨Eo,Em,El,Ek,Ej,Ei,Da,Cz,Cy,Cx,Cw,Cv⟩:=c6_ Ai;obtain ⟨Ie,Hy,Gj⟩:=Kd.R_slice Ah.out;subst Gj;obtain ⟨Id,Hx,Gi⟩:=Kd.R_slice Ag.out;subst Gi;obtain ⟨Ic,Hw,Gh⟩:=Kd.R_slice Af.out;subst Gh))
   go_ret
   exact ⟨rf_,bx_⟩
 ·rw [if_neg c5] at H
  have He:(Bk == 0) = false:=beq_eq_false_iff_ne.mpr c5
  have Hd:(Bk != 0) = true:=bne_iff_ne.mpr c5
  obtain rfl:=Option.some.inj H
  go_enter Tryz.func29,Tryz.ntmps29
  go_wp2_with (first|((with_reducible refine gate_dst (N:=1) rfl ?_);refine bv_ #[.int .i64 a0_0,.int .i64 a0_1,.int .i64 a0_2,.slice A0_3 l0_3.length c0_3,.slice A0_4 l0_4.length c0_4,.slice A0_5 l0_5.length c0_5,.string a0_6] 52 ?_;clear HB;intro Br hg Ik Ae Bu hb HB;clear hb hg;obtain ⟨Eh,Eg,Ef,Ee,Ed,Ec,Eb,Cu,Ct,Cs,Cr,Cq,Cp,Co⟩:=c7_ Ae)|((with_reducible refine gate_callee (f:=13) rfl ?_);refine gm_ (some 10) Tryz.func13 #[.agg #[.int .i64 a0_0,.int .i64 a0_1,.int .i64 a0_2,.slice A0_3 l0_3.length c0_3,.slice A0_4 l0_4.length c0_4,.slice A0_5 l0_5.length c0_5]] ?_;(with_reducible refine (garboardref57_CopyEvent.calls a0_0 a0_1 a0_2 _ _ l0_3 _ _ l0_4 _ _ l0_5 Bi Bh Bg Ax Aw Av _ ?side1 ?side2 ?side3 ?side4 ?side5 ?side6 A2.out).mono ?_);(case side1=>exact cx_ (Kd.C_below Bn.out HB.out));(case side2=>exact Bq.out);(case side3=>exact cx_ (Kd.C_below Bm.out HB.out));(case side4=>exact Bp.out);(case side5=>exact cx_ (Kd.C_below Bl.out HB.out));(case side6=>exact Bo.out);rintro e Ij ⟨Ca,Bz,By,rfl,Be,Bd,Bc,hb⟩;refine ⟨_,rfl,?_⟩;have Ad:=Aside0.mk (Kd.R_lower Be (below_size bx_));have Ac:=Aside0.mk (Kd.R_lower Bd (below_size bx_));have Ab:=Aside0.mk (Kd.R_lower Bc (below_size bx_));replace Ae:=bb_ Ae hb;replace HB:=bs_ hb;(try clear hb);(try clear Be);(try clear Bd);(try clear Bc);obtain ⟨Hh,Gw,Gg⟩:=Kd.R_slice Ad.out;subst Gg;obtain ⟨Hg,Gv,Gf⟩:=Kd.R_slice Ac.out;subst Gf;obtain ⟨Hf,Gu,Ge⟩:=Kd.R_slice Ab.out;subst Ge)|((with_reducible refine gate_callee (f:=12) rfl ?_);refine gm_ (some 11) Tryz.func12 #[.agg #[.int .i64 Bi,.int .i64 Bh,.int .i64 Bg,.slice Hh Ax.length Gw,.slice Hg Aw.length Gv,.slice Hf Av.length Gu]] ?_;(with_reducible refine (record_Encode.calls k Bi Bh Bg _ _ Ax _ _ Aw _ _ Av Bf Bk _ ?side1 ?side2 ?side3 ?side4 ?side5 ?side6 ?side7 A3.out).mono ?_);(case side1=>exact cx_ ((Kd.R_reads' Ad.out).2.2));(case side2=>exact (Kd.R_reads' Ad.out).2.1);(case side3=>exact cx_ ((Kd.R_reads' Ac.out).2.2));(case side4=>exact (Kd.R_reads' Ac.out).2.1);(case side5=>exact cx_ ((Kd.R_reads' Ab.out).2.2));(case side6=>exact (Kd.R_reads' Ab.out).2.1);(case side7=>exact HLW.out.below bx_);rintro e Ii ⟨rfl,hb⟩;refine ⟨_,rfl,?_⟩;replace Ad:=rb_ Ad hb;replace Ac:=rb_ Ac hb;replace Ab:=rb_ Ab hb;replace Ae:=bb_ Ae hb;replace HB:=bs_ hb;(try clear hb))|((with_reducible refine gate_callee (f:=15) rfl ?_);refine gm_ (some 16) Tryz.func15 #[.string Bf] ?_;(with_reducible refine (record_Decode.calls k Bf Aq Ap Ao An Am Al Bj _ (HLW.out.below bx_) A4.out).mono ?_);rintro e Ih ⟨Bx,Bw,Bv,rfl,Be,Bd,Bc,hb⟩;refine ⟨_,rfl,?_⟩;have Ah:=Aside0.mk (Kd.R_lower (Kd.R_new' Be (Kd.R_lt (by (with_reducible repeat (first|apply Kd.R_alloc|apply Kd.R_drewN|apply Kd.R_drew));exact Ad.out))) (below_size bx_));have Ag:=Aside0.mk (Kd.R_lower (Kd.R_new' Bd (Kd.R_lt (by (with_reducible repeat (first|apply Kd.R_alloc|apply Kd.R_drewN|apply Kd.R_drew));exact Ac.out))) (below_size bx_));have Af:=Aside0.mk (Kd.R_lower (Kd.R_new' Bc (Kd.R_lt (by (with_reducible repeat (first|apply Kd.R_alloc|apply Kd.R_drewN|apply Kd.R_drew));exact Ab.out))) (below_size bx_));replace Ad:=Aside0.mk (Kd.R_elder' (by (with_reducible repeat (first|apply Kd.R_alloc|apply Kd.R_drewN|apply Kd.R_drew));exact Ad.out) (Kd.R_base Be) hb);replace Ac:=Aside0.mk (Kd.R_elder' (by (with_reducible repeat (first|apply Kd.R_alloc|apply Kd.R_drewN|apply Kd.R_drew));exact Ac.out) (Kd.R_base Bd) hb);replace Ab:=Aside0.mk (Kd.R_elder' (by (with_reducible repeat (first|apply Kd.R_alloc|apply Kd.R_drewN|apply Kd.R_drew));exact Ab.out) (Kd.R_base Bc) hb);replace Ae:=bb_ Ae hb;replace HB:=bs_ hb;(try clear hb);(try clear Be);(try clear Bd);(try clear Bc))|((with_reducible refine gate_dst (N:=5) rfl ?_);refine bv_ #[.int .i64 0,.int .i64 0,.int .i64 0,.slice none 0 0,.slice none 0 0,.slice none 0 0] 26 ?_;clear HB;intro Aa hg Ig Ai Bt hb HB;have x_:=ol_ Ae hg hb;clear Ae;obtain ⟨Ae,Ak,Aj⟩:=x_;replace Ad:=rb_ Ad hb;replace Ac:=rb_ Ac hb;replace Ab:=rb_ Ab hb;replace Ah:=rb_ Ah hb;replace Ag:=rb_ Ag hb;replace Af:=rb_ Af hb;clear hb hg;have Ho:=Aj.out;have Hl:=Ak.out;obtain ⟨Ea,Dz,Dy,Dx,Dw,Dv,Cn,Cm,Cl,Ck,Cj,Ci⟩:=c6_ Ai;obtain ⟨Ib,Hv,Gd⟩:=Kd.R_slice Ah.out;subst Gd;obtain ⟨Ia,Hu,Gc⟩:=Kd.R_slice Ag.out;subst Gc;obtain ⟨Hz,Ht,Gb⟩:=Kd.R_slice Af.out;subst Gb))
  go_ret
  exact ⟨rf_,bx_⟩
set_option maxRecDepth 100000
def cl29 (k:Nat) (x:S52):Option Bool:=garboardlaw57_RecordReturns_1.f k x.f0.f0 x.f0.f1 x.f0.f2 x.f0.f3 x.f0.f4 x.f0.f5 x.f1
def api_Entry_28.f (k:Nat) (l:List S52):Option Bool:=if l.all (fun x=>(cl29 k x).isSome) = true then some (l.any fun x=>cl29 k x == some true) else none
theorem api_Entry_28.calls (k:Nat) (A0:Option Addr) (c0:Nat) (l0:List S52) (r:Bool) (w:World) (hr0:Kd.C k52 w A0 l0.length l0) (hc0:l0.length≤c0) (hL:LaidW w) (h:api_Entry_28.f k l0 = some r) :
  Calls Tryz.prog 28 #[.slice A0 l0.length c0,.func (.func 29) #[] #[]] w fun e w'=>e = .returned (.bool r)∧Below w.heap.size w w':=by
 unfold api_Entry_28.f at h
 by_cases hc:l0.all (fun x=>(cl29 k x).isSome) = true
 ·rw [if_pos hc] at h
  obtain rfl:=Option.some.inj h
  refine hasT52 _ 29 (enters_of Tryz.func29 (by kernel_rfl) rfl) A0 c0 l0 w hr0 fun W x hx hb A3 c3 A4 c4 A5 c5 l3 h3 l4 h4 l5 h5=>?_
  obtain ⟨b,hv⟩:=Option.isSome_iff_exists.1 (List.all_eq_true.1 hc x hx)
  have e:(cl29 k x == some true) = b:=by rw [hv];cases b<;>rfl
  rw [e]
  exact (garboardlaw57_RecordReturns_1.calls k x.f0.f0 x.f0.f1 x.f0.f2 A3 c3 x.f0.f3 A4 c4 x.f0.f4 A5 c5 x.f0.f5 x.f1 b W h3 l3 h4 l4 h5 l5 (hL.below hb) hv).mono fun e' W' ⟨h1,h2⟩=>⟨h1,below_step hb h2⟩
 ·rw [if_neg hc] at h
  cases h
set_option maxHeartbeats 8000000
set_option maxRecDepth 100000
def garboardlaw57_RecordReturns.f (k:Nat) (l0:List (S26)):Option (Bool):=(garboardlaw57_awake.f k).bind fun t490=>(if t490 = true then ((garboardlaw57_few.f k l0).bind fun t491=>(if t491 = true then ((garboardlaw57_chain.f k l0).bind fun t492=>((garboardref57_Copy.f k t492).bind fun t495=>((record_Check.f k t495).bind fun bt498=>((garboardref57_Copy.f k t492).bind fun t500=>((record_Write.f k t500).bind fun bt503=>((record_Recover.f k bt503.1).bind fun bt505=>(if bt498.1 = (-1) then (if bt498.2 = 0 then (if bt503.2 = 0 then (if bt505.2 = (bt503.1.size:Int) then ((garboardref57_Same.f k bt505.1 t492).bind fun t509=>(if t509 = true then ((api_Entry_28.f k t492).bind fun t510=>(some (!t510))) else (some false))) else (some false)) else (some false)) else (some false)) else (some false)))))))) else (some true))) else (some false))
theorem garboardlaw57_RecordReturns.calls (k:Nat) (A0:Option Addr) (c0:Nat) (l0:List (S26)) (r:Bool) (w:World) (hr0:Kd.C k26 w A0 l0.length l0) (hc0:l0.length≤c0) (hL:LaidW w) (h:garboardlaw57_RecordReturns.f k l0 = some r) (hr:r = true) :
  Calls Tryz.prog 5 #[.slice A0 l0.length c0] w fun e w'=>e = .returned (.bool r)∧Below w.heap.size w w':=by
 have Bt:=Aside0.mk hr0
 have Bu:=Aside0.mk hc0
 clear hr0 hc0
 have HB:=Aside0.mk (Below.refl w.heap.size w)
 have HLW:=Aside0.mk hL
 clear hL
 have HRT:=Aside0.mk (hr)
 clear hr
 have H:=h;clear h;unfold garboardlaw57_RecordReturns.f at H
 obtain ⟨Bl,A2,H⟩:=bn_ H
 by_cases c3:Bl = true
 ·subst c3
  have H1:((garboardlaw57_few.f k l0).bind fun At=>(if At = true then ((garboardlaw57_chain.f k l0).bind fun Ad=>((garboardref57_Copy.f k Ad).bind fun Am=>((record_Check.f k Am).bind fun Aj=>((garboardref57_Copy.f k Ad).bind fun Al=>((record_Write.f k Al).bind fun Ae=>((record_Recover.f k Ae.1).bind fun Ai=>(if Aj.1 = (-1) then (if Aj.2 = 0 then (if Ae.2 = 0 then (if Ai.2 = (Ae.1.size:Int) then ((garboardref57_Same.f k Ai.1 Ad).bind fun As=>(if As = true then ((api_Entry_28.f k Ad).bind fun Ak=>(some (!Ak))) else (some false))) else (some false)) else (some false)) else (some false)) else (some false)))))))) else (some true))) = some r:=by rw [if_pos rfl] at H;exact H
  clear H
  have H:=H1
  clear H1
  obtain ⟨At,A4,H⟩:=bn_ H
  by_cases c5:At = true
  ·subst c5
   have H1:((garboardlaw57_chain.f k l0).bind fun Ad=>((garboardref57_Copy.f k Ad).bind fun Am=>((record_Check.f k Am).bind fun Aj=>((garboardref57_Copy.f k Ad).bind fun Al=>((record_Write.f k Al).bind fun Ae=>((record_Recover.f k Ae.1).bind fun Ai=>(if Aj.1 = (-1) then (if Aj.2 = 0 then (if Ae.2 = 0 then (if Ai.2 = (Ae.1.size:Int) then ((garboardref57_Same.f k Ai.1 Ad).bind fun As=>(if As = true then ((api_Entry_28.f k Ad).bind fun Ak=>(some (!Ak))) else (some false))) else (some false)) else (some false)) else (some false)) else (some false)))))))) = some r:=by rw [if_pos rfl] at H;exact H
   clear H
   have H:=H1
   clear H1
   obtain ⟨Ad,A6,H⟩:=bn_ H
   obtain ⟨Am,A7,H⟩:=bn_ H
   obtain ⟨⟨Aq,Ap⟩,A8,H⟩:=bn_ H
   dsimp only at H
   obtain ⟨Al,A9,H⟩:=bn_ H
   obtain ⟨⟨Ag,Ao⟩,Ch,H⟩:=bn_ H
   dsimp only at H
   obtain ⟨⟨Ay,An⟩,Cg,H⟩:=bn_ H
   dsimp only at H
   by_cases Ax:Aq = (-1)
   ·rw [if_pos Ax] at H
    have Bi:(Aq == (-1)) = true:=beq_iff_eq.mpr Ax
    have Bh:(Aq != (-1)) = false:=bne_eq_false_iff_eq.mpr Ax
    clear Ax
    by_cases Aw:Ap = 0
    ·rw [if_pos Aw] at H
     have Bg:(Ap == 0) = true:=beq_iff_eq.mpr Aw
     have Bf:(Ap != 0) = false:=bne_eq_false_iff_eq.mpr Aw
     clear Aw
     by_cases Av:Ao = 0
     ·rw [if_pos Av] at H
      have Be:(Ao == 0) = true:=beq_iff_eq.mpr Av
      have Bd:(Ao != 0) = false:=bne_eq_false_iff_eq.mpr Av
      clear Av
      by_cases Au:An = (Ag.size:Int)
      ·rw [if_pos Au] at H
       have Bc:(An == (Ag.size:Int)) = true:=beq_iff_eq.mpr Au
       have Bb:(An != (Ag.size:Int)) = false:=bne_eq_false_iff_eq.mpr Au
       clear Au
       obtain ⟨As,Cf,H⟩:=bn_ H
       by_cases Bk:As = true
       ·subst Bk
        have H1:((api_Entry_28.f k Ad).bind fun Ak=>(some (!Ak))) = some r:=by rw [if_pos rfl] at H;exact H
        clear H
        have H:=H1
        clear H1
        obtain ⟨Ak,Ce,H⟩:=bn_ H
        obtain rfl:=Option.some.inj H
        go_enter Tryz.func5,Tryz.ntmps5
        go_wp2_with (first|((with_reducible refine gate_callee (f:=10) rfl ?_);refine gl_ (some 10) Tryz.func10 #[] (garboardlaw57_awake.calls k  true _ (HLW.out.below bx_) A2.out) ?_;clear HB;intro Ct hb HB;clear hb)|((with_reducible refine gate_callee (f:=25) rfl ?_);refine gm_ (some 13) Tryz.func25 #[.slice A0 l0.length c0] ?_;(with_reducible refine (garboardlaw57_few.calls k _ _ l0 true _ ?side1 ?side2 A4.out).mono ?_);(case side1=>exact cx_ (Kd.C_below Bt.out HB.out));(case side2=>exact Bu.out);rintro e Cs ⟨rfl,hb⟩;refine ⟨_,rfl,?_⟩;replace HB:=bs_ hb;(try clear hb))|((with_reducible refine gate_callee (f:=26) rfl ?_);refine gm_ (some 16) Tryz.func26 #[.slice A0 l0.length c0] ?_;(with_reducible refine (garboardlaw57_chain.calls k _ _ l0 Ad _ ?side1 ?side2 ?side3 A6.out).mono ?_);(case side1=>exact cx_ (Kd.C_below Bt.out HB.out));(case side2=>exact Bu.out);(case side3=>exact HLW.out.below bx_);rintro e Cr ⟨Ca,rfl,Ah,hb⟩;refine ⟨_,rfl,?_⟩;have Aa:=Aside0.mk (Kd.S_lower Ah (below_size bx_));replace HB:=bs_ hb;(try clear hb);(try clear Ah);obtain ⟨Bj,Ba,Bp⟩:=Kd.S_slice Aa.out;subst Bp)|((with_reducible refine gate_callee (f:=20) rfl ?_);refine gm_ (some 19) Tryz.func20 #[.slice Bj Ad.length Ba] ?_;(with_reducible refine (garboardref57_Copy.calls k _ _ Ad Am _ ?side1 ?side2 A7.out).mono ?_);(case side1=>exact cx_ ((Kd.S_reads' Aa.out).2.2));(case side2=>exact (Kd.S_reads' Aa.out).2.1);rintro e Cq ⟨Bz,rfl,Ah,hb⟩;refine ⟨_,rfl,?_⟩;have Ab:=Aside0.mk (Kd.S_lower (Kd.S_new' Ah (Kd.S_lt (by (with_reducible repeat (first|apply Kd.S_alloc|apply Kd.S_drewN|apply Kd.S_drew));exact Aa.out))) (below_size bx_));replace Aa:=Aside0.mk (Kd.S_elder' (by (with_reducible repeat (first|apply Kd.S_alloc|apply Kd.S_drewN|apply Kd.S_drew));exact Aa.out) (Kd.S_base Ah) hb);replace HB:=bs_ hb;(try clear hb);(try clear Ah);obtain ⟨Bw,Br,Bo⟩:=Kd.S_slice Ab.out;subst Bo)|((with_reducible refine gate_callee (f:=27) rfl ?_);refine gm_ (some 20) Tryz.func27 #[.slice Bw Am.length Br] ?_;(with_reducible refine (record_Check.calls k _ _ Am Aq Ap _ ?side1 ?side2 ?side3 A8.out).mono ?_);(case side1=>exact cx_ ((Kd.S_reads' Ab.out).2.2));(case side2=>exact (Kd.S_reads' Ab.out).2.1);(case side3=>exact HLW.out.below bx_);rintro e Cp ⟨rfl,hb⟩;refine ⟨_,rfl,?_⟩;replace Aa:=Aside0.mk (Kd.S_below (by (with_reducible repeat (first|apply Kd.S_alloc|apply Kd.S_drewN|apply Kd.S_drew));exact Aa.out) hb);replace Ab:=Aside0.mk (Kd.S_below (by (with_reducible repeat (first|apply Kd.S_alloc|apply Kd.S_drewN|apply Kd.S_drew));exact Ab.out) hb);replace HB:=bs_ hb;(try clear hb))|((with_reducible refine gate_callee (f:=20) rfl ?_);refine gm_ (some 25) Tryz.func20 #[.slice Bj Ad.length Ba] ?_;(with_reducible refine (garboardref57_Copy.calls k _ _ Ad Al _ ?side1 ?side2 A9.out).mono ?_);(case side1=>exact cx_ ((Kd.S_reads' Aa.out).2.2));(case side2=>exact (Kd.S_reads' Aa.out).2.1);rintro e Co ⟨By,rfl,Ah,hb⟩;refine ⟨_,rfl,?_⟩;have Ac:=Aside0.mk (Kd.S_lower (Kd.S_new' (Kd.S_new' Ah (Kd.S_lt (by (with_reducible repeat (first|apply Kd.S_alloc|apply Kd.S_drewN|apply Kd.S_drew));exact Aa.out))) (Kd.S_lt (by (with_reducible repeat (first|apply Kd.S_alloc|apply Kd.S_drewN|apply Kd.S_drew));exact Ab.out))) (below_size bx_));replace Aa:=Aside0.mk (Kd.S_elder' (by (with_reducible repeat (first|apply Kd.S_alloc|apply Kd.S_drewN|apply Kd.S_drew));exact Aa.out) (Kd.S_base Ah) hb);replace Ab:=Aside0.mk (Kd.S_elder' (by (with_reducible repeat (first|apply Kd.S_alloc|apply Kd.S_drewN|apply Kd.S_drew));exact Ab.out) (Kd.S_base Ah) hb);replace HB:=bs_ hb;(try clear hb);(try clear Ah);obtain ⟨Bv,Bq,Bn⟩:=Kd.S_slice Ac.out;subst Bn)|((with_reducible refine gate_callee (f:=19) rfl ?_);refine gm_ (some 26) Tryz.func19 #[.slice Bv Al.length Bq] ?_;(with_reducible refine (record_Write.calls k _ _ Al Ag Ao _ ?side1 ?side2 ?side3 Ch.out).mono ?_);(case side1=>exact cx_ ((Kd.S_reads' Ac.out).2.2));(case side2=>exact (Kd.S_reads' Ac.out).2.1);(case side3=>exact HLW.out.below bx_);rintro e Cn ⟨rfl,hb⟩;refine ⟨_,rfl,?_⟩;replace Aa:=Aside0.mk (Kd.S_below (by (with_reducible repeat (first|apply Kd.S_alloc|apply Kd.S_drewN|apply Kd.S_drew));exact Aa.out) hb);replace Ab:=Aside0.mk (Kd.S_below (by (with_reducible repeat (first|apply Kd.S_alloc|apply Kd.S_drewN|apply Kd.S_drew));exact Ab.out) hb);replace Ac:=Aside0.mk (Kd.S_below (by (with_reducible repeat (first|apply Kd.S_alloc|apply Kd.S_drewN|apply Kd.S_drew));exact Ac.out) hb);replace HB:=bs_ hb;(try clear hb))|((with_reducible refine gate_callee (f:=22) rfl ?_);refine gm_ (some 31) Tryz.func22 #[.string Ag] ?_;(with_reducible refine (record_Recover.calls k Ag Ay An _ (HLW.out.below bx_) Cg.out).mono ?_);rintro e Cm ⟨Bx,rfl,Ah,hb⟩;refine ⟨_,rfl,?_⟩;have Af:=Aside0.mk (Kd.S_lower (Kd.S_new' (Kd.S_new' (Kd.S_new' Ah (Kd.S_lt (by (with_reducible repeat (first|apply Kd.S_alloc|apply Kd.S_drewN|apply Kd.S_drew));exact Aa.out))) (Kd.S_lt (by (with_reducible repeat (first|apply Kd.S_alloc|apply Kd.S_drewN|apply Kd.S_drew));exact Ab.out))) (Kd.S_lt (by (with_reducible repeat (first|apply Kd.S_alloc|apply Kd.S_drewN|apply Kd.S_drew));exact Ac.out))) (below_size bx_));replace Aa:=Aside0.mk (Kd.S_elder' (by (with_reducible repeat (first|apply Kd.S_alloc|apply Kd.S_drewN|apply Kd.S_drew));exact Aa.out) (Kd.S_base Ah) hb);replace Ab:=Aside0.mk (Kd.S_elder' (by (with_reducible repeat (first|apply Kd.S_alloc|apply Kd.S_drewN|apply Kd.S_drew));exact Ab.out) (Kd.S_base Ah) hb);replace Ac:=Aside0.mk (Kd.S_elder' (by (with_reducible repeat (first|apply Kd.S_alloc|apply Kd.S_drewN|apply Kd.S_drew));exact Ac.out) (Kd.S_base Ah) hb);replace HB:=bs_ hb;(try clear hb);(try clear Ah);obtain ⟨Cc,Cb,Bm⟩:=Kd.S_slice Af.out;subst Bm)|(go_at_call 24;(with_reducible refine (garboardref57_Same.calls k _ _ Ay _ _ Ad true _ ?side1 ?side2 ?side3 ?side4 Cf.out).mono ?_);(case side1=>exact cx_ ((Kd.S_reads' Af.out).2.2));(case side2=>exact (Kd.S_reads' Af.out).2.1);(case side3=>exact cx_ ((Kd.S_reads' Aa.out).2.2));(case side4=>exact (Kd.S_reads' Aa.out).2.1);rintro e Cl ⟨rfl,hb⟩;replace Aa:=Aside0.mk (Kd.S_below (by (with_reducible repeat (first|apply Kd.S_alloc|apply Kd.S_drewN|apply Kd.S_drew));exact Aa.out) hb);replace Ab:=Aside0.mk (Kd.S_below (by (with_reducible repeat (first|apply Kd.S_alloc|apply Kd.S_drewN|apply Kd.S_drew));exact Ab.out) hb);replace Ac:=Aside0.mk (Kd.S_below (by (with_reducible repeat (first|apply Kd.S_alloc|apply Kd.S_drewN|apply Kd.S_drew));exact Ac.out) hb);replace Af:=Aside0.mk (Kd.S_below (by (with_reducible repeat (first|apply Kd.S_alloc|apply Kd.S_drewN|apply Kd.S_drew));exact Af.out) hb);replace HB:=bs_ hb;(try clear hb))|(go_at_call 28;(with_reducible refine (api_Entry_28.calls k _ _ Ad Ak _ ?side1 ?side2 ?side3 Ce.out).mono ?_);(case side1=>exact cx_ ((Kd.S_reads' Aa.out).2.2));(case side2=>exact (Kd.S_reads' Aa.out).2.1);(case side3=>exact HLW.out.below bx_);rintro e Ck ⟨rfl,hb⟩;replace Aa:=Aside0.mk (Kd.S_below (by (with_reducible repeat (first|apply Kd.S_alloc|apply Kd.S_drewN|apply Kd.S_drew));exact Aa.out) hb);replace Ab:=Aside0.mk (Kd.S_below (by (with_reducible repeat (first|apply Kd.S_alloc|apply Kd.S_drewN|apply Kd.S_drew));exact Ab.out) hb);replace Ac:=Aside0.mk (Kd.S_below (by (with_reducible repeat (first|apply Kd.S_alloc|apply Kd.S_drewN|apply Kd.S_drew));exact Ac.out) hb);replace Af:=Aside0.mk (Kd.S_below (by (with_reducible repeat (first|apply Kd.S_alloc|apply Kd.S_drewN|apply Kd.S_drew));exact Af.out) hb);replace HB:=bs_ hb;(try clear hb)))
        go_ret
        exact ⟨rf_,bx_⟩
       ·replace Bk:=Bool.eq_false_iff.mpr Bk
        subst Bk
        have H1:(some false) = some r:=by rw [if_neg (show ¬ (false = true) by decide)] at H;exact H
        clear H
        have H:=H1
        clear H1
        exact absurd (Option.some.inj H) (by rw [HRT.out];decide)
      ·rw [if_neg Au] at H
       have Bc:(An == (Ag.size:Int)) = false:=beq_eq_false_iff_ne.mpr Au
       have Bb:(An != (Ag.size:Int)) = true:=bne_iff_ne.mpr Au
       exact absurd (Option.some.inj H) (by rw [HRT.out];decide)
     ·rw [if_neg Av] at H
      have Be:(Ao == 0) = false:=beq_eq_false_iff_ne.mpr Av
      have Bd:(Ao != 0) = true:=bne_iff_ne.mpr Av
      exact absurd (Option.some.inj H) (by rw [HRT.out];decide)
    ·rw [if_neg Aw] at H
     have Bg:(Ap == 0) = false:=beq_eq_false_iff_ne.mpr Aw
     have Bf:(Ap != 0) = true:=bne_iff_ne.mpr Aw
     exact absurd (Option.some.inj H) (by rw [HRT.out];decide)
   ·rw [if_neg Ax] at H
    have Bi:(Aq == (-1)) = false:=beq_eq_false_iff_ne.mpr Ax
    have Bh:(Aq != (-1)) = true:=bne_iff_ne.mpr Ax
    exact absurd (Option.some.inj H) (by rw [HRT.out];decide)
  ·replace c5:=Bool.eq_false_iff.mpr c5
   subst c5
   have H1:(some true) = some r:=by rw [if_neg (show ¬ (false = true) by decide)] at H;exact H
   clear H
   have H:=H1
   clear H1
   obtain rfl:=Option.some.inj H
   go_enter Tryz.func5,Tryz.ntmps5
   go_wp2_with (first|((with_reducible refine gate_callee (f:=10) rfl ?_);refine gl_ (some 10) Tryz.func10 #[] (garboardlaw57_awake.calls k  true _ (HLW.out.below bx_) A2.out) ?_;clear HB;intro Cj hb HB;clear hb)|((with_reducible refine gate_callee (f:=25) rfl ?_);refine gm_ (some 13) Tryz.func25 #[.slice A0 l0.length c0] ?_;(with_reducible refine (garboardlaw57_few.calls k _ _ l0 false _ ?side1 ?side2 A4.out).mono ?_);(case side1=>exact cx_ (Kd.C_below Bt.out HB.out));(case side2=>exact Bu.out);rintro e Ci ⟨rfl,hb⟩;refine ⟨_,rfl,?_⟩;replace HB:=bs_ hb;(try clear hb)))
   go_ret
   exact ⟨rf_,bx_⟩
 ·replace c3:=Bool.eq_false_iff.mpr c3
  subst c3
  have H1:(some false) = some r:=by rw [if_neg (show ¬ (false = true) by decide)] at H;exact H
  clear H
  have H:=H1
  clear H1
  exact absurd (Option.some.inj H) (by rw [HRT.out];decide)
open Go.Lib Go.Proofs.YtcmbggahndfnnaaGreatDoor.NatTh
theorem awake_evr:Ev (fun k=>garboardlaw57_awake.f k) true:=⟨20,fun _ h=>awake_on h⟩
theorem whole_ev {l:List S52} (hR:Rt l) (hl:l.length≤1000):Ev (fun k=>record_Recover.f k (mkB (recB l))) (l,((recB l).length:Int)):=by
 have hbl:=(recB_len l hR.ok).1
 obtain ⟨got,hg,hRg,Aa,Ab,hbs,hst⟩:=recover_ev (mkB (recB l)) (by rw [mkB_size];omega)
 rw [bs_mkB] at hbs
 obtain ⟨k1,k2,k3,k4⟩:=torn_core (at_:=(recB l).length) hR (by omega) hRg (Nat.le_refl _) (by rw [List.take_length];exact hbs) hst
 have:got = l:=by
  by_cases c:got.length < l.length
  ·have h1:=k4 c
   have h2:=take_len l (got.length + 1)
   omega
  ·rw [k1];exact List.take_of_length_le (by omega)
 rw [this] at hg
 exact hg
theorem closure_ev {x:S52} (h:En x):Ev (fun k=>cl29 k x) false:=by
 have he:=encode_ev x.f0
 rw [encV_good h.1] at he
 unfold encF at he
 unfold cl29 garboardlaw57_RecordReturns_1.f
 refine Ev.congr (fun k=>by rw [copyE_eq h.1.sm,Option.bind_some]) (he.bind ((decode_back h.1).bind (ev_t rfl (ev_t rfl ((sameE_refl h.1.sm).bind (f:=fun _ t=>some (!t)) (Ev.now _))))))
theorem all_no {α:Type} (f:Nat→α→Option Bool):∀ (l:List α),(∀ x ∈ l,Ev (fun k=>f k x) false)→Ev (fun k=>if l.all (fun x=>(f k x).isSome) = true then some (l.any fun x=>f k x == some true) else none) false:=by
 intro l h
 obtain ⟨K,hK⟩:∃ K,∀ k,K≤k→∀ x ∈ l,f k x = some false:=by
  induction l with
  | nil=>exact ⟨0,fun _ _ x hx=>by cases hx⟩
  | cons x l ih =>
   obtain ⟨K,hK⟩:=ih (fun y hy=>h y (List.mem_cons_of_mem _ hy))
   obtain ⟨L,hL⟩:=h x (List.mem_cons_self ..)
   refine ⟨max K L,fun k hk y hy=>?_⟩
   rcases List.mem_cons.1 hy with rfl|hy
   ·exact hL k (by omega)
   ·exact hK k (by omega) y hy
 refine ⟨K,fun k hk=>?_⟩
 dsimp only
 rw [if_pos (by rw [List.all_eq_true];intro x hx;rw [hK k hk x hx];rfl)]
 congr 1
 rw [List.any_eq_false]
 intro x hx
 rw [hK k hk x hx]
 decide
theorem Returns_law (l0:List S26) (h:Ar l0):Ev (fun k=>garboardlaw57_RecordReturns.f k l0) true:=by
 unfold garboardlaw57_RecordReturns.f
 refine awake_evr.bind (ev_t rfl ?_)
 obtain ⟨b,hb,hS⟩:=few_ex h
 refine hb.bind ?_
 cases b with
 | false=>exact ev_e Bool.false_ne_true (Ev.now _)
 | true =>
  refine ev_t rfl ?_
  obtain ⟨Aa,hsm⟩:=hS rfl
  obtain ⟨l,hl,hR,Ab⟩:=chain_ev hsm Aa
  have hcp:=copy_ev hR.sm (by omega)
  have hA:=all_no cl29 l (fun x hx=>closure_ev (hR.ok x hx))
  have hB:Ev (fun k=>api_Entry_28.f k l) false:=by unfold api_Entry_28.f;exact hA
  refine hl.bind (hcp.bind ((check_ev hR (by omega)).bind (hcp.bind ((write_ev hR (by omega)).bind ((whole_ev hR (by omega)).bind (ev_t rfl (ev_t rfl (ev_t rfl (ev_t ?_ ((same_refl hR.sm (by omega)).bind (ev_t rfl (hB.bind (Ev.now _)))))))))))))
  show ((recB l).length:Int) = ((mkB (recB l)).size:Int)
  rw [mkB_size]
end Go.Proofs.YtcmbggahndfnnaaGreatDoor.Pr
namespace Go.Proofs.YtcmbggahndfnnaaGreatDoor.Pr
open Go.ChangeShapes Go.WideShapes Go.ChangeAt Go.RowKit Go.Proofs.YtcmbggahndfnnaaGreatDoorW.PrintWords
set_option maxRecDepth 100000 in
theorem recordReturns_lifted (os:Os) (started:os.Started) (H:Type) (enc:TypeId × Value→H) :
  ReturnsInHanded {} Tryz.checked os 5 .any (fun w args=>(Rows.recordReturnsSpec.pre enc Tryz.prog Tryz.f5 [] false w args∧laidMetH Tryz.prog laid5 w)∧sizedMet enc Tryz.prog Tryz.f5 (OpenSpec.ofChange Rows.recordReturnsSpec) false w args)
   (Rows.recordReturnsSpec.post enc Tryz.prog Tryz.f5 false true false false):=by
 refine returnsInHanded_of_change_and (C:=Tryz.checked) (X:=fun w _=>laidMetH Tryz.prog laid5 w) (fun _ _ _ hh h=>h.of_heap hh) own started (by kernel_rfl) Tryz.func5
  (ChangeSpec.witness_shaped (enc:=enc) (C:=Tryz.checked) (os:=os) (X:=fun w _=>laidMetH Tryz.prog laid5 w) false (World.doorLaid Tryz.prog 400 os) #[.slice none 0 0] 8 rfl (World.shaped_of_RefB (by kernel_rfl) (by kernel_rfl)) (by kernel_rfl) (by kernel_rfl) (by kernel_rfl) (door_met os _)) ?_
 intro W base args ds gs Ad Aa hW _ _ hL _
 have Ab:∀ (j:Nat) t v,Tryz.f5.params[j]? = some t→args[j]? = some v→Value.okWide Tryz.prog W .any base t v:=Aa
 have hW':=hW
 obtain ⟨p,q,Af,hV,rfl,hfz,hnd⟩:=hW
 have hA:DataW.TrodAll enc Tryz.prog W 0 (fun _=>true) true Tryz.f5.params.toList args.toList ds p:=Af
 rw [Tryz.params5] at hA Ab
 obtain ⟨v0,Ai,d0,Aj,p0,q0,Ae,rfl,rfl,h0,r0⟩:=trodAll_cons hA
 obtain ⟨rfl,rfl,rfl⟩:=trodAll_nil r0
 obtain rfl:args = #[v0]:=by cases args;simp_all
 obtain ⟨rfl,rfl⟩:=trodVars_none hV
 have Ag:∀ x ∈ p0,x.block < W.heap.size:=by obtain ⟨m,hm⟩:=h0;exact DataW.trod_lt m _ _ _ hm
 have k0:=h0
 obtain ⟨A0,Ac,a0,rfl,Ah,C0,z0⟩:=openEs h0 (okWide_slice Tryz.underlying45 (Ab 0 45 v0 rfl rfl))
 have hT:=laid_tab hL
 clear Af Aa Ab
 obtain ⟨k,hk⟩:=(Returns_law a0 (fun e he=>⟨Nat.lt_of_le_of_lt (z0 e he).2.1 (by decide),Nat.lt_of_le_of_lt (z0 e he).2.2.1 (by decide)⟩)).rounds
 refine (garboardlaw57_RecordReturns.calls k A0 Ac a0 true W C0 Ah hT hk rfl).mono fun e W' ⟨he,bel⟩=>?_
 subst he
 exact ⟨_,rfl,_,_,_,[],_,[],hW',trodAll_mk1 (shut_bool Tryz.underlying4 _),(trodAll_cons_mk (Below.trod laidOut (by kernel_rfl) (of_decide_eq_true (by kernel_rfl)) k0 bel Ag) trodAll_mk0),rfl,bel.frame _,fun h=>by cases h⟩
theorem recordReturns_row:Rows.RecordReturnsSaid :=
 OpenClaim.holds_of_wide 5 Tryz.f5 rfl rfl rfl rfl rfl rfl rfl ⟨rfl,rfl,rfl,rfl,rfl⟩ rfl rfl rfl rfl rfl (by kernel_rfl) Tryz.func5 (by kernel_rfl)
  (of_decide_eq_true (by kernel_rfl)) (by unfold Func.isWrapper;first|(rw [if_pos (by decide +kernel)];kernel_rfl)|(rw [if_neg (by decide +kernel)];exact ⟨rfl,rfl⟩))
  (fun os started H enc _=>recordReturns_lifted os started H enc)
end Go.Proofs.YtcmbggahndfnnaaGreatDoor.Pr
namespace Go.Proofs.YtcmbggahndfnnaaGreatDoor
open Go
theorem recordReturns_card_holds:Rows.RecordReturnsCardSaid :=
 Claim7.holds_tied_plain_at .later [] [.data,.data,.data,.sentinel,.sentinel] true (true, "530430785d8fc1b95937d3c83c748bc57a44dc57239518a96d9fcf3156f792ad") true
  Pr.recordReturns_row (fun _ h=>by cases h) (by kernel_rfl) (fun _ h=>by cases h) recordReturns_row_tie rfl ⟨rfl,rfl⟩ (by kernel_rfl) rfl
  (fun f fn hf hfn=>by
   obtain rfl:f = 5:=Option.some.inj ((show Tryz.prog.funcNamed "garboard/garboardlaw57.RecordReturns" = some 5 by kernel_rfl).symm.trans hf) |>.symm
   obtain rfl:fn = Tryz.f5:=(Option.some.inj (Tryz.func5.symm.trans hfn)).symm
   exact ⟨by kernel_rfl,fun j t ht=>by
    rw [Tryz.params5] at ht
    have hm:t ∈ [45]:=by simpa using Array.mem_of_getElem? ht
    have Aa:([45].all fun u=>!Tryz.prog.wantsStandIn u) = true:=by kernel_rfl
    exact (show Tryz.prog.wantsStandIn t = false by simpa using List.all_eq_true.1 Aa t hm)⟩)
  (by kernel_rfl)
end Go.Proofs.YtcmbggahndfnnaaGreatDoor
