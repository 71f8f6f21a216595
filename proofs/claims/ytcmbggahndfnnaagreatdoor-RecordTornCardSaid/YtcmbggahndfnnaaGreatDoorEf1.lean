/- Part 1 of 1: RecordTorn answers true for every input, and each argument reads behind the call as before. The library's tables are tied to the program's text by the card. -/
import Derived.Below
import Derived.Deep.Draws
import Derived.Deep.AppendLies
import Derived.Maps.AppendAt
import Derived.OwnWalk
import Derived.Laws.BytesArg
import Derived.Laws.MakeOwn
import Derived.Laws.OwnMore
import Derived.Deep.OwnRows
import Derived.Tactics
import Derived.Lib.ConvBytes
import Derived.Laws.Slices
import Derived.WalkKit
import Derived.KernelRfl
import Derived.RowKit3
import Derived.Deep.LoopGhost
import Derived.Deep.QuietTactic
import Derived.BigQuiet
import Derived.WideLaws
import Derived.Deep.DeepCutAuto
import Derived.Deep.CutBlock
import Derived.Deep.RegionHeld3
import Derived.Laws.Rows
import Derived.Lib.AppendStr
import Derived.ArgAppend
import Derived.Laws.IdiomCopy
import Derived.RowKit
import Derived.OrdersHeld
import Derived.Laws.BitsLemmas
import Derived.Laws.StructEq
import Derived.Test.YtcmbggahndfnnaaGreatDoorProg
import Derived.Shelf.Abstract
import Derived.Shelf.Strings.Builder1
import Derived.Shelf.Strings.Builder2
import Derived.Shelf.Small.Wraps
import Derived.Shelf.Strings.BuilderF
import Derived.Shelf.Strings.BuilderK
import Derived.Shelf.Strings.Builder2Cap
import Derived.Shelf.Strconv.Itoa0
import Derived.Shelf.Strconv.Itoa1
import Derived.Shelf.LaysM
import Derived.Shelf.Strconv.Itoa2
import Derived.Shelf.Strconv.Itoa3
import Derived.Shelf.Strconv.Clone
import Derived.Shelf.Strconv.SyntaxError
import Derived.Shelf.Strconv.Lower
import Derived.Shelf.Strconv.ParseUint10
import Derived.Shelf.Strconv.ParseUint10Empty
import Derived.Shelf.Strconv.RangeError
import Derived.Shelf.Strconv.ParseUintEmpty
import Derived.Shelf.Strconv.ParseUint10b64
import Derived.Shelf.Strconv.ParseUint10b32
import Derived.Shelf.Strconv.ParseUint10b16
import Derived.Shelf.Strconv.ParseUint10b8
import Derived.Ground.MpProg
import Derived.Shelf.Pu.ParseUintPublic10
import Derived.Shelf.Strings.Prefix
import Derived.Shelf.Bits.Mul64
import Derived.Shelf.Strings.Repeat
import Derived.Ground.Names2Prog
import Derived.Shelf.Slices.SearchI
import Derived.Lib.AtoiErrMem
import Derived.Lib.ItoaNum
import Derived.Lib.ParseIntB
import Derived.RangeFuncFrom
import Derived.RangeFuncBox
import Derived.RangeFuncLeaves
import Derived.RangeFuncCalls
import Derived.RangeFuncBound
import Derived.OwnWalkIn
import Derived.TacticsInMore
import Derived.LoopNIn
import Derived.LoopIn
import Derived.Lib.Hide
import Derived.Lib.FrozenHead
import Derived.Lib.AppendIntMem
import Derived.Lib.Walk
import Derived.Lib.ItoaMem
import Derived.BigCall
import Derived.BigGuard
import Derived.Shelf.Strings.Search1
import Derived.Shelf.Strings.Cut
import Derived.IntWalk
import Derived.Great.BuildSlice
import Derived.StillTailTactics
import Derived.Lib.SmallJoins
import Derived.LaidMore
import Derived.ProofKit
import Derived.Stop.Joined
import Derived.SizedLaws
import Derived.DataShut
import Derived.SliceStrings
import Derived.SevenTiedAt
import Derived.Test.YtcmbggahndfnnaaGreatDoorEz6
set_option linter.unusedVariables false
set_option linter.unusedSimpArgs false
namespace Go.Proofs.YtcmbggahndfnnaaGreatDoor.Pr
open Go.RowKit Go.Proofs.YtcmbggahndfnnaaGreatDoorW.PrintWords Go.Proofs.YtcmbggahndfnnaaGreatDoorW.PrintLast Go.Proofs.YtcmbggahndfnnaaGreatDoorW.PrintMore
attribute [local go_sem] max2_int min2_int max_two min_two max_three min_three max_four min_four
set_option maxHeartbeats 8000000
set_option maxRecDepth 100000
mutual
def garboardlaw57_RecordTorn.j0:Nat→List (S52)→ByteArray→Int→List (S52)→Int→Bool→Option (Bool)
 | 0,_,_,_,_,_,_=>none
 | k + 1,x5,x6,x8,x9,x10,x61=>if x61 = true then (some false) else ((garboardref57_Copy.f k x9).bind fun t916=>((record_Write.f k t916).bind fun bt919=>(if bt919.2 = 0 then (if (bt919.1.size:Int) = x10 then (if 0≤x10 then (if x10≤(x6.size:Int) then (garboardlaw57_RecordTorn.j1 k x5 x6 x8 x9 ((x6.extract 0 (x10:Int).toNat).toList != bt919.1.toList)) else (none)) else (none)) else (garboardlaw57_RecordTorn.j1 k x5 x6 x8 x9 true)) else (garboardlaw57_RecordTorn.j1 k x5 x6 x8 x9 true))))
def garboardlaw57_RecordTorn.j1:Nat→List (S52)→ByteArray→Int→List (S52)→Bool→Option (Bool)
 | 0,_,_,_,_,_=>none
 | k + 1,x5,x6,x8,x9,x82=>if x82 = true then (some false) else (if (x9.length:Int) = (x5.length:Int) then (some (x8 == (x6.size:Int))) else (if 0≤(wrap64 ((x9.length:Int) + 1)) then (if (wrap64 ((x9.length:Int) + 1))≤(x5.length:Int) then ((garboardref57_Copy.f k (x5.take ((wrap64 ((x9.length:Int) + 1)):Int).toNat)).bind fun t925=>((record_Write.f k t925).bind fun bt928=>(if bt928.2 = 0 then (some (decide ((bt928.1.size:Int) > x8))) else (some false)))) else (none)) else (none)))
end
def garboardlaw57_RecordTorn.f (k:Nat) (l0:List (S26)) (a1:Int):Option (Bool):=(garboardlaw57_awake.f k).bind fun t897=>(if t897 = true then ((garboardlaw57_few.f k l0).bind fun t898=>(if t898 = true then ((garboardlaw57_chain.f k l0).bind fun t899=>((garboardref57_Copy.f k t899).bind fun t902=>((record_Write.f k t902).bind fun bt905=>(if bt905.2 = 0 then (if (wrap64 ((bt905.1.size:Int) + 1)) = 0 then (none) else (if 0≤(Int.tmod (wrap64 (a1)) (wrap64 ((bt905.1.size:Int) + 1))) then (if (Int.tmod (wrap64 (a1)) (wrap64 ((bt905.1.size:Int) + 1)))≤(bt905.1.size:Int) then ((record_Recover.f k (bt905.1.extract 0 ((Int.tmod (wrap64 (a1)) (wrap64 ((bt905.1.size:Int) + 1))):Int).toNat)).bind fun bt907=>(if (bt907.1.length:Int) > (t899.length:Int) then (garboardlaw57_RecordTorn.j0 k t899 bt905.1 (Int.tmod (wrap64 (a1)) (wrap64 ((bt905.1.size:Int) + 1))) bt907.1 bt907.2 true) else (if bt907.2 > (Int.tmod (wrap64 (a1)) (wrap64 ((bt905.1.size:Int) + 1))) then (garboardlaw57_RecordTorn.j0 k t899 bt905.1 (Int.tmod (wrap64 (a1)) (wrap64 ((bt905.1.size:Int) + 1))) bt907.1 bt907.2 true) else (if 0≤(bt907.1.length:Int) then (if (bt907.1.length:Int)≤(t899.length:Int) then ((garboardref57_Same.f k bt907.1 (t899.take ((bt907.1.length:Int):Int).toNat)).bind fun t915=>(garboardlaw57_RecordTorn.j0 k t899 bt905.1 (Int.tmod (wrap64 (a1)) (wrap64 ((bt905.1.size:Int) + 1))) bt907.1 bt907.2 (!t915))) else (none)) else (none))))) else (none)) else (none))) else (some false))))) else (some true))) else (some false))
theorem garboardlaw57_RecordTorn.calls (k:Nat) (A0:Option Addr) (c0:Nat) (l0:List (S26)) (a1:Int) (r:Bool) (w:World) (hr0:Kd.C k26 w A0 l0.length l0) (hc0:l0.length≤c0) (hL:LaidW w) (h:garboardlaw57_RecordTorn.f k l0 a1 = some r) (hr:r = true) :
  Calls Tryz.prog 7 #[.slice A0 l0.length c0,.int .u16 a1] w fun e w'=>e = .returned (.bool r)∧Below w.heap.size w w':=by
 have Ek:=Aside0.mk hr0
 have El:=Aside0.mk hc0
 clear hr0 hc0
 have HB:=Aside0.mk (Below.refl w.heap.size w)
 have HLW:=Aside0.mk hL
 clear hL
 have HRT:=Aside0.mk (hr)
 clear hr
 have H:=h;clear h;unfold garboardlaw57_RecordTorn.f at H
 obtain ⟨Dv,A3,H⟩:=bn_ H
 by_cases c4:Dv = true
 ·subst c4
  have H1:((garboardlaw57_few.f k l0).bind fun Ca=>(if Ca = true then ((garboardlaw57_chain.f k l0).bind fun Aa=>((garboardref57_Copy.f k Aa).bind fun Bc=>((record_Write.f k Bc).bind fun Ad=>(if Ad.2 = 0 then (if (wrap64 ((Ad.1.size:Int) + 1)) = 0 then (none) else (if 0≤(Int.tmod (wrap64 (a1)) (wrap64 ((Ad.1.size:Int) + 1))) then (if (Int.tmod (wrap64 (a1)) (wrap64 ((Ad.1.size:Int) + 1)))≤(Ad.1.size:Int) then ((record_Recover.f k (Ad.1.extract 0 ((Int.tmod (wrap64 (a1)) (wrap64 ((Ad.1.size:Int) + 1))):Int).toNat)).bind fun Ab=>(if (Ab.1.length:Int) > (Aa.length:Int) then (garboardlaw57_RecordTorn.j0 k Aa Ad.1 (Int.tmod (wrap64 (a1)) (wrap64 ((Ad.1.size:Int) + 1))) Ab.1 Ab.2 true) else (if Ab.2 > (Int.tmod (wrap64 (a1)) (wrap64 ((Ad.1.size:Int) + 1))) then (garboardlaw57_RecordTorn.j0 k Aa Ad.1 (Int.tmod (wrap64 (a1)) (wrap64 ((Ad.1.size:Int) + 1))) Ab.1 Ab.2 true) else (if 0≤(Ab.1.length:Int) then (if (Ab.1.length:Int)≤(Aa.length:Int) then ((garboardref57_Same.f k Ab.1 (Aa.take ((Ab.1.length:Int):Int).toNat)).bind fun Ao=>(garboardlaw57_RecordTorn.j0 k Aa Ad.1 (Int.tmod (wrap64 (a1)) (wrap64 ((Ad.1.size:Int) + 1))) Ab.1 Ab.2 (!Ao))) else (none)) else (none))))) else (none)) else (none))) else (some false))))) else (some true))) = some r:=by rw [if_pos rfl] at H;exact H
  clear H
  have H:=H1
  clear H1
  obtain ⟨Ca,A5,H⟩:=bn_ H
  by_cases c6:Ca = true
  ·subst c6
   have H1:((garboardlaw57_chain.f k l0).bind fun Aa=>((garboardref57_Copy.f k Aa).bind fun Bc=>((record_Write.f k Bc).bind fun Ad=>(if Ad.2 = 0 then (if (wrap64 ((Ad.1.size:Int) + 1)) = 0 then (none) else (if 0≤(Int.tmod (wrap64 (a1)) (wrap64 ((Ad.1.size:Int) + 1))) then (if (Int.tmod (wrap64 (a1)) (wrap64 ((Ad.1.size:Int) + 1)))≤(Ad.1.size:Int) then ((record_Recover.f k (Ad.1.extract 0 ((Int.tmod (wrap64 (a1)) (wrap64 ((Ad.1.size:Int) + 1))):Int).toNat)).bind fun Ab=>(if (Ab.1.length:Int) > (Aa.length:Int) then (garboardlaw57_RecordTorn.j0 k Aa Ad.1 (Int.tmod (wrap64 (a1)) (wrap64 ((Ad.1.size:Int) + 1))) Ab.1 Ab.2 true) else (if Ab.2 > (Int.tmod (wrap64 (a1)) (wrap64 ((Ad.1.size:Int) + 1))) then (garboardlaw57_RecordTorn.j0 k Aa Ad.1 (Int.tmod (wrap64 (a1)) (wrap64 ((Ad.1.size:Int) + 1))) Ab.1 Ab.2 true) else (if 0≤(Ab.1.length:Int) then (if (Ab.1.length:Int)≤(Aa.length:Int) then ((garboardref57_Same.f k Ab.1 (Aa.take ((Ab.1.length:Int):Int).toNat)).bind fun Ao=>(garboardlaw57_RecordTorn.j0 k Aa Ad.1 (Int.tmod (wrap64 (a1)) (wrap64 ((Ad.1.size:Int) + 1))) Ab.1 Ab.2 (!Ao))) else (none)) else (none))))) else (none)) else (none))) else (some false))))) = some r:=by rw [if_pos rfl] at H;exact H
   clear H
   have H:=H1
   clear H1
   obtain ⟨Aa,A7,H⟩:=bn_ H
   obtain ⟨Bc,A8,H⟩:=bn_ H
   obtain ⟨⟨Af,Bh⟩,A9,H⟩:=bn_ H
   dsimp only at H
   by_cases Bn:Bh = 0
   ·rw [if_pos Bn] at H
    have Bl:(Bh == 0) = true:=beq_iff_eq.mpr Bn
    have Bk:(Bh != 0) = false:=bne_eq_false_iff_eq.mpr Bn
    clear Bn
    by_cases Cu:(wrap64 ((Af.size:Int) + 1)) = 0
    ·rw [if_pos Cu] at H
     exact absurd H sm_
    ·rw [if_neg Cu] at H
     have Bx:((wrap64 ((Af.size:Int) + 1)) == 0) = false:=beq_eq_false_iff_ne.mpr Cu
     have Bw:((wrap64 ((Af.size:Int) + 1)) != 0) = true:=bne_iff_ne.mpr Cu
     obtain ⟨ji12,hji12⟩:∃ j_:Int,(Int.tmod (wrap64 (a1)) (wrap64 ((Af.size:Int) + 1))) = j_:=⟨_,rfl⟩
     replace H:(if 0≤(ji12) then (if (ji12)≤(Af.size:Int) then ((record_Recover.f k (Af.extract 0 ((ji12):Int).toNat)).bind fun Ab=>(if (Ab.1.length:Int) > (Aa.length:Int) then (garboardlaw57_RecordTorn.j0 k Aa Af ji12 Ab.1 Ab.2 true) else (if Ab.2 > (ji12) then (garboardlaw57_RecordTorn.j0 k Aa Af ji12 Ab.1 Ab.2 true) else (if 0≤(Ab.1.length:Int) then (if (Ab.1.length:Int)≤(Aa.length:Int) then ((garboardref57_Same.f k Ab.1 (Aa.take ((Ab.1.length:Int):Int).toNat)).bind fun Ao=>(garboardlaw57_RecordTorn.j0 k Aa Af ji12 Ab.1 Ab.2 (!Ao))) else (none)) else (none))))) else (none)) else (none)) = some r:=by first|(rw [hji12] at H;exact H)|(simp only [hji12] at H ⊢;exact H)
     (try rw [hji12] at A3)
     (try rw [hji12] at A5)
     (try rw [hji12] at A7)
     (try rw [hji12] at A8)
     (try rw [hji12] at A9)
     by_cases Cn:0≤(ji12)
     ·rw [if_pos Cn] at H
      have Bv:=eq_true Cn
      have Bu:decide (0≤(ji12)) = true:=decide_eq_true Cn
      clear Cn
      by_cases Cm:(ji12)≤(Af.size:Int)
      ·rw [if_pos Cm] at H
       have Bt:=eq_true Cm
       have Br:decide ((ji12)≤(Af.size:Int)) = true:=decide_eq_true Cm
       clear Cm
       obtain ⟨⟨Ac,Ag⟩,Gd,H⟩:=bn_ H
       dsimp only at H
       have Cq:=Aside0.mk H
       clear H
       go_enter Tryz.func7,Tryz.ntmps7
       go_upto_region 11 with (first|((with_reducible refine gate_callee (f:=10) rfl ?_);refine gl_ (some 15) Tryz.func10 #[] (garboardlaw57_awake.calls k  true _ (HLW.out.below bx_) A3.out) ?_;clear HB;intro Gr hb HB;clear hb)|((with_reducible refine gate_callee (f:=25) rfl ?_);refine gm_ (some 18) Tryz.func25 #[.slice A0 l0.length c0] ?_;(with_reducible refine (garboardlaw57_few.calls k _ _ l0 true _ ?side1 ?side2 A5.out).mono ?_);(case side1=>exact cx_ (Kd.C_below Ek.out HB.out));(case side2=>exact El.out);rintro e Gq ⟨rfl,hb⟩;refine ⟨_,rfl,?_⟩;replace HB:=bs_ hb;(try clear hb))|((with_reducible refine gate_callee (f:=26) rfl ?_);refine gm_ (some 21) Tryz.func26 #[.slice A0 l0.length c0] ?_;(with_reducible refine (garboardlaw57_chain.calls k _ _ l0 Aa _ ?side1 ?side2 ?side3 A7.out).mono ?_);(case side1=>exact cx_ (Kd.C_below Ek.out HB.out));(case side2=>exact El.out);(case side3=>exact HLW.out.below bx_);rintro e Gp ⟨Fh,rfl,Ap,hb⟩;refine ⟨_,rfl,?_⟩;have Ae:=Aside0.mk (Kd.S_lower Ap (below_size bx_));replace HB:=bs_ hb;(try clear hb);(try clear Ap);obtain ⟨Aq,An,Eg⟩:=Kd.S_slice Ae.out;subst Eg)|((with_reducible refine gate_callee (f:=20) rfl ?_);refine gm_ (some 24) Tryz.func20 #[.slice Aq Aa.length An] ?_;(with_reducible refine (garboardref57_Copy.calls k _ _ Aa Bc _ ?side1 ?side2 A8.out).mono ?_);(case side1=>exact cx_ ((Kd.S_reads' Ae.out).2.2));(case side2=>exact (Kd.S_reads' Ae.out).2.1);rintro e Gn ⟨Fg,rfl,Ap,hb⟩;refine ⟨_,rfl,?_⟩;have Ak:=Aside0.mk (Kd.S_lower (Kd.S_new' Ap (Kd.S_lt (by (with_reducible repeat (first|apply Kd.S_alloc|apply Kd.S_drewN|apply Kd.S_drew));exact Ae.out))) (below_size bx_));replace Ae:=Aside0.mk (Kd.S_elder' (by (with_reducible repeat (first|apply Kd.S_alloc|apply Kd.S_drewN|apply Kd.S_drew));exact Ae.out) (Kd.S_base Ap) hb);replace HB:=bs_ hb;(try clear hb);(try clear Ap);obtain ⟨Ep,Ej,Ef⟩:=Kd.S_slice Ak.out;subst Ef)|((with_reducible refine gate_callee (f:=19) rfl ?_);refine gm_ (some 25) Tryz.func19 #[.slice Ep Bc.length Ej] ?_;(with_reducible refine (record_Write.calls k _ _ Bc Af Bh _ ?side1 ?side2 ?side3 A9.out).mono ?_);(case side1=>exact cx_ ((Kd.S_reads' Ak.out).2.2));(case side2=>exact (Kd.S_reads' Ak.out).2.1);(case side3=>exact HLW.out.below bx_);rintro e Gm ⟨rfl,hb⟩;refine ⟨_,rfl,?_⟩;replace Ae:=Aside0.mk (Kd.S_below (by (with_reducible repeat (first|apply Kd.S_alloc|apply Kd.S_drewN|apply Kd.S_drew));exact Ae.out) hb);replace Ak:=Aside0.mk (Kd.S_below (by (with_reducible repeat (first|apply Kd.S_alloc|apply Kd.S_drewN|apply Kd.S_drew));exact Ak.out) hb);replace HB:=bs_ hb;(try clear hb))|((with_reducible refine gate_callee (f:=22) rfl ?_);refine goesL_ (some 40) rfl rfl Tryz.func22 kr_ rfl #[.string (Af.extract 0 ((ji12):Int).toNat)] rfl (by (try simp only [List.map_toArray,List.map_cons,List.map_nil]);first|done|(simp only [hji12];rfl)|rfl|(simp only [List.length_drop,List.length_take];rfl)) ?_;(with_reducible refine (record_Recover.calls k (Af.extract 0 ((ji12):Int).toNat) Ac Ag _ (HLW.out.below bx_) Gd.out).mono ?_);rintro e Gl ⟨Cv,rfl,Ap,hb⟩;refine ⟨_,rfl,?_⟩;have Aj:=Aside0.mk (Kd.S_lower (Kd.S_new' (Kd.S_new' Ap (Kd.S_lt (by (with_reducible repeat (first|apply Kd.S_alloc|apply Kd.S_drewN|apply Kd.S_drew));exact Ae.out))) (Kd.S_lt (by (with_reducible repeat (first|apply Kd.S_alloc|apply Kd.S_drewN|apply Kd.S_drew));exact Ak.out))) (below_size bx_));replace Ae:=Aside0.mk (Kd.S_elder' (by (with_reducible repeat (first|apply Kd.S_alloc|apply Kd.S_drewN|apply Kd.S_drew));exact Ae.out) (Kd.S_base Ap) hb);replace Ak:=Aside0.mk (Kd.S_elder' (by (with_reducible repeat (first|apply Kd.S_alloc|apply Kd.S_drewN|apply Kd.S_drew));exact Ak.out) (Kd.S_base Ap) hb);replace HB:=bs_ hb;(try clear hb);(try clear Ap)))
       (try simp only [Act.put,List.setIfInBounds_toArray,List.set_cons_zero,List.set_cons_succ])
       go_cut [61] (fun Fj wc=>∃ (kq:Nat) (At:Bool),Fj = .bool At∧Aside0 (garboardlaw57_RecordTorn.j0 kq Aa Af ji12 Ac Ag At = some r)∧Aside0 (kq≤k)∧Aside0 (Kd.S k52 52 wc w.heap.size (fun k_=>some k_≠(Cv:Value).ownBlock) (.slice Aq Aa.length An) Aa)∧Aside0 (Kd.S k52 52 wc w.heap.size (fun k_=>some k_≠((.slice Aq Aa.length An):Value).ownBlock) Cv Ac)∧Aside0 (Below w.heap.size w wc))
       case first =>
        have H:=Cq.out
        clear Cq
        by_cases Bq:(Ac.length:Int) > (Aa.length:Int)
        ·rw [if_pos Bq] at H
         have Aw:decide ((Aa.length:Int) < (Ac.length:Int)) = true:=decide_eq_true Bq
         have Dq:decide (Aa.length < Ac.length) = true:=decide_eq_true (Int.ofNat_lt.mp Bq)
         clear Bq
         (first|rw [Aw]|(simp only [i64_w,i32_w];rw [Aw])|skip)
         have H':=Aside0.mk H
         clear H
         obtain ⟨Fx,Fp,Ee⟩:=Kd.S_slice Aj.out
         subst Ee
         go_wp2
         go_meet
         case rel=>exact ⟨_,(true),rg_,H',⟨by first|omega|exact Nat.le_refl _⟩,⟨by (with_reducible repeat (first|apply Kd.S_alloc|apply Kd.S_drewN|apply Kd.S_drew));exact Kd.S_mono Ae.out (fun _ hk=>hk.2)⟩,⟨by (with_reducible repeat (first|apply Kd.S_alloc|apply Kd.S_drewN|apply Kd.S_drew));exact Kd.S_mono Aj.out (fun _ hk=>hk.1.2)⟩,⟨bx_⟩⟩
        ·rw [if_neg Bq] at H
         have Aw:decide ((Aa.length:Int) < (Ac.length:Int)) = false:=decide_eq_false Bq
         have Dq:decide (Aa.length < Ac.length) = false:=decide_eq_false (fun h=>Bq (Int.ofNat_lt.mpr h))
         clear Bq
         (first|rw [Aw]|(simp only [i64_w,i32_w];rw [Aw])|skip)
         by_cases Ct:Ag > (ji12)
         ·rw [if_pos Ct] at H
          have Dp:decide ((ji12) < Ag) = true:=decide_eq_true Ct
          clear Ct
          have H':=Aside0.mk H
          clear H
          obtain ⟨Fw,Fo,Ed⟩:=Kd.S_slice Aj.out
          subst Ed
          go_wp2
          go_meet
          case rel=>exact ⟨_,(true),rg_,H',⟨by first|omega|exact Nat.le_refl _⟩,⟨by (with_reducible repeat (first|apply Kd.S_alloc|apply Kd.S_drewN|apply Kd.S_drew));exact Kd.S_mono Ae.out (fun _ hk=>hk.2)⟩,⟨by (with_reducible repeat (first|apply Kd.S_alloc|apply Kd.S_drewN|apply Kd.S_drew));exact Kd.S_mono Aj.out (fun _ hk=>hk.1.2)⟩,⟨bx_⟩⟩
         ·rw [if_neg Ct] at H
          have Dp:decide ((ji12) < Ag) = false:=decide_eq_false Ct
          clear Ct
          by_cases Do:0≤(Ac.length:Int)
          ·rw [if_pos Do] at H
           have Fd:=eq_true Do
           have Fc:decide (0≤(Ac.length:Int)) = true:=decide_eq_true Do
           clear Do
           by_cases Dn:(Ac.length:Int)≤(Aa.length:Int)
           ·rw [if_pos Dn] at H
            have Fb:=eq_true Dn
            have Fa:decide ((Ac.length:Int)≤(Aa.length:Int)) = true:=decide_eq_true Dn
            clear Dn
            obtain ⟨y911,hy911⟩:∃ y_:List (S52),y_ = (Aa.take ((Ac.length:Int):Int).toNat):=⟨_,rfl⟩
            replace H:((garboardref57_Same.f k Ac y911).bind fun Ao=>(garboardlaw57_RecordTorn.j0 k Aa Af ji12 Ac Ag (!Ao))) = some r:=by first|(rw [hy911];with_reducible exact H)|(have Cr:=(Option.bind_some _ _).symm.trans H;rw [hy911];with_reducible exact Cr)|(have Cr:=(Option.bind_some _ _).symm.trans H;with_reducible exact Cr)|with_reducible exact H|(rw [hy911];exact H)|exact H
            have Bz:=Aside0.mk hy911
            clear hy911
            obtain ⟨Ao,Gc,H⟩:=bn_ H
            have H':=Aside0.mk H
            clear H
            obtain ⟨Fv,Fm,Ec⟩:=Kd.S_slice Aj.out
            subst Ec
            have Dx:((Ac.length:Int):Int)≤((Aa.length:Int):Int):=da_
            obtain ⟨Fl,Bp,_,Cx,_⟩:=info_parts info52
            have Be:Aa.length≤An:=(Kd.S_reads' Ae.out).2.1
            have Cz:Kd.C k52 _ Aq Aa.length Aa:=(Kd.S_reads' Ae.out).2.2
            have Ch:=cut_to (P:=Tryz.prog) 37 52 .i64 Tryz.underlying37 Bp Aq Aa.length An (Ac.length:Int) (of_decide_eq_true (by first|(with_reducible assumption)|assumption)) Dx Be
            have Cf:=Kd.C_take (m:=((Ac.length:Int):Int).toNat) Cz (by omega)
            have Cc:y911.length = ((Ac.length:Int):Int).toNat:=(by rw [Bz.out,List.length_take];omega)
            rw [← Bz.out] at Cf
            rw [← Cc] at Ch
            have Ax:=Aside0.mk Cf
            have Ds:=Aside0.mk (show y911.length≤An from by omega)
            clear Cf Cz Be Bp Cx
            have Fr:=Aside0.mk Cc
            clear Cc
            have Ft:=Aside0.mk (show ((Ac.length:Int):Int).toNat≤Aa.length from by omega)
            replace Dx:=eq_true Dx
            go_wp2_with (first|(go_at_call 24;(with_reducible refine (garboardref57_Same.calls k _ _ Ac _ _ y911 Ao _ ?side1 ?side2 ?side3 ?side4 Gc.out).mono ?_);(case side1=>exact cx_ ((Kd.S_reads' Aj.out).2.2));(case side2=>exact (Kd.S_reads' Aj.out).2.1);(case side3=>repeat (first|exact (by repeat (first|(with_reducible exact Ax.out)|(with_reducible refine Kd.C_alloc ?_ _)|(with_reducible refine Kd.C_drewN ?_ _)|(with_reducible refine Kd.C_drew ?_)|exact Ax.out))|(with_reducible refine Kd.C_alloc ?_ _)|(with_reducible refine Kd.C_drewN ?_ _)|(with_reducible refine Kd.C_drew ?_)));(case side4=>exact Ds.out);rintro e Gk ⟨rfl,hb⟩;replace Ae:=Aside0.mk (Kd.S_below (by (with_reducible repeat (first|apply Kd.S_alloc|apply Kd.S_drewN|apply Kd.S_drew));exact Ae.out) hb);replace Ak:=Aside0.mk (Kd.S_below (by (with_reducible repeat (first|apply Kd.S_alloc|apply Kd.S_drewN|apply Kd.S_drew));exact Ak.out) hb);replace Aj:=Aside0.mk (Kd.S_below (by (with_reducible repeat (first|apply Kd.S_alloc|apply Kd.S_drewN|apply Kd.S_drew));exact Aj.out) hb);replace Ax:=Aside0.mk (Kd.C_below (by repeat (first|(with_reducible exact Ax.out)|(with_reducible refine Kd.C_alloc ?_ _)|(with_reducible refine Kd.C_drewN ?_ _)|(with_reducible refine Kd.C_drew ?_)|exact Ax.out)) hb);replace HB:=bs_ hb;(try clear hb)))
            go_meet
            case rel=>exact ⟨_,(!Ao),rg_,H',⟨by first|omega|exact Nat.le_refl _⟩,⟨by (with_reducible repeat (first|apply Kd.S_alloc|apply Kd.S_drewN|apply Kd.S_drew));exact Kd.S_mono Ae.out (fun _ hk=>hk.2)⟩,⟨by (with_reducible repeat (first|apply Kd.S_alloc|apply Kd.S_drewN|apply Kd.S_drew));exact Kd.S_mono Aj.out (fun _ hk=>hk.1.2)⟩,⟨bx_⟩⟩
           ·rw [if_neg Dn] at H
            exact absurd H sm_
          ·rw [if_neg Do] at H
           exact absurd H sm_
       case rest =>
        clear Cq
        try clear c4
        try clear c6
        try clear Bn
        try clear Bl
        try clear Bk
        try clear Cu
        try clear Bx
        try clear Bw
        try clear Cn
        try clear Bv
        try clear Bu
        try clear Cm
        try clear Bt
        try clear Br
        obtain ⟨kq,At,rfl,HA,Co,Ai,Ah,HB⟩:=hcut
        cases kq with
        | zero=>exact absurd HA.out (by simp [garboardlaw57_RecordTorn.j0])
        | succ kj15 =>
         have H:=HA.out
         clear HA
         simp only [garboardlaw57_RecordTorn.j0] at H
         by_cases Dm:At = true
         ·subst Dm
          have H1:(some false) = some r:=by rw [if_pos rfl] at H;exact H
          clear H
          have H:=H1
          clear H1
          exact absurd (Option.some.inj H) (by rw [HRT.out];decide)
         ·replace Dm:=Bool.eq_false_iff.mpr Dm
          subst Dm
          have H1:((garboardref57_Copy.f kj15 Ac).bind fun Bi=>((record_Write.f kj15 Bi).bind fun Bm=>(if Bm.2 = 0 then (if (Bm.1.size:Int) = Ag then (if 0≤Ag then (if Ag≤(Af.size:Int) then (garboardlaw57_RecordTorn.j1 kj15 Aa Af ji12 Ac ((Af.extract 0 (Ag:Int).toNat).toList != Bm.1.toList)) else (none)) else (none)) else (garboardlaw57_RecordTorn.j1 kj15 Aa Af ji12 Ac true)) else (garboardlaw57_RecordTorn.j1 kj15 Aa Af ji12 Ac true)))) = some r:=by rw [if_neg (show ¬ (false = true) by decide)] at H;exact H
          clear H
          have H:=H1
          clear H1
          obtain ⟨Bi,Gb,H⟩:=bn_ H
          obtain ⟨⟨Bb,Bg⟩,Ga,H⟩:=bn_ H
          dsimp only at H
          have Cp:=Aside0.mk H
          clear H
          obtain ⟨Cs,Ci,Eb⟩:=Kd.S_slice Ah.out
          subst Eb
          go_upto_region 14 with (first|((with_reducible refine gate_callee (f:=20) rfl ?_);refine gm_ (some 64) Tryz.func20 #[.slice Cs Ac.length Ci] ?_;(with_reducible refine (garboardref57_Copy.calls kj15 _ _ Ac Bi _ ?side1 ?side2 Gb.out).mono ?_);(case side1=>exact cx_ ((Kd.S_reads' Ah.out).2.2));(case side2=>exact (Kd.S_reads' Ah.out).2.1);rintro e Gj ⟨Ff,rfl,Ap,hb⟩;refine ⟨_,rfl,?_⟩;have Ba:=Aside0.mk (Kd.S_lower (Kd.S_new' (Kd.S_new' Ap (Kd.S_lt (by (with_reducible repeat (first|apply Kd.S_alloc|apply Kd.S_drewN|apply Kd.S_drew));exact Ai.out))) (Kd.S_lt (by (with_reducible repeat (first|apply Kd.S_alloc|apply Kd.S_drewN|apply Kd.S_drew));exact Ah.out))) (below_size bx_));replace Ai:=Aside0.mk (Kd.S_elder' (by (with_reducible repeat (first|apply Kd.S_alloc|apply Kd.S_drewN|apply Kd.S_drew));exact Ai.out) (Kd.S_base Ap) hb);replace Ah:=Aside0.mk (Kd.S_elder' (by (with_reducible repeat (first|apply Kd.S_alloc|apply Kd.S_drewN|apply Kd.S_drew));exact Ah.out) (Kd.S_base Ap) hb);replace HB:=bs_ hb;(try clear hb);(try clear Ap);obtain ⟨Eo,Ei,Ea⟩:=Kd.S_slice Ba.out;subst Ea)|((with_reducible refine gate_callee (f:=19) rfl ?_);refine gm_ (some 65) Tryz.func19 #[.slice Eo Bi.length Ei] ?_;(with_reducible refine (record_Write.calls kj15 _ _ Bi Bb Bg _ ?side1 ?side2 ?side3 Ga.out).mono ?_);(case side1=>exact cx_ ((Kd.S_reads' Ba.out).2.2));(case side2=>exact (Kd.S_reads' Ba.out).2.1);(case side3=>exact HLW.out.below bx_);rintro e Gi ⟨rfl,hb⟩;refine ⟨_,rfl,?_⟩;replace Ai:=Aside0.mk (Kd.S_below (by (with_reducible repeat (first|apply Kd.S_alloc|apply Kd.S_drewN|apply Kd.S_drew));exact Ai.out) hb);replace Ah:=Aside0.mk (Kd.S_below (by (with_reducible repeat (first|apply Kd.S_alloc|apply Kd.S_drewN|apply Kd.S_drew));exact Ah.out) hb);replace Ba:=Aside0.mk (Kd.S_below (by (with_reducible repeat (first|apply Kd.S_alloc|apply Kd.S_drewN|apply Kd.S_drew));exact Ba.out) hb);replace HB:=bs_ hb;(try clear hb)))
          (try simp only [Act.put,List.setIfInBounds_toArray,List.set_cons_zero,List.set_cons_succ])
          go_cut [82] (fun Fi wc=>∃ (kq:Nat) (As:Bool),Fi = .bool As∧Aside0 (garboardlaw57_RecordTorn.j1 kq Aa Af ji12 Ac As = some r)∧Aside0 (kq≤kj15)∧Aside0 (Kd.S k52 52 wc w.heap.size (fun k_=>some k_≠((.slice Cs Ac.length Ci):Value).ownBlock) (.slice Aq Aa.length An) Aa)∧Aside0 (Kd.S k52 52 wc w.heap.size (fun k_=>some k_≠((.slice Aq Aa.length An):Value).ownBlock) (.slice Cs Ac.length Ci) Ac)∧Aside0 (Below w.heap.size w wc))
          case first =>
           have H:=Cp.out
           clear Cp
           by_cases Cl:Bg = 0
           ·rw [if_pos Cl] at H
            have Av:(Bg == 0) = true:=beq_iff_eq.mpr Cl
            have Dl:(Bg != 0) = false:=bne_eq_false_iff_eq.mpr Cl
            clear Cl
            (first|rw [Av]|(simp only [i64_w,i32_w];rw [Av])|skip)
            by_cases Ck:(Bb.size:Int) = Ag
            ·rw [if_pos Ck] at H
             have Dk:((Bb.size:Int) == Ag) = true:=beq_iff_eq.mpr Ck
             have Dj:((Bb.size:Int) != Ag) = false:=bne_eq_false_iff_eq.mpr Ck
             clear Ck
             by_cases Di:0≤Ag
             ·rw [if_pos Di] at H
              have Ez:=eq_true Di
              have Ey:decide (0≤Ag) = true:=decide_eq_true Di
              clear Di
              by_cases Dh:Ag≤(Af.size:Int)
              ·rw [if_pos Dh] at H
               have Ex:=eq_true Dh
               have Ew:decide (Ag≤(Af.size:Int)) = true:=decide_eq_true Dh
               clear Dh
               have H':=Aside0.mk H
               clear H
               go_wp2
               go_meet
               case rel=>exact ⟨_,(((Af.extract 0 (Ag:Int).toNat).toList != Bb.toList)),rg_,H',⟨by have:=Co.out;first|omega|exact Nat.le_refl _⟩,⟨by (with_reducible repeat (first|apply Kd.S_alloc|apply Kd.S_drewN|apply Kd.S_drew));exact Kd.S_mono Ai.out (fun _ hk=>hk.1)⟩,⟨by (with_reducible repeat (first|apply Kd.S_alloc|apply Kd.S_drewN|apply Kd.S_drew));exact Kd.S_mono Ah.out (fun _ hk=>hk.1)⟩,⟨bx_⟩⟩
              ·rw [if_neg Dh] at H
               exact absurd H sm_
             ·rw [if_neg Di] at H
              exact absurd H sm_
            ·rw [if_neg Ck] at H
             have Dk:((Bb.size:Int) == Ag) = false:=beq_eq_false_iff_ne.mpr Ck
             have Dj:((Bb.size:Int) != Ag) = true:=bne_iff_ne.mpr Ck
             have H':=Aside0.mk H
             clear H
             go_wp2
             go_meet
             case rel=>exact ⟨_,(true),rg_,H',⟨by have:=Co.out;first|omega|exact Nat.le_refl _⟩,⟨by (with_reducible repeat (first|apply Kd.S_alloc|apply Kd.S_drewN|apply Kd.S_drew));exact Kd.S_mono Ai.out (fun _ hk=>hk.1)⟩,⟨by (with_reducible repeat (first|apply Kd.S_alloc|apply Kd.S_drewN|apply Kd.S_drew));exact Kd.S_mono Ah.out (fun _ hk=>hk.1)⟩,⟨bx_⟩⟩
           ·rw [if_neg Cl] at H
            have Av:(Bg == 0) = false:=beq_eq_false_iff_ne.mpr Cl
            have Dl:(Bg != 0) = true:=bne_iff_ne.mpr Cl
            (first|rw [Av]|(simp only [i64_w,i32_w];rw [Av])|skip)
            have H':=Aside0.mk H
            clear H
            go_wp2
            go_meet
            case rel=>exact ⟨_,(true),rg_,H',⟨by have:=Co.out;first|omega|exact Nat.le_refl _⟩,⟨by (with_reducible repeat (first|apply Kd.S_alloc|apply Kd.S_drewN|apply Kd.S_drew));exact Kd.S_mono Ai.out (fun _ hk=>hk.1)⟩,⟨by (with_reducible repeat (first|apply Kd.S_alloc|apply Kd.S_drewN|apply Kd.S_drew));exact Kd.S_mono Ah.out (fun _ hk=>hk.1)⟩,⟨bx_⟩⟩
          case rest =>
           clear Cp
           try clear c4
           try clear c6
           try clear Bn
           try clear Bl
           try clear Bk
           try clear Cu
           try clear Bx
           try clear Bw
           try clear Cn
           try clear Bv
           try clear Bu
           try clear Cm
           try clear Bt
           try clear Br
           try clear Dm
           obtain ⟨kq,As,rfl,HA,Fu,Ai,Ah,HB⟩:=hcut
           cases kq with
           | zero=>exact absurd HA.out (by simp [garboardlaw57_RecordTorn.j1])
           | succ kj37 =>
            have H:=HA.out
            clear HA
            simp only [garboardlaw57_RecordTorn.j1] at H
            by_cases Dt:As = true
            ·subst Dt
             have H1:(some false) = some r:=by rw [if_pos rfl] at H;exact H
             clear H
             have H:=H1
             clear H1
             exact absurd (Option.some.inj H) (by rw [HRT.out];decide)
            ·replace Dt:=Bool.eq_false_iff.mpr Dt
             subst Dt
             have H1:(if (Ac.length:Int) = (Aa.length:Int) then (some (ji12 == (Af.size:Int))) else (if 0≤(wrap64 ((Ac.length:Int) + 1)) then (if (wrap64 ((Ac.length:Int) + 1))≤(Aa.length:Int) then ((garboardref57_Copy.f kj37 (Aa.take ((wrap64 ((Ac.length:Int) + 1)):Int).toNat)).bind fun Au=>((record_Write.f kj37 Au).bind fun Al=>(if Al.2 = 0 then (some (decide ((Al.1.size:Int) > ji12))) else (some false)))) else (none)) else (none))) = some r:=by rw [if_neg (show ¬ (false = true) by decide)] at H;exact H
             clear H
             have H:=H1
             clear H1
             by_cases Bj:(Ac.length:Int) = (Aa.length:Int)
             ·rw [if_pos Bj] at H
              have Dg:((Ac.length:Int) == (Aa.length:Int)) = true:=beq_iff_eq.mpr Bj
              have Df:((Ac.length:Int) != (Aa.length:Int)) = false:=bne_eq_false_iff_eq.mpr Bj
              have De:(Ac.length == Aa.length) = true:=by first|simpa using Bj|(simp at Bj ⊢;omega)
              clear Bj
              obtain rfl:=Option.some.inj H
              go_wp2
              go_ret
              exact ⟨by first|rfl|(simp [errW_none,errW_some]<;>rfl)|(simp only [← hji12];first|rfl|(simp [errW_none,errW_some]<;>rfl))|(simp [*,errW_none,errW_some]<;>rfl),bx_⟩
             ·rw [if_neg Bj] at H
              have Dg:((Ac.length:Int) == (Aa.length:Int)) = false:=beq_eq_false_iff_ne.mpr Bj
              have Df:((Ac.length:Int) != (Aa.length:Int)) = true:=bne_iff_ne.mpr Bj
              have De:(Ac.length == Aa.length) = false:=by first|simpa using Bj|(simp at Bj ⊢;omega)
              obtain ⟨ji49,hji49⟩:∃ j_:Int,(wrap64 ((Ac.length:Int) + 1)) = j_:=⟨_,rfl⟩
              replace H:(if 0≤(ji49) then (if (ji49)≤(Aa.length:Int) then ((garboardref57_Copy.f kj37 (Aa.take ((ji49):Int).toNat)).bind fun Au=>((record_Write.f kj37 Au).bind fun Al=>(if Al.2 = 0 then (some (decide ((Al.1.size:Int) > ji12))) else (some false)))) else (none)) else (none)) = some r:=by first|(rw [hji49] at H;exact H)|(simp only [hji49] at H ⊢;exact H)
              have Dy:(IntKind.i64.wrap ((Ac.length:Int) + 1)) = ji49:=(i64_w _).trans hji49
              by_cases Dd:0≤(ji49)
              ·rw [if_pos Dd] at H
               have Eu:=eq_true Dd
               have Et:decide (0≤(ji49)) = true:=decide_eq_true Dd
               clear Dd
               by_cases Dc:(ji49)≤(Aa.length:Int)
               ·rw [if_pos Dc] at H
                have Es:=eq_true Dc
                have Er:decide ((ji49)≤(Aa.length:Int)) = true:=decide_eq_true Dc
                clear Dc
                obtain ⟨y921,hy921⟩:∃ y_:List (S52),y_ = (Aa.take ((ji49):Int).toNat):=⟨_,rfl⟩
                replace H:((garboardref57_Copy.f kj37 y921).bind fun Au=>((record_Write.f kj37 Au).bind fun Al=>(if Al.2 = 0 then (some (decide ((Al.1.size:Int) > ji12))) else (some false)))) = some r:=by first|(rw [hy921];with_reducible exact H)|(have Cr:=(Option.bind_some _ _).symm.trans H;rw [hy921];with_reducible exact Cr)|(have Cr:=(Option.bind_some _ _).symm.trans H;with_reducible exact Cr)|with_reducible exact H|(rw [hy921];exact H)|exact H
                have By:=Aside0.mk hy921
                clear hy921
                obtain ⟨Au,Fz,H⟩:=bn_ H
                obtain ⟨⟨Du,Bf⟩,Fy,H⟩:=bn_ H
                dsimp only at H
                by_cases Cj:Bf = 0
                ·rw [if_pos Cj] at H
                 have Db:(Bf == 0) = true:=beq_iff_eq.mpr Cj
                 have Da:(Bf != 0) = false:=bne_eq_false_iff_eq.mpr Cj
                 clear Cj
                 obtain rfl:=Option.some.inj H
                 have Dw:((ji49):Int)≤((Aa.length:Int):Int):=da_
                 obtain ⟨Fk,Bo,_,Cw,_⟩:=info_parts info52
                 have Bd:Aa.length≤An:=(Kd.S_reads' Ai.out).2.1
                 have Cy:Kd.C k52 _ Aq Aa.length Aa:=(Kd.S_reads' Ai.out).2.2
                 have Cg:=cut_to (P:=Tryz.prog) 37 52 .i64 Tryz.underlying37 Bo Aq Aa.length An (ji49) (of_decide_eq_true (by first|(with_reducible assumption)|assumption)) Dw Bd
                 have Ce:=Kd.C_take (m:=((ji49):Int).toNat) Cy (by omega)
                 have Cb:y921.length = ((ji49):Int).toNat:=(by rw [By.out,List.length_take];omega)
                 rw [← By.out] at Ce
                 rw [← Cb] at Cg
                 have Am:=Aside0.mk Ce
                 have Dr:=Aside0.mk (show y921.length≤An from by omega)
                 clear Ce Cy Bd Bo Cw
                 have Fq:=Aside0.mk Cb
                 clear Cb
                 have Fs:=Aside0.mk (show ((ji49):Int).toNat≤Aa.length from by omega)
                 replace Dw:=eq_true Dw
                 go_wp2_with (first|((with_reducible refine gate_callee (f:=20) rfl ?_);refine gm_ (some 98) Tryz.func20 #[.slice Aq y921.length An] ?_;(with_reducible refine (garboardref57_Copy.calls kj37 _ _ y921 Au _ ?side1 ?side2 Fz.out).mono ?_);(case side1=>repeat (first|exact (by repeat (first|(with_reducible exact Am.out)|(with_reducible refine Kd.C_alloc ?_ _)|(with_reducible refine Kd.C_drewN ?_ _)|(with_reducible refine Kd.C_drew ?_)|exact Am.out))|(with_reducible refine Kd.C_alloc ?_ _)|(with_reducible refine Kd.C_drewN ?_ _)|(with_reducible refine Kd.C_drew ?_)));(case side2=>exact Dr.out);rintro e Gh ⟨Fe,rfl,Ap,hb⟩;refine ⟨_,rfl,?_⟩;have Ay:=Aside0.mk (Kd.S_lower (Kd.S_new' (Kd.S_new' Ap (Kd.S_lt (by (with_reducible repeat (first|apply Kd.S_alloc|apply Kd.S_drewN|apply Kd.S_drew));exact Ai.out))) (Kd.S_lt (by (with_reducible repeat (first|apply Kd.S_alloc|apply Kd.S_drewN|apply Kd.S_drew));exact Ah.out))) (below_size bx_));replace Ai:=Aside0.mk (Kd.S_elder' (by (with_reducible repeat (first|apply Kd.S_alloc|apply Kd.S_drewN|apply Kd.S_drew));exact Ai.out) (Kd.S_base Ap) hb);replace Ah:=Aside0.mk (Kd.S_elder' (by (with_reducible repeat (first|apply Kd.S_alloc|apply Kd.S_drewN|apply Kd.S_drew));exact Ah.out) (Kd.S_base Ap) hb);replace Am:=Aside0.mk (Kd.C_below (by repeat (first|(with_reducible exact Am.out)|(with_reducible refine Kd.C_alloc ?_ _)|(with_reducible refine Kd.C_drewN ?_ _)|(with_reducible refine Kd.C_drew ?_)|exact Am.out)) hb);replace HB:=bs_ hb;(try clear hb);(try clear Ap);obtain ⟨Em,Eh,Dz⟩:=Kd.S_slice Ay.out;subst Dz)|((with_reducible refine gate_callee (f:=19) rfl ?_);refine gm_ (some 99) Tryz.func19 #[.slice Em Au.length Eh] ?_;(with_reducible refine (record_Write.calls kj37 _ _ Au Du Bf _ ?side1 ?side2 ?side3 Fy.out).mono ?_);(case side1=>exact cx_ ((Kd.S_reads' Ay.out).2.2));(case side2=>exact (Kd.S_reads' Ay.out).2.1);(case side3=>exact HLW.out.below bx_);rintro e Gg ⟨rfl,hb⟩;refine ⟨_,rfl,?_⟩;replace Ai:=Aside0.mk (Kd.S_below (by (with_reducible repeat (first|apply Kd.S_alloc|apply Kd.S_drewN|apply Kd.S_drew));exact Ai.out) hb);replace Ah:=Aside0.mk (Kd.S_below (by (with_reducible repeat (first|apply Kd.S_alloc|apply Kd.S_drewN|apply Kd.S_drew));exact Ah.out) hb);replace Ay:=Aside0.mk (Kd.S_below (by (with_reducible repeat (first|apply Kd.S_alloc|apply Kd.S_drewN|apply Kd.S_drew));exact Ay.out) hb);replace Am:=Aside0.mk (Kd.C_below (by repeat (first|(with_reducible exact Am.out)|(with_reducible refine Kd.C_alloc ?_ _)|(with_reducible refine Kd.C_drewN ?_ _)|(with_reducible refine Kd.C_drew ?_)|exact Am.out)) hb);replace HB:=bs_ hb;(try clear hb)))
                 go_ret
                 exact ⟨by first|rfl|(simp [errW_none,errW_some]<;>rfl)|(simp only [← hji12,← hji49];first|rfl|(simp [errW_none,errW_some]<;>rfl))|(simp [*,errW_none,errW_some]<;>rfl),bx_⟩
                ·rw [if_neg Cj] at H
                 have Db:(Bf == 0) = false:=beq_eq_false_iff_ne.mpr Cj
                 have Da:(Bf != 0) = true:=bne_iff_ne.mpr Cj
                 exact absurd (Option.some.inj H) (by rw [HRT.out];decide)
               ·rw [if_neg Dc] at H
                exact absurd H sm_
              ·rw [if_neg Dd] at H
               exact absurd H sm_
      ·rw [if_neg Cm] at H
       exact absurd H sm_
     ·rw [if_neg Cn] at H
      exact absurd H sm_
   ·rw [if_neg Bn] at H
    have Bl:(Bh == 0) = false:=beq_eq_false_iff_ne.mpr Bn
    have Bk:(Bh != 0) = true:=bne_iff_ne.mpr Bn
    exact absurd (Option.some.inj H) (by rw [HRT.out];decide)
  ·replace c6:=Bool.eq_false_iff.mpr c6
   subst c6
   have H1:(some true) = some r:=by rw [if_neg (show ¬ (false = true) by decide)] at H;exact H
   clear H
   have H:=H1
   clear H1
   obtain rfl:=Option.some.inj H
   go_enter Tryz.func7,Tryz.ntmps7
   go_wp2_with (first|((with_reducible refine gate_callee (f:=10) rfl ?_);refine gl_ (some 15) Tryz.func10 #[] (garboardlaw57_awake.calls k  true _ (HLW.out.below bx_) A3.out) ?_;clear HB;intro Gf hb HB;clear hb)|((with_reducible refine gate_callee (f:=25) rfl ?_);refine gm_ (some 18) Tryz.func25 #[.slice A0 l0.length c0] ?_;(with_reducible refine (garboardlaw57_few.calls k _ _ l0 false _ ?side1 ?side2 A5.out).mono ?_);(case side1=>exact cx_ (Kd.C_below Ek.out HB.out));(case side2=>exact El.out);rintro e Ge ⟨rfl,hb⟩;refine ⟨_,rfl,?_⟩;replace HB:=bs_ hb;(try clear hb)))
   go_ret
   exact ⟨rf_,bx_⟩
 ·replace c4:=Bool.eq_false_iff.mpr c4
  subst c4
  have H1:(some false) = some r:=by rw [if_neg (show ¬ (false = true) by decide)] at H;exact H
  clear H
  have H:=H1
  clear H1
  exact absurd (Option.some.inj H) (by rw [HRT.out];decide)
open Go.Lib Go.Proofs.YtcmbggahndfnnaaGreatDoor.NatTh
theorem awake_evt:Ev (fun k=>garboardlaw57_awake.f k) true:=⟨20,fun _ h=>awake_on h⟩
theorem take_bytes {l got:List S52} (h:got = l.take got.length):(recB l).take (recB got).length = recB got:=by
 have e:recB l = recB got ++ recB (l.drop got.length):=by
  have:=congrArg recB (List.take_append_drop got.length l).symm
  rw [recB_append,← h] at this
  exact this
 rw [e,List.take_left]
theorem wrap_next {n m:Nat} (h:n < m) (hm:m≤1000):wrap64 ((n:Int) + 1) = ((n + 1:Nat):Int)∧0≤wrap64 ((n:Int) + 1)∧wrap64 ((n:Int) + 1)≤(m:Int):=by unfold wrap64;omega
theorem take_le (l:List S52) (n:Nat) (h:l.length≤12):(l.take n).length≤1024∧(l.take n).length < 1000000:=by rw [List.length_take];omega
theorem Torn_law (l0:List S26) (a1:Int) (h:Ar l0) (w0:0≤a1) (w1:a1≤65535):Ev (fun k=>garboardlaw57_RecordTorn.f k l0 a1) true:=by
 unfold garboardlaw57_RecordTorn.f
 refine awake_evt.bind (ev_t rfl ?_)
 obtain ⟨b,hb,hS⟩:=few_ex h
 refine hb.bind ?_
 cases b with
 | false=>exact ev_e Bool.false_ne_true (Ev.now _)
 | true =>
  refine ev_t rfl ?_
  obtain ⟨Ab,hsm⟩:=hS rfl
  obtain ⟨l,hl,hR,Aa⟩:=chain_ev hsm Ab
  have hW:=write_ev hR (by omega)
  have hbl:=(recB_len l hR.ok).1
  refine hl.bind ((copy_ev hR.sm (by omega)).bind (hW.bind (ev_t rfl ?_)))
  obtain ⟨m,rfl⟩:∃ m:Nat,a1 = (m:Int):=⟨a1.toNat,by omega⟩
  have hz:(mkB (recB l)).size = (recB l).length:=mkB_size _
  dsimp only
  have Ae:wrap64 (((mkB (recB l)).size:Int) + 1) = (((recB l).length + 1:Nat):Int):=by rw [hz];unfold wrap64;omega
  have Ah:wrap64 (m:Int) = (m:Int):=by unfold wrap64;omega
  have hat:m % ((recB l).length + 1)≤(recB l).length:=Nat.le_of_lt_succ (Nat.mod_lt _ (Nat.succ_pos _))
  have htm:Int.tmod (wrap64 (m:Int)) (wrap64 (((mkB (recB l)).size:Int) + 1)) = ((m % ((recB l).length + 1):Nat):Int):=by rw [Ae,Ah];rfl
  rw [htm,Ae]
  generalize hA:m % ((recB l).length + 1) = a at hat
  refine ev_e (by omega) (ev_t (by omega) (ev_t (by rw [hz];omega) ?_))
  have hex:(mkB (recB l)).extract 0 ((a:Nat):Int).toNat = mkB ((recB l).take a):=bs_inj (by rw [Int.toNat_natCast,bs_to];rfl)
  obtain ⟨got,hg,hRg,Ac,Af,hbs,hst⟩:=recover_ev (mkB ((recB l).take a)) (by rw [mkB_size,List.length_take];omega)
  rw [bs_mkB] at hbs
  obtain ⟨k1,k2,k3,k4⟩:=torn_core hR (by omega) hRg hat hbs hst
  rw [hex]
  refine hg.bind (ev_e (by show ¬ (got.length:Int) > l.length;omega) (ev_e (by show ¬ ((recB got).length:Int) > (a:Int);omega) (ev_t (by omega) (ev_t (by show (got.length:Int)≤l.length;omega) ?_))))
  dsimp only
  rw [Int.toNat_natCast,← k1]
  refine (same_refl hRg.sm (by omega)).bind ?_
  have hWg:=write_ev hRg (by omega)
  refine Ev.step (fun k=>by rw [garboardlaw57_RecordTorn.j0,if_neg (by simp)]) ?_
  refine (copy_ev hRg.sm (by omega)).bind (hWg.bind (ev_t rfl (ev_t (by show ((mkB (recB got)).size:Int) = _;rw [mkB_size]) (ev_t (by omega) (ev_t (by rw [hz];omega) ?_)))))
  have Ad:(mkB (recB l)).extract 0 (((recB got).length:Nat):Int).toNat = mkB (recB got):=bs_inj (by rw [Int.toNat_natCast,bs_to,bs_mkB,bs_mkB,take_bytes k1])
  rw [Ad]
  refine Ev.step (fun k=>by rw [garboardlaw57_RecordTorn.j1,if_neg (by simp)]) ?_
  by_cases c:(got.length:Int) = (l.length:Int)
  ·refine ev_t c ?_
   have hgl:got = l:=by rw [k1];exact List.take_of_length_le (by omega)
   have:((a:Int) == ((mkB (recB l)).size:Int)) = true:=by
    rw [hz]
    rw [hgl] at k3
    exact beq_iff_eq.2 (by omega)
   rw [this]
   exact Ev.now _
  ·have hlt:got.length < l.length:=Nat.lt_of_le_of_ne k2 (fun e=>c (congrArg Nat.cast e))
   obtain ⟨Ag,p0,p1⟩:=wrap_next hlt (Nat.le_trans Aa (by decide))
   refine ev_e c ?_
   refine ev_t p0 ?_
   refine ev_t p1 ?_
   rw [Ag,Int.toNat_natCast]
   have hRn:=hR.take (got.length + 1)
   have hWn:=write_ev hRn (take_le l _ Aa).1
   refine (copy_ev hRn.sm (take_le l _ Aa).2).bind (hWn.bind (ev_t rfl ?_))
   dsimp only
   rw [mkB_size,decide_eq_true (Int.ofNat_lt.2 (k4 hlt))]
   exact Ev.now _
end Go.Proofs.YtcmbggahndfnnaaGreatDoor.Pr
namespace Go.Proofs.YtcmbggahndfnnaaGreatDoor.Pr
open Go.ChangeShapes Go.WideShapes Go.ChangeAt Go.RowKit Go.Proofs.YtcmbggahndfnnaaGreatDoorW.PrintWords
set_option maxRecDepth 100000 in
theorem open_u16_recordTorn {H:Type} {enc:TypeId × Value→H} {W:World} {r:Reach} {b0:Nat} {v:Value} {d:DataW H} {p:List MemPlace} (hv:Value.okWide Tryz.prog W r b0 55 v) (h:DataW.Trod enc Tryz.prog W 0 (fun _=>true) true 55 v d p):∃ s,v = .int .u16 s∧(Lit.int .u16 s).wf = true:=by
 obtain ⟨s,e,_,_,hw⟩:=open_int Tryz.underlying55 hv h
 exact ⟨s,e,hw⟩
set_option maxRecDepth 100000 in
theorem recordTorn_lifted (os:Os) (started:os.Started) (H:Type) (enc:TypeId × Value→H) :
  ReturnsInHanded {} Tryz.checked os 7 .any (fun w args=>(Rows.recordTornSpec.pre enc Tryz.prog Tryz.f7 [] false w args∧laidMetH Tryz.prog laid5 w)∧sizedMet enc Tryz.prog Tryz.f7 (OpenSpec.ofChange Rows.recordTornSpec) false w args)
   (Rows.recordTornSpec.post enc Tryz.prog Tryz.f7 false true false false):=by
 refine returnsInHanded_of_change_and (C:=Tryz.checked) (X:=fun w _=>laidMetH Tryz.prog laid5 w) (fun _ _ _ hh h=>h.of_heap hh) own started (by kernel_rfl) Tryz.func7
  (ChangeSpec.witness_shaped (enc:=enc) (C:=Tryz.checked) (os:=os) (X:=fun w _=>laidMetH Tryz.prog laid5 w) false (World.doorLaid Tryz.prog 400 os) #[.slice none 0 0,.int .u16 0] 8 rfl (World.shaped_of_RefB (by kernel_rfl) (by kernel_rfl)) (by kernel_rfl) (by kernel_rfl) (by kernel_rfl) (door_met os _)) ?_
 intro W base args ds gs Ad Ab hW _ _ hL _
 have Aa:∀ (j:Nat) t v,Tryz.f7.params[j]? = some t→args[j]? = some v→Value.okWide Tryz.prog W .any base t v:=Ab
 have hW':=hW
 obtain ⟨p,q,Af,hV,rfl,hfz,hnd⟩:=hW
 have hA:DataW.TrodAll enc Tryz.prog W 0 (fun _=>true) true Tryz.f7.params.toList args.toList ds p:=Af
 rw [Tryz.params7] at hA Aa
 obtain ⟨v0,Ak,d0,Am,p0,q0,Ae,rfl,rfl,h0,r0⟩:=trodAll_cons hA
 obtain ⟨v1,Aj,d1,Al,p1,q1,rfl,rfl,rfl,h1,r1⟩:=trodAll_cons r0
 obtain ⟨rfl,rfl,rfl⟩:=trodAll_nil r1
 obtain rfl:args = #[v0,v1]:=by cases args;simp_all
 obtain ⟨rfl,rfl⟩:=trodVars_none hV
 have Ah:∀ x ∈ p0,x.block < W.heap.size:=by obtain ⟨m,hm⟩:=h0;exact DataW.trod_lt m _ _ _ hm
 have Ag:∀ x ∈ p1,x.block < W.heap.size:=by obtain ⟨m,hm⟩:=h1;exact DataW.trod_lt m _ _ _ hm
 have k0:=h0
 have k1:=h1
 obtain ⟨A0,Ac,a0,rfl,Ai,C0,z0⟩:=openEs h0 (okWide_slice Tryz.underlying45 (Aa 0 45 v0 rfl rfl))
 obtain ⟨a1,rfl,w1⟩:=open_u16_recordTorn (Aa 1 55 v1 rfl rfl) h1
 have hT:=laid_tab hL
 clear Af Ab Aa
 obtain ⟨k,hk⟩:=(Torn_law a0 a1 (fun e he=>⟨Nat.lt_of_le_of_lt (z0 e he).2.1 (by decide),Nat.lt_of_le_of_lt (z0 e he).2.2.1 (by decide)⟩) ((Lit.wf_int_iff .u16 a1).1 w1).1 ((Lit.wf_int_iff .u16 a1).1 w1).2).rounds
 refine (garboardlaw57_RecordTorn.calls k A0 Ac a0 a1 true W C0 Ai hT hk rfl).mono fun e W' ⟨he,bel⟩=>?_
 subst he
 exact ⟨_,rfl,_,_,_,[],_,[],hW',trodAll_mk1 (shut_bool Tryz.underlying4 _),(trodAll_cons_mk (Below.trod laidOut (by kernel_rfl) (of_decide_eq_true (by kernel_rfl)) k0 bel Ah) (trodAll_cons_mk (Below.trod laidOut (by kernel_rfl) (of_decide_eq_true (by kernel_rfl)) k1 bel Ag) trodAll_mk0)),rfl,bel.frame _,fun h=>by cases h⟩
theorem recordTorn_row:Rows.RecordTornSaid :=
 OpenClaim.holds_of_wide 7 Tryz.f7 rfl rfl rfl rfl rfl rfl rfl ⟨rfl,rfl,rfl,rfl,rfl⟩ rfl rfl rfl rfl rfl (by kernel_rfl) Tryz.func7 (by kernel_rfl)
  (of_decide_eq_true (by kernel_rfl)) (by unfold Func.isWrapper;first|(rw [if_pos (by decide +kernel)];kernel_rfl)|(rw [if_neg (by decide +kernel)];exact ⟨rfl,rfl⟩))
  (fun os started H enc _=>recordTorn_lifted os started H enc)
end Go.Proofs.YtcmbggahndfnnaaGreatDoor.Pr
namespace Go.Proofs.YtcmbggahndfnnaaGreatDoor
open Go
theorem recordTorn_card_holds:Rows.RecordTornCardSaid :=
 Claim7.holds_tied_plain_at .later [] [.data,.data,.data,.sentinel,.sentinel] true (true, "530430785d8fc1b95937d3c83c748bc57a44dc57239518a96d9fcf3156f792ad") true
  Pr.recordTorn_row (fun _ h=>by cases h) (by kernel_rfl) (fun _ h=>by cases h) recordTorn_row_tie rfl ⟨rfl,rfl⟩ (by kernel_rfl) rfl
  (fun f fn hf hfn=>by
   obtain rfl:f = 7:=Option.some.inj ((show Tryz.prog.funcNamed "garboard/garboardlaw57.RecordTorn" = some 7 by kernel_rfl).symm.trans hf) |>.symm
   obtain rfl:fn = Tryz.f7:=(Option.some.inj (Tryz.func7.symm.trans hfn)).symm
   exact ⟨by kernel_rfl,fun j t ht=>by
    rw [Tryz.params7] at ht
    have hm:t ∈ [45,55]:=by simpa using Array.mem_of_getElem? ht
    have Aa:([45,55].all fun u=>!Tryz.prog.wantsStandIn u) = true:=by kernel_rfl
    exact (show Tryz.prog.wantsStandIn t = false by simpa using List.all_eq_true.1 Aa t hm)⟩)
  (by kernel_rfl)
end Go.Proofs.YtcmbggahndfnnaaGreatDoor
