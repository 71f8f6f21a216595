/- Part 1 of 1: garboardlaw02.IntegerQuotients (quotient and remainder give the number back, the remainder is in its bounds; at most 120 bytes each) answers true for every input, and each argument reads behind the call as before. The library's tables are tied to the program's text by the card. -/
import Derived.Below
import Derived.Deep.Draws
import Derived.Deep.AppendLies
import Derived.Maps.AppendAt
import Derived.OwnWalk
import Derived.Laws.BytesArg
import Derived.Laws.MakeOwn
import Derived.Laws.OwnMore
import Derived.Deep.OwnRows
import Derived.Tactics
import Derived.Lib.ConvBytes
import Derived.Laws.Slices
import Derived.WalkKit
import Derived.KernelRfl
import Derived.RowKit3
import Derived.Deep.LoopGhost
import Derived.Deep.QuietTactic
import Derived.BigQuiet
import Derived.WideLaws
import Derived.Deep.DeepCutAuto
import Derived.Deep.CutBlock
import Derived.Deep.RegionHeld3
import Derived.Laws.Rows
import Derived.Lib.AppendStr
import Derived.ArgAppend
import Derived.Laws.IdiomCopy
import Derived.RowKit
import Derived.OrdersHeld
import Derived.Laws.BitsLemmas
import Derived.Laws.StructEq
import Derived.Test.YtaknchlegjcdhaaGreatDoorProg
import Derived.Shelf.Strings.Builder1
import Derived.Shelf.Strings.Builder2
import Derived.Shelf.Small.Wraps
import Derived.Shelf.Strings.BuilderF
import Derived.Shelf.Strings.BuilderK
import Derived.Shelf.Strings.Builder2Cap
import Derived.Shelf.Strconv.Itoa0
import Derived.Shelf.Strconv.Itoa1
import Derived.Shelf.LaysM
import Derived.Shelf.Strconv.Itoa2
import Derived.Shelf.Strconv.Itoa3
import Derived.Shelf.Strconv.Clone
import Derived.Shelf.Strconv.SyntaxError
import Derived.Shelf.Strconv.Lower
import Derived.Shelf.Strconv.ParseUint10
import Derived.Shelf.Strconv.ParseUint10Empty
import Derived.Shelf.Strconv.RangeError
import Derived.Shelf.Strconv.ParseUintEmpty
import Derived.Shelf.Strconv.ParseUint10b64
import Derived.Shelf.Strconv.ParseUint10b32
import Derived.Shelf.Strconv.ParseUint10b16
import Derived.Shelf.Strconv.ParseUint10b8
import Derived.Ground.MpProg
import Derived.Shelf.Pu.ParseUintPublic10
import Derived.Shelf.Strings.Prefix
import Derived.Shelf.Bits.Mul64
import Derived.Shelf.Strings.Repeat
import Derived.Ground.Names2Prog
import Derived.Shelf.Slices.SearchI
import Derived.Lib.AtoiErrMem
import Derived.Lib.ItoaNum
import Derived.Lib.ParseIntB
import Derived.RangeFuncFrom
import Derived.RangeFuncBox
import Derived.RangeFuncLeaves
import Derived.RangeFuncCalls
import Derived.RangeFuncBound
import Derived.Shelf.Abstract
import Derived.OwnWalkIn
import Derived.TacticsInMore
import Derived.LoopNIn
import Derived.LoopIn
import Derived.Lib.Hide
import Derived.Lib.FrozenHead
import Derived.Lib.AppendIntMem
import Derived.Lib.Walk
import Derived.Lib.ItoaMem
import Derived.BigCall
import Derived.BigGuard
import Derived.Great.BuildSlice
import Derived.Lib.SmallJoins
import Derived.LaidMore
import Derived.ProofKit
import Derived.Stop.Joined
import Derived.SizedLaws
import Derived.DataShut
import Derived.SevenTiedAt
import Derived.Test.YtaknchlegjcdhaaGreatDoorCz6
set_option linter.unusedVariables false
set_option linter.unusedSimpArgs false
namespace Go.Proofs.YtaknchlegjcdhaaGreatDoor.Pr
open Go.RowKit Go.Lib Go.Proofs.YtaknchlegjcdhaaGreatDoorW.PrintWords Go.Proofs.YtaknchlegjcdhaaGreatDoorW.PrintLast Go.Proofs.YtaknchlegjcdhaaGreatDoorW.PrintMore Go.Proofs.YtaknchlegjcdhaaGreatDoor.NatTh
theorem nil_toList:(⟨#[]⟩:ByteArray).toList = ([]:List UInt8):=toL _
end Go.Proofs.YtaknchlegjcdhaaGreatDoor.Pr
namespace Go.Proofs.YtaknchlegjcdhaaGreatDoor.Pr
open Go.RowKit Go.Proofs.YtaknchlegjcdhaaGreatDoorW.PrintWords Go.Proofs.YtaknchlegjcdhaaGreatDoorW.PrintLast Go.Proofs.YtaknchlegjcdhaaGreatDoorW.PrintMore
attribute [local go_sem] max2_int min2_int max_two min_two max_three min_three max_four min_four
set_option linter.unusedVariables false
set_option linter.unusedSimpArgs false
def garboardlaw02_IntegerQuotients.j0:Nat→ByteArray→ByteArray→Bool→Option (Bool)
 | 0,_,_,_=>none
 | k + 1,x0,x1,x23=>if x23 = true then ((garboardlaw02_awake.f k).bind fun t885=>(some t885)) else ((integer_DivMod.f k x0 x1).bind fun bt886=>(if bt886.2.2 = 0 then ((integer_Mul.f k bt886.1 x1).bind fun bt890=>((integer_Add.f k bt890.1 bt886.2.1).bind fun bt892=>((integer_Abs.f k x1).bind fun bt894=>((natural_Compare.f k bt886.2.1 bt894.1).bind fun bt896=>(if (wrap64 ((wrap64 ((wrap64 (bt890.2 + bt892.2)) + bt894.2)) + bt896.2)) = 0 then (if bt892.1.toList = x0.toList then (some (bt896.1 == (-1))) else (some false)) else (some false)))))) else (if bt886.1.toList = ([]:List UInt8) then (if bt886.2.1.toList = ([]:List UInt8) then (if x1.toList = ([48]:List UInt8) then ((integer_Valid.f k x0).bind fun t889=>(some ((bt886.2.2 == 16) == t889))) else (some ((bt886.2.2 == 16) == false))) else (some false)) else (some false))))
def garboardlaw02_IntegerQuotients.f (k:Nat) (a0:ByteArray) (a1:ByteArray):Option (Bool):=(garboardlaw02_awake.f k).bind fun t880=>(if t880 = true then ((garboardlaw02_long.f k (([a0,a1]:List ByteArray))).bind fun t884=>(garboardlaw02_IntegerQuotients.j0 k a0 a1 t884)) else (garboardlaw02_IntegerQuotients.j0 k a0 a1 true))
set_option maxHeartbeats 8000000 in
set_option maxRecDepth 100000 in
theorem garboardlaw02_IntegerQuotients.calls (k:Nat) (a0:ByteArray) (a1:ByteArray) (r:Bool) (w:World) (hL:LaidW w) (h:garboardlaw02_IntegerQuotients.f k a0 a1 = some r) (hr:r = true) :
  Calls Tryz.prog 8 #[.string a0,.string a1] w fun e w'=>e = .returned (.bool r)∧Below w.heap.size w w':=by
 have HB:=Aside0.mk (Below.refl w.heap.size w)
 have HLW:=Aside0.mk hL
 clear hL
 have HRT:=Aside0.mk (hr)
 clear hr
 have H:((garboardlaw02_awake.f k).bind fun t880=>(if t880 = true then ((garboardlaw02_long.f k (([a0,a1]:List ByteArray))).bind fun t884=>(garboardlaw02_IntegerQuotients.j0 k a0 a1 t884)) else (garboardlaw02_IntegerQuotients.j0 k a0 a1 true))) = some r:=h
 clear h
 have HC3:=Aside0.mk H
 clear H
 go_enter Tryz.func8,Tryz.ntmps8
 go_upto_region 1 with (fail)
 go_cut [23] (fun v23 wc=>∃ (kq:Nat) (x23_2:Bool),v23 = .bool x23_2∧Aside0 (garboardlaw02_IntegerQuotients.j0 kq a0 a1 x23_2 = some r)∧Aside0 (kq≤k)∧Aside0 (Below w.heap.size w wc))
 case first =>
  have H:=HC3.out
  clear HC3
  replace H:=Option.bind_eq_some_iff.mp H
  obtain ⟨t880,A40,H⟩:=H
  replace H:(if t880 = true then ((garboardlaw02_long.f k (([a0,a1]:List ByteArray))).bind fun t884=>(garboardlaw02_IntegerQuotients.j0 k a0 a1 t884)) else (garboardlaw02_IntegerQuotients.j0 k a0 a1 true)) = some r:=H
  have A4:=Aside0.mk A40
  clear A40
  by_cases c5:t880 = true
  ·subst c5
   have H1:((garboardlaw02_long.f k (([a0,a1]:List ByteArray))).bind fun t884=>(garboardlaw02_IntegerQuotients.j0 k a0 a1 t884)) = some r:=by rw [if_pos rfl] at H;exact H
   clear H
   have H:=H1
   clear H1
   obtain ⟨y881,hy881⟩:∃ y_:List ByteArray,y_ = (([a0,a1]:List ByteArray)):=⟨_,rfl⟩
   replace H:((garboardlaw02_long.f k y881).bind fun t884=>(garboardlaw02_IntegerQuotients.j0 k a0 a1 t884)) = some r:=by first|(rw [hy881];with_reducible exact H)|(have H2_:=(Option.bind_some _ _).symm.trans H;rw [hy881];with_reducible exact H2_)|(have H2_:=(Option.bind_some _ _).symm.trans H;with_reducible exact H2_)|with_reducible exact H|(rw [hy881];exact H)|exact H
   have Ny881:=Aside0.mk hy881
   clear hy881
   replace H:=Option.bind_eq_some_iff.mp H
   obtain ⟨t884,A60,H⟩:=H
   replace H:(garboardlaw02_IntegerQuotients.j0 k a0 a1 t884) = some r:=H
   have A6:=Aside0.mk A60
   clear A60
   have H':=Aside0.mk H
   clear H
   go_wp2_with (first|((with_reducible refine gate_callee (f:=10) rfl ?_);refine goesL_ (some 16) rfl rfl Tryz.func10 (by kernel_rfl) rfl #[] rfl (by (try simp only [List.map_toArray,List.map_cons,List.map_nil]);first|done|rfl|(simp only [List.length_drop,List.length_take];rfl)) ?_;(with_reducible refine (garboardlaw02_awake.calls k  true _ ?side1 A4.out).mono ?_);(case side1=>exact HLW.out.below (by repeat (first|(with_reducible first|exact HB.out|apply below_alloc|apply pw_below_drewN|apply below_drew1)|exact HB.out)));rintro e w7 ⟨rfl,hb⟩;refine ⟨_,rfl,?_⟩;have n0_:=Aside0.mk (below_step (by repeat (first|(with_reducible first|exact HB.out|apply below_alloc|apply pw_below_drewN|apply below_drew1)|exact HB.out)) hb);clear HB;have HB:=n0_;clear n0_;(try clear hb);(try clear hb2);(try clear hk);(try clear hi))|((with_reducible refine gate_dst (N:=21) rfl ?_);(try (refine gate_guard (by rfl) ?_;dsimp only));refine Kd.R_lit Kd.string _ 9 ?hg (N:=21) ?hd (xs:=([a0,a1]:List ByteArray)) (inner:=[.string a0,.string a1]) (ok:=fun _=>True) (okp:=fun _=>True) ?hr ?hp (fun _ hk=>hk) trivial (Below.refl _ _) (Nat.le_refl _) (by simp) ?_;(case hd=>rfl);(case hg=>rfl);(case hr=>first|(go_simp;done)|(go_simp;rfl));(case hp=>exact (Reps.one (show Kd.M Kd.string _ _ _ a0 [.string a0] from rfl) (Reps.one (show Kd.M Kd.string _ _ _ a1 [.string a1] from rfl) (Reps.none _ _))));intro v882 w8 ho9 hb hg_ hnew_;clear hg_ hnew_;(first|rw [← Ny881.out] at ho9|(simp only [Int.reduceToNat] at ho9;rw [← Ny881.out] at ho9));have n0_:=Aside0.mk (Kd.R_lower ho9 (below_size (by repeat (first|(with_reducible first|exact HB.out|apply below_alloc|apply pw_below_drewN|apply below_drew1)|exact HB.out))));have n1_:=Aside0.mk (below_step (by repeat (first|(with_reducible first|exact HB.out|apply below_alloc|apply pw_below_drewN|apply below_drew1)|exact HB.out)) hb);clear HB;have HO883:=n0_;have HB:=n1_;clear n0_ n1_;clear hb ho9;obtain ⟨Ao10,co10,eo10⟩:=Kd.R_slice HO883.out;subst eo10)|(go_at_call 11;(with_reducible refine (garboardlaw02_long.calls k _ _ y881 t884 _ ?side1 ?side2 A6.out).mono ?_);(case side1=>repeat (first|exact (Kd.R_reads' HO883.out).2.2|(with_reducible refine Kd.C_alloc ?_ _)|(with_reducible refine Kd.C_drewN ?_ _)|(with_reducible refine Kd.C_drew ?_)));(case side2=>exact (Kd.R_reads' HO883.out).2.1);rintro e w' ⟨rfl,⟨nd,rfl⟩⟩))
   go_meet
   case rel=>exact ⟨_,(t884),(by first|rfl|(simp;done)|(simp [*];done)),H',⟨by first|omega|exact Nat.le_refl _⟩,⟨by repeat (first|(with_reducible first|exact HB.out|apply below_alloc|apply pw_below_drewN|apply below_drew1)|exact HB.out)⟩⟩
  ·replace c5:=Bool.eq_false_iff.mpr c5
   subst c5
   have H1:(garboardlaw02_IntegerQuotients.j0 k a0 a1 true) = some r:=by rw [if_neg (show ¬ (false = true) by decide)] at H;exact H
   clear H
   have H:=H1
   clear H1
   have H':=Aside0.mk H
   clear H
   go_wp2_with (first|((with_reducible refine gate_callee (f:=10) rfl ?_);refine goesL_ (some 16) rfl rfl Tryz.func10 (by kernel_rfl) rfl #[] rfl (by (try simp only [List.map_toArray,List.map_cons,List.map_nil]);first|done|rfl|(simp only [List.length_drop,List.length_take];rfl)) ?_;(with_reducible refine (garboardlaw02_awake.calls k  false _ ?side1 A4.out).mono ?_);(case side1=>exact HLW.out.below (by repeat (first|(with_reducible first|exact HB.out|apply below_alloc|apply pw_below_drewN|apply below_drew1)|exact HB.out)));rintro e w11 ⟨rfl,hb⟩;refine ⟨_,rfl,?_⟩;have n0_:=Aside0.mk (below_step (by repeat (first|(with_reducible first|exact HB.out|apply below_alloc|apply pw_below_drewN|apply below_drew1)|exact HB.out)) hb);clear HB;have HB:=n0_;clear n0_;(try clear hb);(try clear hb2);(try clear hk);(try clear hi)))
   go_meet
   case rel=>exact ⟨_,(true),(by first|rfl|(simp;done)|(simp [*];done)),H',⟨by first|omega|exact Nat.le_refl _⟩,⟨by repeat (first|(with_reducible first|exact HB.out|apply below_alloc|apply pw_below_drewN|apply below_drew1)|exact HB.out)⟩⟩
 case rest =>
  clear HC3
  try clear c1
  try clear p2
  try clear c5
  try clear c8
  try clear c10
  obtain ⟨kq,x23_2,rfl,HA,HJ2,HB⟩:=hcut
  cases kq with
  | zero=>exact absurd HA.out (by simp [garboardlaw02_IntegerQuotients.j0])
  | succ kj2 =>
   have H:=HA.out
   clear HA
   simp only [garboardlaw02_IntegerQuotients.j0] at H
   by_cases c12:x23_2 = true
   ·subst c12
    have H1:((garboardlaw02_awake.f kj2).bind fun t885=>(some t885)) = some r:=by rw [if_pos rfl] at H;exact H
    clear H
    have H:=H1
    clear H1
    replace H:=Option.bind_eq_some_iff.mp H
    obtain ⟨t885,A130,H⟩:=H
    replace H:(some t885) = some r:=H
    have A13:=Aside0.mk A130
    clear A130
    obtain rfl:=Option.some.inj H
    go_wp2_with (first|((with_reducible refine gate_callee (f:=10) rfl ?_);refine goesL_ (some 24) rfl rfl Tryz.func10 (by kernel_rfl) rfl #[] rfl (by (try simp only [List.map_toArray,List.map_cons,List.map_nil]);first|done|rfl|(simp only [List.length_drop,List.length_take];rfl)) ?_;(with_reducible refine (garboardlaw02_awake.calls kj2  t885 _ ?side1 A13.out).mono ?_);(case side1=>exact HLW.out.below (by repeat (first|(with_reducible first|exact HB.out|apply below_alloc|apply pw_below_drewN|apply below_drew1)|exact HB.out)));rintro e w14 ⟨rfl,hb⟩;refine ⟨_,rfl,?_⟩;have n0_:=Aside0.mk (below_step (by repeat (first|(with_reducible first|exact HB.out|apply below_alloc|apply pw_below_drewN|apply below_drew1)|exact HB.out)) hb);clear HB;have HB:=n0_;clear n0_;(try clear hb);(try clear hb2);(try clear hk);(try clear hi)))
    go_ret
    exact ⟨by first|rfl|(simp [errW_none,errW_some]<;>rfl)|(simp [*,errW_none,errW_some]<;>rfl),by repeat (first|(with_reducible first|exact HB.out|apply below_alloc|apply pw_below_drewN|apply below_drew1)|exact HB.out)⟩
   ·replace c12:=Bool.eq_false_iff.mpr c12
    subst c12
    have H1:((integer_DivMod.f kj2 a0 a1).bind fun bt886=>(if bt886.2.2 = 0 then ((integer_Mul.f kj2 bt886.1 a1).bind fun bt890=>((integer_Add.f kj2 bt890.1 bt886.2.1).bind fun bt892=>((integer_Abs.f kj2 a1).bind fun bt894=>((natural_Compare.f kj2 bt886.2.1 bt894.1).bind fun bt896=>(if (wrap64 ((wrap64 ((wrap64 (bt890.2 + bt892.2)) + bt894.2)) + bt896.2)) = 0 then (if bt892.1.toList = a0.toList then (some (bt896.1 == (-1))) else (some false)) else (some false)))))) else (if bt886.1.toList = ([]:List UInt8) then (if bt886.2.1.toList = ([]:List UInt8) then (if a1.toList = ([48]:List UInt8) then ((integer_Valid.f kj2 a0).bind fun t889=>(some ((bt886.2.2 == 16) == t889))) else (some ((bt886.2.2 == 16) == false))) else (some false)) else (some false)))) = some r:=by rw [if_neg (show ¬ (false = true) by decide)] at H;exact H
    clear H
    have H:=H1
    clear H1
    replace H:=Option.bind_eq_some_iff.mp H
    obtain ⟨⟨t886,t887,t888⟩,A150,H⟩:=H
    replace H:(if t888 = 0 then ((integer_Mul.f kj2 t886 a1).bind fun bt890=>((integer_Add.f kj2 bt890.1 t887).bind fun bt892=>((integer_Abs.f kj2 a1).bind fun bt894=>((natural_Compare.f kj2 t887 bt894.1).bind fun bt896=>(if (wrap64 ((wrap64 ((wrap64 (bt890.2 + bt892.2)) + bt894.2)) + bt896.2)) = 0 then (if bt892.1.toList = a0.toList then (some (bt896.1 == (-1))) else (some false)) else (some false)))))) else (if t886.toList = ([]:List UInt8) then (if t887.toList = ([]:List UInt8) then (if a1.toList = ([48]:List UInt8) then ((integer_Valid.f kj2 a0).bind fun t889=>(some ((t888 == 16) == t889))) else (some ((t888 == 16) == false))) else (some false)) else (some false))) = some r:=H
    have A15:=Aside0.mk A150
    clear A150
    by_cases c16:t888 = 0
    ·rw [if_pos c16] at H
     have c16b0:(t888 == 0) = true:=beq_iff_eq.mpr c16
     have c16b1:(t888 != 0) = false:=bne_eq_false_iff_eq.mpr c16
     clear c16
     replace H:=Option.bind_eq_some_iff.mp H
     obtain ⟨⟨t890,t891⟩,A170,H⟩:=H
     replace H:((integer_Add.f kj2 t890 t887).bind fun bt892=>((integer_Abs.f kj2 a1).bind fun bt894=>((natural_Compare.f kj2 t887 bt894.1).bind fun bt896=>(if (wrap64 ((wrap64 ((wrap64 (t891 + bt892.2)) + bt894.2)) + bt896.2)) = 0 then (if bt892.1.toList = a0.toList then (some (bt896.1 == (-1))) else (some false)) else (some false))))) = some r:=H
     have A17:=Aside0.mk A170
     clear A170
     replace H:=Option.bind_eq_some_iff.mp H
     obtain ⟨⟨t892,t893⟩,A180,H⟩:=H
     replace H:((integer_Abs.f kj2 a1).bind fun bt894=>((natural_Compare.f kj2 t887 bt894.1).bind fun bt896=>(if (wrap64 ((wrap64 ((wrap64 (t891 + t893)) + bt894.2)) + bt896.2)) = 0 then (if t892.toList = a0.toList then (some (bt896.1 == (-1))) else (some false)) else (some false)))) = some r:=H
     have A18:=Aside0.mk A180
     clear A180
     replace H:=Option.bind_eq_some_iff.mp H
     obtain ⟨⟨t894,t895⟩,A190,H⟩:=H
     replace H:((natural_Compare.f kj2 t887 t894).bind fun bt896=>(if (wrap64 ((wrap64 ((wrap64 (t891 + t893)) + t895)) + bt896.2)) = 0 then (if t892.toList = a0.toList then (some (bt896.1 == (-1))) else (some false)) else (some false))) = some r:=H
     have A19:=Aside0.mk A190
     clear A190
     replace H:=Option.bind_eq_some_iff.mp H
     obtain ⟨⟨t896,t897⟩,A200,H⟩:=H
     replace H:(if (wrap64 ((wrap64 ((wrap64 (t891 + t893)) + t895)) + t897)) = 0 then (if t892.toList = a0.toList then (some (t896 == (-1))) else (some false)) else (some false)) = some r:=H
     have A20:=Aside0.mk A200
     clear A200
     by_cases c21:(wrap64 ((wrap64 ((wrap64 (t891 + t893)) + t895)) + t897)) = 0
     ·rw [if_pos c21] at H
      have c21b0:((wrap64 ((wrap64 ((wrap64 (t891 + t893)) + t895)) + t897)) == 0) = true:=beq_iff_eq.mpr c21
      have c21b1:((wrap64 ((wrap64 ((wrap64 (t891 + t893)) + t895)) + t897)) != 0) = false:=bne_eq_false_iff_eq.mpr c21
      clear c21
      by_cases c22:t892.toList = a0.toList
      ·rw [if_pos c22] at H
       have c22b0:(t892.toList == a0.toList) = true:=beq_iff_eq.mpr c22
       have c22b1:(t892.toList != a0.toList) = false:=bne_eq_false_iff_eq.mpr c22
       clear c22
       obtain rfl:=Option.some.inj H
       go_wp2_with (first|((with_reducible refine gate_callee (f:=30) rfl ?_);refine goesL_ (some 28) rfl rfl Tryz.func30 (by kernel_rfl) rfl #[.string a0,.string a1] rfl (by (try simp only [List.map_toArray,List.map_cons,List.map_nil]);first|done|rfl|(simp only [List.length_drop,List.length_take];rfl)) ?_;(with_reducible refine (integer_DivMod.calls kj2 a0 a1 t886 t887 t888 _ ?side1 A15.out).mono ?_);(case side1=>exact HLW.out.below (by repeat (first|(with_reducible first|exact HB.out|apply below_alloc|apply pw_below_drewN|apply below_drew1)|exact HB.out)));rintro e w23 ⟨rfl,hb⟩;refine ⟨_,rfl,?_⟩;have n0_:=Aside0.mk (below_step (by repeat (first|(with_reducible first|exact HB.out|apply below_alloc|apply pw_below_drewN|apply below_drew1)|exact HB.out)) hb);clear HB;have HB:=n0_;clear n0_;(try clear hb);(try clear hb2);(try clear hk);(try clear hi))|((with_reducible refine gate_callee (f:=28) rfl ?_);refine goesL_ (some 54) rfl rfl Tryz.func28 (by kernel_rfl) rfl #[.string t886,.string a1] rfl (by (try simp only [List.map_toArray,List.map_cons,List.map_nil]);first|done|rfl|(simp only [List.length_drop,List.length_take];rfl)) ?_;(with_reducible refine (integer_Mul.calls kj2 t886 a1 t890 t891 _ ?side1 A17.out).mono ?_);(case side1=>exact HLW.out.below (by repeat (first|(with_reducible first|exact HB.out|apply below_alloc|apply pw_below_drewN|apply below_drew1)|exact HB.out)));rintro e w24 ⟨rfl,hb⟩;refine ⟨_,rfl,?_⟩;have n0_:=Aside0.mk (below_step (by repeat (first|(with_reducible first|exact HB.out|apply below_alloc|apply pw_below_drewN|apply below_drew1)|exact HB.out)) hb);clear HB;have HB:=n0_;clear n0_;(try clear hb);(try clear hb2);(try clear hk);(try clear hi))|((with_reducible refine gate_callee (f:=24) rfl ?_);refine goesL_ (some 60) rfl rfl Tryz.func24 (by kernel_rfl) rfl #[.string t890,.string t887] rfl (by (try simp only [List.map_toArray,List.map_cons,List.map_nil]);first|done|rfl|(simp only [List.length_drop,List.length_take];rfl)) ?_;(with_reducible refine (integer_Add.calls kj2 t890 t887 t892 t893 _ ?side1 A18.out).mono ?_);(case side1=>exact HLW.out.below (by repeat (first|(with_reducible first|exact HB.out|apply below_alloc|apply pw_below_drewN|apply below_drew1)|exact HB.out)));rintro e w25 ⟨rfl,hb⟩;refine ⟨_,rfl,?_⟩;have n0_:=Aside0.mk (below_step (by repeat (first|(with_reducible first|exact HB.out|apply below_alloc|apply pw_below_drewN|apply below_drew1)|exact HB.out)) hb);clear HB;have HB:=n0_;clear n0_;(try clear hb);(try clear hb2);(try clear hk);(try clear hi))|((with_reducible refine gate_callee (f:=14) rfl ?_);refine goesL_ (some 65) rfl rfl Tryz.func14 (by kernel_rfl) rfl #[.string a1] rfl (by (try simp only [List.map_toArray,List.map_cons,List.map_nil]);first|done|rfl|(simp only [List.length_drop,List.length_take];rfl)) ?_;(with_reducible refine (integer_Abs.calls kj2 a1 t894 t895 _ A19.out).mono ?_);rintro e w26 ⟨rfl,hb⟩;refine ⟨_,rfl,?_⟩;have n0_:=Aside0.mk (below_step (by repeat (first|(with_reducible first|exact HB.out|apply below_alloc|apply pw_below_drewN|apply below_drew1)|exact HB.out)) hb);clear HB;have HB:=n0_;clear n0_;(try clear hb);(try clear hb2);(try clear hk);(try clear hi))|((with_reducible refine gate_callee (f:=36) rfl ?_);refine goesL_ (some 71) rfl rfl Tryz.func36 (by kernel_rfl) rfl #[.string t887,.string t894] rfl (by (try simp only [List.map_toArray,List.map_cons,List.map_nil]);first|done|rfl|(simp only [List.length_drop,List.length_take];rfl)) ?_;(with_reducible refine (natural_Compare.calls kj2 t887 t894 t896 t897 _ A20.out).mono ?_);rintro e w27 ⟨rfl,hb⟩;refine ⟨_,rfl,?_⟩;have n0_:=Aside0.mk (below_step (by repeat (first|(with_reducible first|exact HB.out|apply below_alloc|apply pw_below_drewN|apply below_drew1)|exact HB.out)) hb);clear HB;have HB:=n0_;clear n0_;(try clear hb);(try clear hb2);(try clear hk);(try clear hi)))
       go_ret
       exact ⟨by first|rfl|(simp [errW_none,errW_some]<;>rfl)|(simp [*,errW_none,errW_some]<;>rfl),by repeat (first|(with_reducible first|exact HB.out|apply below_alloc|apply pw_below_drewN|apply below_drew1)|exact HB.out)⟩
      ·rw [if_neg c22] at H
       have c22b0:(t892.toList == a0.toList) = false:=beq_eq_false_iff_ne.mpr c22
       have c22b1:(t892.toList != a0.toList) = true:=bne_iff_ne.mpr c22
       exact absurd (Option.some.inj H) (by rw [HRT.out];decide)
     ·rw [if_neg c21] at H
      have c21b0:((wrap64 ((wrap64 ((wrap64 (t891 + t893)) + t895)) + t897)) == 0) = false:=beq_eq_false_iff_ne.mpr c21
      have c21b1:((wrap64 ((wrap64 ((wrap64 (t891 + t893)) + t895)) + t897)) != 0) = true:=bne_iff_ne.mpr c21
      exact absurd (Option.some.inj H) (by rw [HRT.out];decide)
    ·rw [if_neg c16] at H
     have c16b0:(t888 == 0) = false:=beq_eq_false_iff_ne.mpr c16
     have c16b1:(t888 != 0) = true:=bne_iff_ne.mpr c16
     by_cases c38:t886.toList = ([]:List UInt8)
     ·rw [if_pos c38] at H
      have c38b0:(t886.toList == ([]:List UInt8)) = true:=beq_iff_eq.mpr c38
      have c38b1:(t886.toList != ([]:List UInt8)) = false:=bne_eq_false_iff_eq.mpr c38
      clear c38
      by_cases c39:t887.toList = ([]:List UInt8)
      ·rw [if_pos c39] at H
       have c39b0:(t887.toList == ([]:List UInt8)) = true:=beq_iff_eq.mpr c39
       have c39b1:(t887.toList != ([]:List UInt8)) = false:=bne_eq_false_iff_eq.mpr c39
       clear c39
       by_cases c40:a1.toList = ([48]:List UInt8)
       ·rw [if_pos c40] at H
        have c40b0:(a1.toList == ([48]:List UInt8)) = true:=beq_iff_eq.mpr c40
        have c40b1:(a1.toList != ([48]:List UInt8)) = false:=bne_eq_false_iff_eq.mpr c40
        clear c40
        replace H:=Option.bind_eq_some_iff.mp H
        obtain ⟨t889,A410,H⟩:=H
        replace H:(some ((t888 == 16) == t889)) = some r:=H
        have A41:=Aside0.mk A410
        clear A410
        obtain rfl:=Option.some.inj H
        go_wp2_with (first|((with_reducible refine gate_callee (f:=30) rfl ?_);refine goesL_ (some 28) rfl rfl Tryz.func30 (by kernel_rfl) rfl #[.string a0,.string a1] rfl (by (try simp only [List.map_toArray,List.map_cons,List.map_nil]);first|done|rfl|(simp only [List.length_drop,List.length_take];rfl)) ?_;(with_reducible refine (integer_DivMod.calls kj2 a0 a1 t886 t887 t888 _ ?side1 A15.out).mono ?_);(case side1=>exact HLW.out.below (by repeat (first|(with_reducible first|exact HB.out|apply below_alloc|apply pw_below_drewN|apply below_drew1)|exact HB.out)));rintro e w42 ⟨rfl,hb⟩;refine ⟨_,rfl,?_⟩;have n0_:=Aside0.mk (below_step (by repeat (first|(with_reducible first|exact HB.out|apply below_alloc|apply pw_below_drewN|apply below_drew1)|exact HB.out)) hb);clear HB;have HB:=n0_;clear n0_;(try clear hb);(try clear hb2);(try clear hk);(try clear hi))|(go_at_call 18;(with_reducible refine (integer_Valid.calls kj2 a0 t889 _ A41.out).mono ?_);rintro e w43 ⟨rfl,hb⟩;have n0_:=Aside0.mk (below_step (by repeat (first|(with_reducible first|exact HB.out|apply below_alloc|apply pw_below_drewN|apply below_drew1)|exact HB.out)) hb);clear HB;have HB:=n0_;clear n0_;(try clear hb);(try clear hb2);(try clear hk);(try clear hi)))
        go_ret
        exact ⟨by first|rfl|(simp [errW_none,errW_some]<;>rfl)|(simp [*,errW_none,errW_some]<;>rfl),by repeat (first|(with_reducible first|exact HB.out|apply below_alloc|apply pw_below_drewN|apply below_drew1)|exact HB.out)⟩
       ·rw [if_neg c40] at H
        have c40b0:(a1.toList == ([48]:List UInt8)) = false:=beq_eq_false_iff_ne.mpr c40
        have c40b1:(a1.toList != ([48]:List UInt8)) = true:=bne_iff_ne.mpr c40
        obtain rfl:=Option.some.inj H
        go_wp2_with (first|((with_reducible refine gate_callee (f:=30) rfl ?_);refine goesL_ (some 28) rfl rfl Tryz.func30 (by kernel_rfl) rfl #[.string a0,.string a1] rfl (by (try simp only [List.map_toArray,List.map_cons,List.map_nil]);first|done|rfl|(simp only [List.length_drop,List.length_take];rfl)) ?_;(with_reducible refine (integer_DivMod.calls kj2 a0 a1 t886 t887 t888 _ ?side1 A15.out).mono ?_);(case side1=>exact HLW.out.below (by repeat (first|(with_reducible first|exact HB.out|apply below_alloc|apply pw_below_drewN|apply below_drew1)|exact HB.out)));rintro e w44 ⟨rfl,hb⟩;refine ⟨_,rfl,?_⟩;have n0_:=Aside0.mk (below_step (by repeat (first|(with_reducible first|exact HB.out|apply below_alloc|apply pw_below_drewN|apply below_drew1)|exact HB.out)) hb);clear HB;have HB:=n0_;clear n0_;(try clear hb);(try clear hb2);(try clear hk);(try clear hi)))
        go_ret
        exact ⟨by first|rfl|(simp [errW_none,errW_some]<;>rfl)|(simp [*,errW_none,errW_some]<;>rfl),by repeat (first|(with_reducible first|exact HB.out|apply below_alloc|apply pw_below_drewN|apply below_drew1)|exact HB.out)⟩
      ·rw [if_neg c39] at H
       have c39b0:(t887.toList == ([]:List UInt8)) = false:=beq_eq_false_iff_ne.mpr c39
       have c39b1:(t887.toList != ([]:List UInt8)) = true:=bne_iff_ne.mpr c39
       exact absurd (Option.some.inj H) (by rw [HRT.out];decide)
     ·rw [if_neg c38] at H
      have c38b0:(t886.toList == ([]:List UInt8)) = false:=beq_eq_false_iff_ne.mpr c38
      have c38b1:(t886.toList != ([]:List UInt8)) = true:=bne_iff_ne.mpr c38
      exact absurd (Option.some.inj H) (by rw [HRT.out];decide)
end Go.Proofs.YtaknchlegjcdhaaGreatDoor.Pr
set_option linter.unusedVariables false
set_option linter.unusedSimpArgs false
namespace Go.Proofs.YtaknchlegjcdhaaGreatDoor.Pr
open Go.RowKit Go.Lib Go.Proofs.YtaknchlegjcdhaaGreatDoorW.PrintWords Go.Proofs.YtaknchlegjcdhaaGreatDoorW.PrintLast Go.Proofs.YtaknchlegjcdhaaGreatDoorW.PrintMore Go.Proofs.YtaknchlegjcdhaaGreatDoor.NatTh
theorem it0_:(it 0).toList = ([48]:List UInt8):=it_pl 0 [48] (by decide +kernel) (by decide +kernel)
theorem Quotients_law (a b:ByteArray):Ev (fun k=>garboardlaw02_IntegerQuotients.f k a b) true:=by
 refine law_head [a,b] (by simp) (fun k t=>garboardlaw02_IntegerQuotients.j0 k a b t) _ (fun k=>rfl) (fun k=>by rw [garboardlaw02_IntegerQuotients.j0,if_pos rfl]) (fun hs=>?_)
 have sa:=hs a (by simp)
 have sb:=hs b (by simp)
 have ha:=s1_120 sa
 have hb:=s1_120 sb
 refine Ev.step (fun k=>by rw [garboardlaw02_IntegerQuotients.j0,if_neg (by simp)]) (Ev.bind (zDivMod_ev a b ha hb) ?_)
 unfold divZ
 by_cases h:okB a b = true
 ·obtain ⟨h1,h2⟩:=ok_and h
  rw [if_pos h]
  by_cases h0:zof b = 0
  ·rw [if_pos h0]
   have hb0:b.toList = ([48]:List UInt8):=by rw [← it_zof h2,h0];exact it0_
   refine Ev.congr (fun k=>(if_neg (by decide)).trans ((if_pos nil_toList).trans ((if_pos nil_toList).trans (if_pos hb0)))) (Ev.bind (zValid_ev a ha) (Ev.congr (fun k=>?_) (Ev.now _)))
   rw [h1]
   rfl
  ·rw [if_neg h0]
   obtain ⟨x,rfl,hx⟩:=is_it h1 sa
   obtain ⟨y,rfl,hy⟩:=is_it h2 sb
   rw [zof_it,zof_it] at *
   have h5:=Int.emod_nonneg x h0
   have h6:=Int.emod_lt x h0
   have zq:Zs 120 (x / y):=hx.le (Int.natAbs_ediv_le_natAbs _ _)
   have zm:Zs 120 (x % y):=hy.le (by omega)
   have zp_:Zs 240 (x / y * y):=zq.mul hy
   have e1:=zMul_ev _ _ (zq.s1 (by omega) (by omega)) hb
   have e2:=zAdd_ev _ _ (zp_.s1 (by omega) (by omega)) (zm.s1 (by omega) (by omega))
   have e3:=zAbs_ev _ hb
   rw [mul_it] at e1
   rw [add_it] at e2
   rw [abs_it] at e3
   have e4:=cmp_e (zm.sh (by omega) (by omega)) (hy.sh (by omega) (by omega))
   have e5:it (x % y) = num (x % y).natAbs:=by unfold it;rw [if_neg (by omega)]
   rw [← e5,ord_lt (by omega)] at e4
   refine Ev.congr (fun k=>if_pos rfl) (Ev.bind e1 (Ev.bind e2 (Ev.bind e3 (Ev.bind e4 (Ev.congr (fun k=>?_) (Ev.now _))))))
   have e6:x / y * y + x % y = x:=by
    rw [Int.mul_comm]
    exact Int.mul_ediv_add_emod x y
   dsimp only
   rw [if_pos (by decide +kernel),e6,if_pos rfl]
   rfl
 ·rw [if_neg h]
  refine Ev.congr (fun k=>(if_neg (by decide)).trans ((if_pos nil_toList).trans (if_pos nil_toList))) ?_
  by_cases hb0:b.toList = ([48]:List UInt8)
  ·have h2:iv b = true:=by
    have:b = it 0:=bs_inj (by rw [← toL,← toL,hb0,it0_])
    rw [this]
    exact iv_it 0
   have h1:iv a = false:=by
    cases hv:iv a with
    | false=>rfl
    | true=>exact absurd (by unfold okB;rw [hv,h2];rfl) h
   refine Ev.congr (fun k=>if_pos hb0) (Ev.bind (zValid_ev a ha) (Ev.congr (fun k=>?_) (Ev.now _)))
   rw [h1]
   rfl
  ·exact Ev.congr (fun k=>if_neg hb0) (Ev.now _)
end Go.Proofs.YtaknchlegjcdhaaGreatDoor.Pr
namespace Go.Proofs.YtaknchlegjcdhaaGreatDoor.Pr
set_option linter.unusedVariables false
set_option linter.unusedSimpArgs false
open Go.ChangeShapes Go.WideShapes Go.ChangeAt Go.RowKit Go.Proofs.YtaknchlegjcdhaaGreatDoorW.PrintWords
set_option maxRecDepth 100000 in
theorem integerQuotients_lifted (os:Os) (started:os.Started) (H:Type) (enc:TypeId × Value→H) :
  ReturnsInHanded {} Tryz.checked os 8 .any (fun w args=>(Rows.integerQuotientsSpec.pre enc Tryz.prog Tryz.f8 [] false w args∧laidMetH Tryz.prog laid5 w)∧sizedMet enc Tryz.prog Tryz.f8 (OpenSpec.ofChange Rows.integerQuotientsSpec) false w args)
   (Rows.integerQuotientsSpec.post enc Tryz.prog Tryz.f8 false true false false):=by
 refine returnsInHanded_of_change_and (C:=Tryz.checked) (X:=fun w _=>laidMetH Tryz.prog laid5 w) (fun _ _ _ hh h=>h.of_heap hh) own started (by kernel_rfl) Tryz.func8
  (ChangeSpec.witness_shaped (enc:=enc) (C:=Tryz.checked) (os:=os) (X:=fun w _=>laidMetH Tryz.prog laid5 w) false (World.doorLaid Tryz.prog 400 os) #[.string ⟨#[]⟩,.string ⟨#[]⟩] 8 rfl (World.shaped_of_RefB (by kernel_rfl) (by kernel_rfl)) (by kernel_rfl) (by kernel_rfl) (by kernel_rfl) (door_met os _)) ?_
 intro W base args ds gs before hval0 hW _ _ hL _
 have hval:∀ (j:Nat) t v,Tryz.f8.params[j]? = some t→args[j]? = some v→Value.okWide Tryz.prog W .any base t v:=hval0
 have hW':=hW
 obtain ⟨p,q,hA0,hV,rfl,hfz,hnd⟩:=hW
 have hA:DataW.TrodAll enc Tryz.prog W 0 (fun _=>true) true Tryz.f8.params.toList args.toList ds p:=hA0
 rw [Tryz.params8] at hA hval
 obtain ⟨v0,vs0,d0,ds0,p0,q0,hargs,rfl,rfl,h0,r0⟩:=trodAll_cons hA
 obtain ⟨v1,vs1,d1,ds1,p1,q1,rfl,rfl,rfl,h1,r1⟩:=trodAll_cons r0
 obtain ⟨rfl,rfl,rfl⟩:=trodAll_nil r1
 obtain rfl:args = #[v0,v1]:=by cases args;simp_all
 obtain ⟨rfl,rfl⟩:=trodVars_none hV
 have lt0:∀ x ∈ p0,x.block < W.heap.size:=by obtain ⟨m,hm⟩:=h0;exact DataW.trod_lt m _ _ _ hm
 have lt1:∀ x ∈ p1,x.block < W.heap.size:=by obtain ⟨m,hm⟩:=h1;exact DataW.trod_lt m _ _ _ hm
 have k0:=h0
 have k1:=h1
 obtain ⟨a0,rfl⟩:=openS (hval 0 9 v0 rfl rfl) h0
 obtain ⟨a1,rfl⟩:=openS (hval 1 9 v1 rfl rfl) h1
 have hT:=laid_tab hL
 clear hA0 hval0 hval
 obtain ⟨k,hk⟩:=(Quotients_law a0 a1).rounds
 refine (garboardlaw02_IntegerQuotients.calls k a0 a1 true W hT hk rfl).mono fun e W' ⟨he,bel⟩=>?_
 subst he
 exact ⟨_,rfl,_,_,_,[],_,[],hW',trodAll_mk1 (shut_bool Tryz.underlying4 _),(trodAll_cons_mk (Below.trod laidOut (by kernel_rfl) (of_decide_eq_true (by kernel_rfl)) k0 bel lt0) (trodAll_cons_mk (Below.trod laidOut (by kernel_rfl) (of_decide_eq_true (by kernel_rfl)) k1 bel lt1) trodAll_mk0)),rfl,bel.frame _,fun h=>by cases h⟩
theorem integerQuotients_row:Rows.IntegerQuotientsSaid :=
 OpenClaim.holds_of_wide 8 Tryz.f8 rfl rfl rfl rfl rfl rfl rfl ⟨rfl,rfl,rfl,rfl,rfl⟩ rfl rfl rfl rfl rfl (by kernel_rfl) Tryz.func8 (by kernel_rfl)
  (of_decide_eq_true (by kernel_rfl)) (by unfold Func.isWrapper;first|(rw [if_pos (by decide +kernel)];kernel_rfl)|(rw [if_neg (by decide +kernel)];exact ⟨rfl,rfl⟩))
  (fun os started H enc _=>integerQuotients_lifted os started H enc)
end Go.Proofs.YtaknchlegjcdhaaGreatDoor.Pr
namespace Go.Proofs.YtaknchlegjcdhaaGreatDoor
open Go
theorem integerQuotients_card_holds:Rows.IntegerQuotientsCardSaid :=
 Claim7.holds_tied_plain_at .later [] [.data,.data,.data,.sentinel,.sentinel] true (true, "0afddc1d5b9fa5532b563da11c0d14509486c5c674670dcc3f772662c7f756d9") true
  Pr.integerQuotients_row (fun _ h=>by cases h) (by kernel_rfl) (fun _ h=>by cases h) integerQuotients_row_tie rfl ⟨rfl,rfl⟩ (by kernel_rfl) rfl
  (fun f fn hf hfn=>by
   obtain rfl:f = 8:=Option.some.inj ((show Tryz.prog.funcNamed "garboard/garboardlaw02.IntegerQuotients" = some 8 by kernel_rfl).symm.trans hf) |>.symm
   obtain rfl:fn = Tryz.f8:=(Option.some.inj (Tryz.func8.symm.trans hfn)).symm
   exact ⟨by kernel_rfl,fun j t ht=>by
    rw [Tryz.params8] at ht
    have hm:t ∈ [9,9]:=by simpa using Array.mem_of_getElem? ht
    have hall:([9,9].all fun u=>!Tryz.prog.wantsStandIn u) = true:=by kernel_rfl
    exact (show Tryz.prog.wantsStandIn t = false by simpa using List.all_eq_true.1 hall t hm)⟩)
  (by kernel_rfl)
end Go.Proofs.YtaknchlegjcdhaaGreatDoor
