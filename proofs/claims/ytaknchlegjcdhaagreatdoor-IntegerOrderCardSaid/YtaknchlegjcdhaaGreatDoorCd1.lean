/- Part 1 of 1: garboardlaw02.IntegerOrder (the order is that of the differences' signs, is kept by sums and by products with positive numbers; at most 120 bytes each) answers true for every input, and each argument reads behind the call as before. The library's tables are tied to the program's text by the card. -/
import Derived.Below
import Derived.Deep.Draws
import Derived.Deep.AppendLies
import Derived.Maps.AppendAt
import Derived.OwnWalk
import Derived.Laws.BytesArg
import Derived.Laws.MakeOwn
import Derived.Laws.OwnMore
import Derived.Deep.OwnRows
import Derived.Tactics
import Derived.Lib.ConvBytes
import Derived.Laws.Slices
import Derived.WalkKit
import Derived.KernelRfl
import Derived.RowKit3
import Derived.Deep.LoopGhost
import Derived.Deep.QuietTactic
import Derived.BigQuiet
import Derived.WideLaws
import Derived.Deep.DeepCutAuto
import Derived.Deep.CutBlock
import Derived.Deep.RegionHeld3
import Derived.Laws.Rows
import Derived.Lib.AppendStr
import Derived.ArgAppend
import Derived.Laws.IdiomCopy
import Derived.RowKit
import Derived.OrdersHeld
import Derived.Laws.BitsLemmas
import Derived.Laws.StructEq
import Derived.Test.YtaknchlegjcdhaaGreatDoorProg
import Derived.Shelf.Strings.Builder1
import Derived.Shelf.Strings.Builder2
import Derived.Shelf.Small.Wraps
import Derived.Shelf.Strings.BuilderF
import Derived.Shelf.Strings.BuilderK
import Derived.Shelf.Strings.Builder2Cap
import Derived.Shelf.Strconv.Itoa0
import Derived.Shelf.Strconv.Itoa1
import Derived.Shelf.LaysM
import Derived.Shelf.Strconv.Itoa2
import Derived.Shelf.Strconv.Itoa3
import Derived.Shelf.Strconv.Clone
import Derived.Shelf.Strconv.SyntaxError
import Derived.Shelf.Strconv.Lower
import Derived.Shelf.Strconv.ParseUint10
import Derived.Shelf.Strconv.ParseUint10Empty
import Derived.Shelf.Strconv.RangeError
import Derived.Shelf.Strconv.ParseUintEmpty
import Derived.Shelf.Strconv.ParseUint10b64
import Derived.Shelf.Strconv.ParseUint10b32
import Derived.Shelf.Strconv.ParseUint10b16
import Derived.Shelf.Strconv.ParseUint10b8
import Derived.Ground.MpProg
import Derived.Shelf.Pu.ParseUintPublic10
import Derived.Shelf.Strings.Prefix
import Derived.Shelf.Bits.Mul64
import Derived.Shelf.Strings.Repeat
import Derived.Ground.Names2Prog
import Derived.Shelf.Slices.SearchI
import Derived.Lib.AtoiErrMem
import Derived.Lib.ItoaNum
import Derived.Lib.ParseIntB
import Derived.RangeFuncFrom
import Derived.RangeFuncBox
import Derived.RangeFuncLeaves
import Derived.RangeFuncCalls
import Derived.RangeFuncBound
import Derived.Shelf.Abstract
import Derived.OwnWalkIn
import Derived.TacticsInMore
import Derived.LoopNIn
import Derived.LoopIn
import Derived.Lib.Hide
import Derived.Lib.FrozenHead
import Derived.Lib.AppendIntMem
import Derived.Lib.Walk
import Derived.Lib.ItoaMem
import Derived.BigCall
import Derived.BigGuard
import Derived.Great.BuildSlice
import Derived.Lib.SmallJoins
import Derived.LaidMore
import Derived.ProofKit
import Derived.Stop.Joined
import Derived.SizedLaws
import Derived.DataShut
import Derived.SevenTiedAt
import Derived.Test.YtaknchlegjcdhaaGreatDoorCz6
set_option linter.unusedVariables false
set_option linter.unusedSimpArgs false
namespace Go.Proofs.YtaknchlegjcdhaaGreatDoor.Pr
open Go.RowKit Go.Lib Go.Proofs.YtaknchlegjcdhaaGreatDoorW.PrintWords Go.Proofs.YtaknchlegjcdhaaGreatDoorW.PrintLast Go.Proofs.YtaknchlegjcdhaaGreatDoorW.PrintMore Go.Proofs.YtaknchlegjcdhaaGreatDoor.NatTh
theorem it_inj {y z:Int} (h:it y = it z):y = z:=by rw [← zof_it y,h,zof_it]
theorem Zs.sub {e:Nat} {y z:Int} (hy:Zs e y) (hz:Zs e z):Zs (e + 1) (y - z):=(Sz.add hy hz).le (by omega)
end Go.Proofs.YtaknchlegjcdhaaGreatDoor.Pr
namespace Go.Proofs.YtaknchlegjcdhaaGreatDoor.Pr
open Go.RowKit Go.Proofs.YtaknchlegjcdhaaGreatDoorW.PrintWords Go.Proofs.YtaknchlegjcdhaaGreatDoorW.PrintLast Go.Proofs.YtaknchlegjcdhaaGreatDoorW.PrintMore
attribute [local go_sem] max2_int min2_int max_two min_two max_three min_three max_four min_four
set_option linter.unusedVariables false
set_option linter.unusedSimpArgs false
mutual
def garboardlaw02_IntegerOrder.j0:Nat→ByteArray→ByteArray→ByteArray→Bool→Option (Bool)
 | 0,_,_,_,_=>none
 | k + 1,x0,x1,x2,x37=>if x37 = true then ((garboardlaw02_awake.f k).bind fun t854=>(some t854)) else ((integer_Valid.f k x0).bind fun t855=>(if t855 = true then ((integer_Valid.f k x1).bind fun t856=>(if t856 = true then ((integer_Valid.f k x2).bind fun t857=>(garboardlaw02_IntegerOrder.j1 k x0 x1 x2 (!t857))) else (garboardlaw02_IntegerOrder.j1 k x0 x1 x2 true))) else (garboardlaw02_IntegerOrder.j1 k x0 x1 x2 true)))
def garboardlaw02_IntegerOrder.j1:Nat→ByteArray→ByteArray→ByteArray→Bool→Option (Bool)
 | 0,_,_,_,_=>none
 | k + 1,x0,x1,x2,x51=>if x51 = true then (some true) else ((integer_Compare.f k x0 x1).bind fun bt858=>((integer_Compare.f k x1 x0).bind fun bt860=>((integer_Sub.f k x0 x1).bind fun bt862=>((integer_Sign.f k bt862.1).bind fun bt864=>((integer_Add.f k x0 x2).bind fun bt866=>((integer_Add.f k x1 x2).bind fun bt868=>((integer_Compare.f k bt866.1 bt868.1).bind fun bt870=>((integer_Mul.f k x0 x2).bind fun bt872=>((integer_Mul.f k x1 x2).bind fun bt874=>((integer_Compare.f k bt872.1 bt874.1).bind fun bt876=>((integer_Sign.f k x2).bind fun bt878=>(if (wrap64 ((wrap64 ((wrap64 ((wrap64 ((wrap64 ((wrap64 ((wrap64 ((wrap64 ((wrap64 ((wrap64 (bt858.2 + bt860.2)) + bt862.2)) + bt864.2)) + bt866.2)) + bt868.2)) + bt870.2)) + bt872.2)) + bt874.2)) + bt876.2)) + bt878.2)) = 0 then (if bt858.1 = (wrap64 (-bt860.1)) then (if ((bt858.1 == 0) == (x0.toList == x1.toList)) = true then (if bt858.1 = bt864.1 then (if bt858.1 = bt870.1 then (some (bt876.1 == (wrap64 (bt858.1 * bt878.1)))) else (some false)) else (some false)) else (some false)) else (some false)) else (some false)))))))))))))
end
def garboardlaw02_IntegerOrder.f (k:Nat) (a0:ByteArray) (a1:ByteArray) (a2:ByteArray):Option (Bool):=(garboardlaw02_awake.f k).bind fun t849=>(if t849 = true then ((garboardlaw02_long.f k (([a0,a1,a2]:List ByteArray))).bind fun t853=>(garboardlaw02_IntegerOrder.j0 k a0 a1 a2 t853)) else (garboardlaw02_IntegerOrder.j0 k a0 a1 a2 true))
theorem bx_ {p:Prop} (h:p:=by repeat (first|(with_reducible first|exact Aside0.out (by assumption)|apply below_alloc|apply pw_below_drewN|apply below_drew1)|exact Aside0.out (by assumption))):p:=h
theorem st_ {p:Prop} (h:p:=by (try simp only [List.map_toArray,List.map_cons,List.map_nil]);first|done|rfl|(simp only [List.length_drop,List.length_take];rfl)):p:=h
set_option maxHeartbeats 8000000 in
set_option maxRecDepth 100000 in
theorem garboardlaw02_IntegerOrder.calls (k:Nat) (a0:ByteArray) (a1:ByteArray) (a2:ByteArray) (r:Bool) (w:World) (hL:LaidW w) (h:garboardlaw02_IntegerOrder.f k a0 a1 a2 = some r) (hr:r = true) :
  Calls Tryz.prog 7 #[.string a0,.string a1,.string a2] w fun e w'=>e = .returned (.bool r)∧Below w.heap.size w w':=by
 have HB:=Aside0.mk (Below.refl w.heap.size w)
 have HLW:=Aside0.mk hL
 clear hL
 have HRT:=Aside0.mk (hr)
 clear hr
 have H:((garboardlaw02_awake.f k).bind fun t849=>(if t849 = true then ((garboardlaw02_long.f k (([a0,a1,a2]:List ByteArray))).bind fun t853=>(garboardlaw02_IntegerOrder.j0 k a0 a1 a2 t853)) else (garboardlaw02_IntegerOrder.j0 k a0 a1 a2 true))) = some r:=h
 clear h
 have HC4:=Aside0.mk H
 clear H
 go_enter Tryz.func7,Tryz.ntmps7
 go_upto_region 1 with (fail)
 go_cut [37] (fun v37 wc=>∃ (kq:Nat) (x37_3:Bool),v37 = .bool x37_3∧Aside0 (garboardlaw02_IntegerOrder.j0 kq a0 a1 a2 x37_3 = some r)∧Aside0 (kq≤k)∧Aside0 (Below w.heap.size w wc))
 case first =>
  have H:=HC4.out
  clear HC4
  replace H:=Option.bind_eq_some_iff.mp H
  obtain ⟨t849,A50,H⟩:=H
  replace H:(if t849 = true then ((garboardlaw02_long.f k (([a0,a1,a2]:List ByteArray))).bind fun t853=>(garboardlaw02_IntegerOrder.j0 k a0 a1 a2 t853)) else (garboardlaw02_IntegerOrder.j0 k a0 a1 a2 true)) = some r:=H
  have A5:=Aside0.mk A50
  clear A50
  by_cases c6:t849 = true
  ·subst c6
   have H1:((garboardlaw02_long.f k (([a0,a1,a2]:List ByteArray))).bind fun t853=>(garboardlaw02_IntegerOrder.j0 k a0 a1 a2 t853)) = some r:=by rw [if_pos rfl] at H;exact H
   clear H
   have H:=H1
   clear H1
   obtain ⟨y850,hy850⟩:∃ y_:List ByteArray,y_ = (([a0,a1,a2]:List ByteArray)):=⟨_,rfl⟩
   replace H:((garboardlaw02_long.f k y850).bind fun t853=>(garboardlaw02_IntegerOrder.j0 k a0 a1 a2 t853)) = some r:=by first|(rw [hy850];with_reducible exact H)|(have H2_:=(Option.bind_some _ _).symm.trans H;rw [hy850];with_reducible exact H2_)|(have H2_:=(Option.bind_some _ _).symm.trans H;with_reducible exact H2_)|with_reducible exact H|(rw [hy850];exact H)|exact H
   have Ny850:=Aside0.mk hy850
   clear hy850
   replace H:=Option.bind_eq_some_iff.mp H
   obtain ⟨t853,A70,H⟩:=H
   replace H:(garboardlaw02_IntegerOrder.j0 k a0 a1 a2 t853) = some r:=H
   have A7:=Aside0.mk A70
   clear A70
   have H':=Aside0.mk H
   clear H
   go_wp2_with (first|((with_reducible refine gate_callee (f:=10) rfl ?_);refine goesL_ (some 29) rfl rfl Tryz.func10 (by kernel_rfl) rfl #[] rfl st_ ?_;(with_reducible refine (garboardlaw02_awake.calls k  true _ ?side1 A5.out).mono ?_);(case side1=>exact HLW.out.below bx_);rintro e w8 ⟨rfl,hb⟩;refine ⟨_,rfl,?_⟩;have n0_:=Aside0.mk (below_step bx_ hb);clear HB;have HB:=n0_;clear n0_;(try clear hb);(try clear hb2);(try clear hk);(try clear hi))|((with_reducible refine gate_dst (N:=35) rfl ?_);(try (refine gate_guard (by rfl) ?_;dsimp only));refine Kd.R_lit Kd.string _ 9 ?hg (N:=35) ?hd (xs:=([a0,a1,a2]:List ByteArray)) (inner:=[.string a0,.string a1,.string a2]) (ok:=fun _=>True) (okp:=fun _=>True) ?hr ?hp (fun _ hk=>hk) trivial (Below.refl _ _) (Nat.le_refl _) (by simp) ?_;(case hd=>rfl);(case hg=>rfl);(case hr=>first|(go_simp;done)|(go_simp;rfl));(case hp=>exact (Reps.one (show Kd.M Kd.string _ _ _ a0 [.string a0] from rfl) (Reps.one (show Kd.M Kd.string _ _ _ a1 [.string a1] from rfl) (Reps.one (show Kd.M Kd.string _ _ _ a2 [.string a2] from rfl) (Reps.none _ _)))));intro v851 w9 ho10 hb hg_ hnew_;clear hg_ hnew_;(first|rw [← Ny850.out] at ho10|(simp only [Int.reduceToNat] at ho10;rw [← Ny850.out] at ho10));have n0_:=Aside0.mk (Kd.R_lower ho10 (below_size bx_));have n1_:=Aside0.mk (below_step bx_ hb);clear HB;have HO852:=n0_;have HB:=n1_;clear n0_ n1_;clear hb ho10;obtain ⟨Ao11,co11,eo11⟩:=Kd.R_slice HO852.out;subst eo11)|(go_at_call 11;(with_reducible refine (garboardlaw02_long.calls k _ _ y850 t853 _ ?side1 ?side2 A7.out).mono ?_);(case side1=>repeat (first|exact (Kd.R_reads' HO852.out).2.2|(with_reducible refine Kd.C_alloc ?_ _)|(with_reducible refine Kd.C_drewN ?_ _)|(with_reducible refine Kd.C_drew ?_)));(case side2=>exact (Kd.R_reads' HO852.out).2.1);rintro e w' ⟨rfl,⟨nd,rfl⟩⟩))
   go_meet
   case rel=>exact ⟨_,(t853),(by first|rfl|(simp;done)|(simp [*];done)),H',⟨by first|omega|exact Nat.le_refl _⟩,⟨by repeat (first|(with_reducible first|exact HB.out|apply below_alloc|apply pw_below_drewN|apply below_drew1)|exact HB.out)⟩⟩
  ·replace c6:=Bool.eq_false_iff.mpr c6
   subst c6
   have H1:(garboardlaw02_IntegerOrder.j0 k a0 a1 a2 true) = some r:=by rw [if_neg (show ¬ (false = true) by decide)] at H;exact H
   clear H
   have H:=H1
   clear H1
   have H':=Aside0.mk H
   clear H
   go_wp2_with (first|((with_reducible refine gate_callee (f:=10) rfl ?_);refine goesL_ (some 29) rfl rfl Tryz.func10 (by kernel_rfl) rfl #[] rfl st_ ?_;(with_reducible refine (garboardlaw02_awake.calls k  false _ ?side1 A5.out).mono ?_);(case side1=>exact HLW.out.below bx_);rintro e w12 ⟨rfl,hb⟩;refine ⟨_,rfl,?_⟩;have n0_:=Aside0.mk (below_step bx_ hb);clear HB;have HB:=n0_;clear n0_;(try clear hb);(try clear hb2);(try clear hk);(try clear hi)))
   go_meet
   case rel=>exact ⟨_,(true),(by first|rfl|(simp;done)|(simp [*];done)),H',⟨by first|omega|exact Nat.le_refl _⟩,⟨by repeat (first|(with_reducible first|exact HB.out|apply below_alloc|apply pw_below_drewN|apply below_drew1)|exact HB.out)⟩⟩
 case rest =>
  clear HC4
  try clear c1
  try clear p2
  try clear c6
  try clear c7
  try clear c10
  obtain ⟨kq,x37_3,rfl,HA,HJ3,HB⟩:=hcut
  cases kq with
  | zero=>exact absurd HA.out (by simp [garboardlaw02_IntegerOrder.j0])
  | succ kj3 =>
   have H:=HA.out
   clear HA
   simp only [garboardlaw02_IntegerOrder.j0] at H
   by_cases c13:x37_3 = true
   ·subst c13
    have H1:((garboardlaw02_awake.f kj3).bind fun t854=>(some t854)) = some r:=by rw [if_pos rfl] at H;exact H
    clear H
    have H:=H1
    clear H1
    replace H:=Option.bind_eq_some_iff.mp H
    obtain ⟨t854,A140,H⟩:=H
    replace H:(some t854) = some r:=H
    have A14:=Aside0.mk A140
    clear A140
    obtain rfl:=Option.some.inj H
    go_wp2_with (first|((with_reducible refine gate_callee (f:=10) rfl ?_);refine goesL_ (some 38) rfl rfl Tryz.func10 (by kernel_rfl) rfl #[] rfl st_ ?_;(with_reducible refine (garboardlaw02_awake.calls kj3  t854 _ ?side1 A14.out).mono ?_);(case side1=>exact HLW.out.below bx_);rintro e w15 ⟨rfl,hb⟩;refine ⟨_,rfl,?_⟩;have n0_:=Aside0.mk (below_step bx_ hb);clear HB;have HB:=n0_;clear n0_;(try clear hb);(try clear hb2);(try clear hk);(try clear hi)))
    go_ret
    exact ⟨by first|rfl|(simp [errW_none,errW_some]<;>rfl)|(simp [*,errW_none,errW_some]<;>rfl),by repeat (first|(with_reducible first|exact HB.out|apply below_alloc|apply pw_below_drewN|apply below_drew1)|exact HB.out)⟩
   ·replace c13:=Bool.eq_false_iff.mpr c13
    subst c13
    have H1:((integer_Valid.f kj3 a0).bind fun t855=>(if t855 = true then ((integer_Valid.f kj3 a1).bind fun t856=>(if t856 = true then ((integer_Valid.f kj3 a2).bind fun t857=>(garboardlaw02_IntegerOrder.j1 kj3 a0 a1 a2 (!t857))) else (garboardlaw02_IntegerOrder.j1 kj3 a0 a1 a2 true))) else (garboardlaw02_IntegerOrder.j1 kj3 a0 a1 a2 true))) = some r:=by rw [if_neg (show ¬ (false = true) by decide)] at H;exact H
    clear H
    have H:=H1
    clear H1
    have HC16:=Aside0.mk H
    clear H
    go_upto_region 3 with (fail)
    go_cut [51] (fun v51 wc=>∃ (kq:Nat) (x51_15:Bool),v51 = .bool x51_15∧Aside0 (garboardlaw02_IntegerOrder.j1 kq a0 a1 a2 x51_15 = some r)∧Aside0 (kq≤kj3)∧Aside0 (Below w.heap.size w wc))
    case first =>
     have H:=HC16.out
     clear HC16
     replace H:=Option.bind_eq_some_iff.mp H
     obtain ⟨t855,A170,H⟩:=H
     replace H:(if t855 = true then ((integer_Valid.f kj3 a1).bind fun t856=>(if t856 = true then ((integer_Valid.f kj3 a2).bind fun t857=>(garboardlaw02_IntegerOrder.j1 kj3 a0 a1 a2 (!t857))) else (garboardlaw02_IntegerOrder.j1 kj3 a0 a1 a2 true))) else (garboardlaw02_IntegerOrder.j1 kj3 a0 a1 a2 true)) = some r:=H
     have A17:=Aside0.mk A170
     clear A170
     by_cases c18:t855 = true
     ·subst c18
      have H1:((integer_Valid.f kj3 a1).bind fun t856=>(if t856 = true then ((integer_Valid.f kj3 a2).bind fun t857=>(garboardlaw02_IntegerOrder.j1 kj3 a0 a1 a2 (!t857))) else (garboardlaw02_IntegerOrder.j1 kj3 a0 a1 a2 true))) = some r:=by rw [if_pos rfl] at H;exact H
      clear H
      have H:=H1
      clear H1
      replace H:=Option.bind_eq_some_iff.mp H
      obtain ⟨t856,A190,H⟩:=H
      replace H:(if t856 = true then ((integer_Valid.f kj3 a2).bind fun t857=>(garboardlaw02_IntegerOrder.j1 kj3 a0 a1 a2 (!t857))) else (garboardlaw02_IntegerOrder.j1 kj3 a0 a1 a2 true)) = some r:=H
      have A19:=Aside0.mk A190
      clear A190
      by_cases c20:t856 = true
      ·subst c20
       have H1:((integer_Valid.f kj3 a2).bind fun t857=>(garboardlaw02_IntegerOrder.j1 kj3 a0 a1 a2 (!t857))) = some r:=by rw [if_pos rfl] at H;exact H
       clear H
       have H:=H1
       clear H1
       replace H:=Option.bind_eq_some_iff.mp H
       obtain ⟨t857,A210,H⟩:=H
       replace H:(garboardlaw02_IntegerOrder.j1 kj3 a0 a1 a2 (!t857)) = some r:=H
       have A21:=Aside0.mk A210
       clear A210
       have H':=Aside0.mk H
       clear H
       go_wp2_with (first|((with_reducible refine gate_callee (f:=18) rfl ?_);refine goesL_ (some 40) rfl rfl Tryz.func18 (by kernel_rfl) rfl #[.string a0] rfl st_ ?_;(with_reducible refine (integer_Valid.calls kj3 a0 true _ A17.out).mono ?_);rintro e w22 ⟨rfl,hb⟩;refine ⟨_,rfl,?_⟩;have n0_:=Aside0.mk (below_step bx_ hb);clear HB;have HB:=n0_;clear n0_;(try clear hb);(try clear hb2);(try clear hk);(try clear hi))|(go_at_call 18;(with_reducible refine (integer_Valid.calls kj3 a1 true _ A19.out).mono ?_);rintro e w23 ⟨rfl,hb⟩;have n0_:=Aside0.mk (below_step bx_ hb);clear HB;have HB:=n0_;clear n0_;(try clear hb);(try clear hb2);(try clear hk);(try clear hi))|(go_at_call 18;(with_reducible refine (integer_Valid.calls kj3 a2 t857 _ A21.out).mono ?_);rintro e w24 ⟨rfl,hb⟩;have n0_:=Aside0.mk (below_step bx_ hb);clear HB;have HB:=n0_;clear n0_;(try clear hb);(try clear hb2);(try clear hk);(try clear hi)))
       go_meet
       case rel=>exact ⟨_,(!t857),(by first|rfl|(simp;done)|(simp [*];done)),H',⟨by have:=HJ3.out;first|omega|exact Nat.le_refl _⟩,⟨by repeat (first|(with_reducible first|exact HB.out|apply below_alloc|apply pw_below_drewN|apply below_drew1)|exact HB.out)⟩⟩
      ·replace c20:=Bool.eq_false_iff.mpr c20
       subst c20
       have H1:(garboardlaw02_IntegerOrder.j1 kj3 a0 a1 a2 true) = some r:=by rw [if_neg (show ¬ (false = true) by decide)] at H;exact H
       clear H
       have H:=H1
       clear H1
       have H':=Aside0.mk H
       clear H
       go_wp2_with (first|((with_reducible refine gate_callee (f:=18) rfl ?_);refine goesL_ (some 40) rfl rfl Tryz.func18 (by kernel_rfl) rfl #[.string a0] rfl st_ ?_;(with_reducible refine (integer_Valid.calls kj3 a0 true _ A17.out).mono ?_);rintro e w25 ⟨rfl,hb⟩;refine ⟨_,rfl,?_⟩;have n0_:=Aside0.mk (below_step bx_ hb);clear HB;have HB:=n0_;clear n0_;(try clear hb);(try clear hb2);(try clear hk);(try clear hi))|(go_at_call 18;(with_reducible refine (integer_Valid.calls kj3 a1 false _ A19.out).mono ?_);rintro e w26 ⟨rfl,hb⟩;have n0_:=Aside0.mk (below_step bx_ hb);clear HB;have HB:=n0_;clear n0_;(try clear hb);(try clear hb2);(try clear hk);(try clear hi)))
       go_meet
       case rel=>exact ⟨_,(true),(by first|rfl|(simp;done)|(simp [*];done)),H',⟨by have:=HJ3.out;first|omega|exact Nat.le_refl _⟩,⟨by repeat (first|(with_reducible first|exact HB.out|apply below_alloc|apply pw_below_drewN|apply below_drew1)|exact HB.out)⟩⟩
     ·replace c18:=Bool.eq_false_iff.mpr c18
      subst c18
      have H1:(garboardlaw02_IntegerOrder.j1 kj3 a0 a1 a2 true) = some r:=by rw [if_neg (show ¬ (false = true) by decide)] at H;exact H
      clear H
      have H:=H1
      clear H1
      have H':=Aside0.mk H
      clear H
      go_wp2_with (first|((with_reducible refine gate_callee (f:=18) rfl ?_);refine goesL_ (some 40) rfl rfl Tryz.func18 (by kernel_rfl) rfl #[.string a0] rfl st_ ?_;(with_reducible refine (integer_Valid.calls kj3 a0 false _ A17.out).mono ?_);rintro e w27 ⟨rfl,hb⟩;refine ⟨_,rfl,?_⟩;have n0_:=Aside0.mk (below_step bx_ hb);clear HB;have HB:=n0_;clear n0_;(try clear hb);(try clear hb2);(try clear hk);(try clear hi)))
      go_meet
      case rel=>exact ⟨_,(true),(by first|rfl|(simp;done)|(simp [*];done)),H',⟨by have:=HJ3.out;first|omega|exact Nat.le_refl _⟩,⟨by repeat (first|(with_reducible first|exact HB.out|apply below_alloc|apply pw_below_drewN|apply below_drew1)|exact HB.out)⟩⟩
    case rest =>
     clear HC16
     try clear c1
     try clear c2
     try clear p2
     try clear c6
     try clear c7
     try clear c10
     try clear c13
     try clear c18
     try clear c20
     try clear p2
     obtain ⟨kq,x51_15,rfl,HA,HJ15,HB⟩:=hcut
     cases kq with
     | zero=>exact absurd HA.out (by simp [garboardlaw02_IntegerOrder.j1])
     | succ kj15 =>
      have H:=HA.out
      clear HA
      simp only [garboardlaw02_IntegerOrder.j1] at H
      by_cases c28:x51_15 = true
      ·subst c28
       have H1:(some true) = some r:=by rw [if_pos rfl] at H;exact H
       clear H
       have H:=H1
       clear H1
       obtain rfl:=Option.some.inj H
       go_wp2
       go_ret
       exact ⟨by first|rfl|(simp [errW_none,errW_some]<;>rfl)|(simp [*,errW_none,errW_some]<;>rfl),by repeat (first|(with_reducible first|exact HB.out|apply below_alloc|apply pw_below_drewN|apply below_drew1)|exact HB.out)⟩
      ·replace c28:=Bool.eq_false_iff.mpr c28
       subst c28
       have H1:((integer_Compare.f kj15 a0 a1).bind fun bt858=>((integer_Compare.f kj15 a1 a0).bind fun bt860=>((integer_Sub.f kj15 a0 a1).bind fun bt862=>((integer_Sign.f kj15 bt862.1).bind fun bt864=>((integer_Add.f kj15 a0 a2).bind fun bt866=>((integer_Add.f kj15 a1 a2).bind fun bt868=>((integer_Compare.f kj15 bt866.1 bt868.1).bind fun bt870=>((integer_Mul.f kj15 a0 a2).bind fun bt872=>((integer_Mul.f kj15 a1 a2).bind fun bt874=>((integer_Compare.f kj15 bt872.1 bt874.1).bind fun bt876=>((integer_Sign.f kj15 a2).bind fun bt878=>(if (wrap64 ((wrap64 ((wrap64 ((wrap64 ((wrap64 ((wrap64 ((wrap64 ((wrap64 ((wrap64 ((wrap64 (bt858.2 + bt860.2)) + bt862.2)) + bt864.2)) + bt866.2)) + bt868.2)) + bt870.2)) + bt872.2)) + bt874.2)) + bt876.2)) + bt878.2)) = 0 then (if bt858.1 = (wrap64 (-bt860.1)) then (if ((bt858.1 == 0) == (a0.toList == a1.toList)) = true then (if bt858.1 = bt864.1 then (if bt858.1 = bt870.1 then (some (bt876.1 == (wrap64 (bt858.1 * bt878.1)))) else (some false)) else (some false)) else (some false)) else (some false)) else (some false))))))))))))) = some r:=by rw [if_neg (show ¬ (false = true) by decide)] at H;exact H
       clear H
       have H:=H1
       clear H1
       replace H:=Option.bind_eq_some_iff.mp H
       obtain ⟨⟨t858,t859⟩,A290,H⟩:=H
       replace H:((integer_Compare.f kj15 a1 a0).bind fun bt860=>((integer_Sub.f kj15 a0 a1).bind fun bt862=>((integer_Sign.f kj15 bt862.1).bind fun bt864=>((integer_Add.f kj15 a0 a2).bind fun bt866=>((integer_Add.f kj15 a1 a2).bind fun bt868=>((integer_Compare.f kj15 bt866.1 bt868.1).bind fun bt870=>((integer_Mul.f kj15 a0 a2).bind fun bt872=>((integer_Mul.f kj15 a1 a2).bind fun bt874=>((integer_Compare.f kj15 bt872.1 bt874.1).bind fun bt876=>((integer_Sign.f kj15 a2).bind fun bt878=>(if (wrap64 ((wrap64 ((wrap64 ((wrap64 ((wrap64 ((wrap64 ((wrap64 ((wrap64 ((wrap64 ((wrap64 (t859 + bt860.2)) + bt862.2)) + bt864.2)) + bt866.2)) + bt868.2)) + bt870.2)) + bt872.2)) + bt874.2)) + bt876.2)) + bt878.2)) = 0 then (if t858 = (wrap64 (-bt860.1)) then (if ((t858 == 0) == (a0.toList == a1.toList)) = true then (if t858 = bt864.1 then (if t858 = bt870.1 then (some (bt876.1 == (wrap64 (t858 * bt878.1)))) else (some false)) else (some false)) else (some false)) else (some false)) else (some false)))))))))))) = some r:=H
       have A29:=Aside0.mk A290
       clear A290
       replace H:=Option.bind_eq_some_iff.mp H
       obtain ⟨⟨t860,t861⟩,A300,H⟩:=H
       replace H:((integer_Sub.f kj15 a0 a1).bind fun bt862=>((integer_Sign.f kj15 bt862.1).bind fun bt864=>((integer_Add.f kj15 a0 a2).bind fun bt866=>((integer_Add.f kj15 a1 a2).bind fun bt868=>((integer_Compare.f kj15 bt866.1 bt868.1).bind fun bt870=>((integer_Mul.f kj15 a0 a2).bind fun bt872=>((integer_Mul.f kj15 a1 a2).bind fun bt874=>((integer_Compare.f kj15 bt872.1 bt874.1).bind fun bt876=>((integer_Sign.f kj15 a2).bind fun bt878=>(if (wrap64 ((wrap64 ((wrap64 ((wrap64 ((wrap64 ((wrap64 ((wrap64 ((wrap64 ((wrap64 ((wrap64 (t859 + t861)) + bt862.2)) + bt864.2)) + bt866.2)) + bt868.2)) + bt870.2)) + bt872.2)) + bt874.2)) + bt876.2)) + bt878.2)) = 0 then (if t858 = (wrap64 (-t860)) then (if ((t858 == 0) == (a0.toList == a1.toList)) = true then (if t858 = bt864.1 then (if t858 = bt870.1 then (some (bt876.1 == (wrap64 (t858 * bt878.1)))) else (some false)) else (some false)) else (some false)) else (some false)) else (some false))))))))))) = some r:=H
       have A30:=Aside0.mk A300
       clear A300
       replace H:=Option.bind_eq_some_iff.mp H
       obtain ⟨⟨t862,t863⟩,A310,H⟩:=H
       replace H:((integer_Sign.f kj15 t862).bind fun bt864=>((integer_Add.f kj15 a0 a2).bind fun bt866=>((integer_Add.f kj15 a1 a2).bind fun bt868=>((integer_Compare.f kj15 bt866.1 bt868.1).bind fun bt870=>((integer_Mul.f kj15 a0 a2).bind fun bt872=>((integer_Mul.f kj15 a1 a2).bind fun bt874=>((integer_Compare.f kj15 bt872.1 bt874.1).bind fun bt876=>((integer_Sign.f kj15 a2).bind fun bt878=>(if (wrap64 ((wrap64 ((wrap64 ((wrap64 ((wrap64 ((wrap64 ((wrap64 ((wrap64 ((wrap64 ((wrap64 (t859 + t861)) + t863)) + bt864.2)) + bt866.2)) + bt868.2)) + bt870.2)) + bt872.2)) + bt874.2)) + bt876.2)) + bt878.2)) = 0 then (if t858 = (wrap64 (-t860)) then (if ((t858 == 0) == (a0.toList == a1.toList)) = true then (if t858 = bt864.1 then (if t858 = bt870.1 then (some (bt876.1 == (wrap64 (t858 * bt878.1)))) else (some false)) else (some false)) else (some false)) else (some false)) else (some false)))))))))) = some r:=H
       have A31:=Aside0.mk A310
       clear A310
       replace H:=Option.bind_eq_some_iff.mp H
       obtain ⟨⟨t864,t865⟩,A320,H⟩:=H
       replace H:((integer_Add.f kj15 a0 a2).bind fun bt866=>((integer_Add.f kj15 a1 a2).bind fun bt868=>((integer_Compare.f kj15 bt866.1 bt868.1).bind fun bt870=>((integer_Mul.f kj15 a0 a2).bind fun bt872=>((integer_Mul.f kj15 a1 a2).bind fun bt874=>((integer_Compare.f kj15 bt872.1 bt874.1).bind fun bt876=>((integer_Sign.f kj15 a2).bind fun bt878=>(if (wrap64 ((wrap64 ((wrap64 ((wrap64 ((wrap64 ((wrap64 ((wrap64 ((wrap64 ((wrap64 ((wrap64 (t859 + t861)) + t863)) + t865)) + bt866.2)) + bt868.2)) + bt870.2)) + bt872.2)) + bt874.2)) + bt876.2)) + bt878.2)) = 0 then (if t858 = (wrap64 (-t860)) then (if ((t858 == 0) == (a0.toList == a1.toList)) = true then (if t858 = t864 then (if t858 = bt870.1 then (some (bt876.1 == (wrap64 (t858 * bt878.1)))) else (some false)) else (some false)) else (some false)) else (some false)) else (some false))))))))) = some r:=H
       have A32:=Aside0.mk A320
       clear A320
       replace H:=Option.bind_eq_some_iff.mp H
       obtain ⟨⟨t866,t867⟩,A330,H⟩:=H
       replace H:((integer_Add.f kj15 a1 a2).bind fun bt868=>((integer_Compare.f kj15 t866 bt868.1).bind fun bt870=>((integer_Mul.f kj15 a0 a2).bind fun bt872=>((integer_Mul.f kj15 a1 a2).bind fun bt874=>((integer_Compare.f kj15 bt872.1 bt874.1).bind fun bt876=>((integer_Sign.f kj15 a2).bind fun bt878=>(if (wrap64 ((wrap64 ((wrap64 ((wrap64 ((wrap64 ((wrap64 ((wrap64 ((wrap64 ((wrap64 ((wrap64 (t859 + t861)) + t863)) + t865)) + t867)) + bt868.2)) + bt870.2)) + bt872.2)) + bt874.2)) + bt876.2)) + bt878.2)) = 0 then (if t858 = (wrap64 (-t860)) then (if ((t858 == 0) == (a0.toList == a1.toList)) = true then (if t858 = t864 then (if t858 = bt870.1 then (some (bt876.1 == (wrap64 (t858 * bt878.1)))) else (some false)) else (some false)) else (some false)) else (some false)) else (some false)))))))) = some r:=H
       have A33:=Aside0.mk A330
       clear A330
       replace H:=Option.bind_eq_some_iff.mp H
       obtain ⟨⟨t868,t869⟩,A340,H⟩:=H
       replace H:((integer_Compare.f kj15 t866 t868).bind fun bt870=>((integer_Mul.f kj15 a0 a2).bind fun bt872=>((integer_Mul.f kj15 a1 a2).bind fun bt874=>((integer_Compare.f kj15 bt872.1 bt874.1).bind fun bt876=>((integer_Sign.f kj15 a2).bind fun bt878=>(if (wrap64 ((wrap64 ((wrap64 ((wrap64 ((wrap64 ((wrap64 ((wrap64 ((wrap64 ((wrap64 ((wrap64 (t859 + t861)) + t863)) + t865)) + t867)) + t869)) + bt870.2)) + bt872.2)) + bt874.2)) + bt876.2)) + bt878.2)) = 0 then (if t858 = (wrap64 (-t860)) then (if ((t858 == 0) == (a0.toList == a1.toList)) = true then (if t858 = t864 then (if t858 = bt870.1 then (some (bt876.1 == (wrap64 (t858 * bt878.1)))) else (some false)) else (some false)) else (some false)) else (some false)) else (some false))))))) = some r:=H
       have A34:=Aside0.mk A340
       clear A340
       replace H:=Option.bind_eq_some_iff.mp H
       obtain ⟨⟨t870,t871⟩,A350,H⟩:=H
       replace H:((integer_Mul.f kj15 a0 a2).bind fun bt872=>((integer_Mul.f kj15 a1 a2).bind fun bt874=>((integer_Compare.f kj15 bt872.1 bt874.1).bind fun bt876=>((integer_Sign.f kj15 a2).bind fun bt878=>(if (wrap64 ((wrap64 ((wrap64 ((wrap64 ((wrap64 ((wrap64 ((wrap64 ((wrap64 ((wrap64 ((wrap64 (t859 + t861)) + t863)) + t865)) + t867)) + t869)) + t871)) + bt872.2)) + bt874.2)) + bt876.2)) + bt878.2)) = 0 then (if t858 = (wrap64 (-t860)) then (if ((t858 == 0) == (a0.toList == a1.toList)) = true then (if t858 = t864 then (if t858 = t870 then (some (bt876.1 == (wrap64 (t858 * bt878.1)))) else (some false)) else (some false)) else (some false)) else (some false)) else (some false)))))) = some r:=H
       have A35:=Aside0.mk A350
       clear A350
       replace H:=Option.bind_eq_some_iff.mp H
       obtain ⟨⟨t872,t873⟩,A360,H⟩:=H
       replace H:((integer_Mul.f kj15 a1 a2).bind fun bt874=>((integer_Compare.f kj15 t872 bt874.1).bind fun bt876=>((integer_Sign.f kj15 a2).bind fun bt878=>(if (wrap64 ((wrap64 ((wrap64 ((wrap64 ((wrap64 ((wrap64 ((wrap64 ((wrap64 ((wrap64 ((wrap64 (t859 + t861)) + t863)) + t865)) + t867)) + t869)) + t871)) + t873)) + bt874.2)) + bt876.2)) + bt878.2)) = 0 then (if t858 = (wrap64 (-t860)) then (if ((t858 == 0) == (a0.toList == a1.toList)) = true then (if t858 = t864 then (if t858 = t870 then (some (bt876.1 == (wrap64 (t858 * bt878.1)))) else (some false)) else (some false)) else (some false)) else (some false)) else (some false))))) = some r:=H
       have A36:=Aside0.mk A360
       clear A360
       replace H:=Option.bind_eq_some_iff.mp H
       obtain ⟨⟨t874,t875⟩,A370,H⟩:=H
       replace H:((integer_Compare.f kj15 t872 t874).bind fun bt876=>((integer_Sign.f kj15 a2).bind fun bt878=>(if (wrap64 ((wrap64 ((wrap64 ((wrap64 ((wrap64 ((wrap64 ((wrap64 ((wrap64 ((wrap64 ((wrap64 (t859 + t861)) + t863)) + t865)) + t867)) + t869)) + t871)) + t873)) + t875)) + bt876.2)) + bt878.2)) = 0 then (if t858 = (wrap64 (-t860)) then (if ((t858 == 0) == (a0.toList == a1.toList)) = true then (if t858 = t864 then (if t858 = t870 then (some (bt876.1 == (wrap64 (t858 * bt878.1)))) else (some false)) else (some false)) else (some false)) else (some false)) else (some false)))) = some r:=H
       have A37:=Aside0.mk A370
       clear A370
       replace H:=Option.bind_eq_some_iff.mp H
       obtain ⟨⟨t876,t877⟩,A380,H⟩:=H
       replace H:((integer_Sign.f kj15 a2).bind fun bt878=>(if (wrap64 ((wrap64 ((wrap64 ((wrap64 ((wrap64 ((wrap64 ((wrap64 ((wrap64 ((wrap64 ((wrap64 (t859 + t861)) + t863)) + t865)) + t867)) + t869)) + t871)) + t873)) + t875)) + t877)) + bt878.2)) = 0 then (if t858 = (wrap64 (-t860)) then (if ((t858 == 0) == (a0.toList == a1.toList)) = true then (if t858 = t864 then (if t858 = t870 then (some (t876 == (wrap64 (t858 * bt878.1)))) else (some false)) else (some false)) else (some false)) else (some false)) else (some false))) = some r:=H
       have A38:=Aside0.mk A380
       clear A380
       replace H:=Option.bind_eq_some_iff.mp H
       obtain ⟨⟨t878,t879⟩,A390,H⟩:=H
       replace H:(if (wrap64 ((wrap64 ((wrap64 ((wrap64 ((wrap64 ((wrap64 ((wrap64 ((wrap64 ((wrap64 ((wrap64 (t859 + t861)) + t863)) + t865)) + t867)) + t869)) + t871)) + t873)) + t875)) + t877)) + t879)) = 0 then (if t858 = (wrap64 (-t860)) then (if ((t858 == 0) == (a0.toList == a1.toList)) = true then (if t858 = t864 then (if t858 = t870 then (some (t876 == (wrap64 (t858 * t878)))) else (some false)) else (some false)) else (some false)) else (some false)) else (some false)) = some r:=H
       have A39:=Aside0.mk A390
       clear A390
       by_cases c40:(wrap64 ((wrap64 ((wrap64 ((wrap64 ((wrap64 ((wrap64 ((wrap64 ((wrap64 ((wrap64 ((wrap64 (t859 + t861)) + t863)) + t865)) + t867)) + t869)) + t871)) + t873)) + t875)) + t877)) + t879)) = 0
       ·rw [if_pos c40] at H
        have c40b0:((wrap64 ((wrap64 ((wrap64 ((wrap64 ((wrap64 ((wrap64 ((wrap64 ((wrap64 ((wrap64 ((wrap64 (t859 + t861)) + t863)) + t865)) + t867)) + t869)) + t871)) + t873)) + t875)) + t877)) + t879)) == 0) = true:=beq_iff_eq.mpr c40
        have c40b1:((wrap64 ((wrap64 ((wrap64 ((wrap64 ((wrap64 ((wrap64 ((wrap64 ((wrap64 ((wrap64 ((wrap64 (t859 + t861)) + t863)) + t865)) + t867)) + t869)) + t871)) + t873)) + t875)) + t877)) + t879)) != 0) = false:=bne_eq_false_iff_eq.mpr c40
        clear c40
        by_cases c41:t858 = (wrap64 (-t860))
        ·rw [if_pos c41] at H
         have c41b0:(t858 == (wrap64 (-t860))) = true:=beq_iff_eq.mpr c41
         have c41b1:(t858 != (wrap64 (-t860))) = false:=bne_eq_false_iff_eq.mpr c41
         clear c41
         by_cases c42:((t858 == 0) == (a0.toList == a1.toList)) = true
         ·rw [if_pos c42] at H
          have c42b0:((t858 == 0) == (a0.toList == a1.toList)) = true:=c42
          (try (have c42b1:decide ((t858 == 0) = (a0.toList == a1.toList)) = true:=by simpa using c42))
          (try (have c42b2:((t858 == 0) == (a0.toList == a1.toList)) = true:=by simpa using c42))
          clear c42
          by_cases c43:t858 = t864
          ·rw [if_pos c43] at H
           have c43b0:(t858 == t864) = true:=beq_iff_eq.mpr c43
           have c43b1:(t858 != t864) = false:=bne_eq_false_iff_eq.mpr c43
           clear c43
           by_cases c44:t858 = t870
           ·rw [if_pos c44] at H
            have c44b0:(t858 == t870) = true:=beq_iff_eq.mpr c44
            have c44b1:(t858 != t870) = false:=bne_eq_false_iff_eq.mpr c44
            clear c44
            obtain rfl:=Option.some.inj H
            go_wp2_with (first|((with_reducible refine gate_callee (f:=22) rfl ?_);refine goesL_ (some 55) rfl rfl Tryz.func22 (by kernel_rfl) rfl #[.string a0,.string a1] rfl st_ ?_;(with_reducible refine (integer_Compare.calls kj15 a0 a1 t858 t859 _ ?side1 A29.out).mono ?_);(case side1=>exact HLW.out.below bx_);rintro e w45 ⟨rfl,hb⟩;refine ⟨_,rfl,?_⟩;have n0_:=Aside0.mk (below_step bx_ hb);clear HB;have HB:=n0_;clear n0_;(try clear hb);(try clear hb2);(try clear hk);(try clear hi))|((with_reducible refine gate_callee (f:=22) rfl ?_);refine goesL_ (some 61) rfl rfl Tryz.func22 (by kernel_rfl) rfl #[.string a1,.string a0] rfl st_ ?_;(with_reducible refine (integer_Compare.calls kj15 a1 a0 t860 t861 _ ?side1 A30.out).mono ?_);(case side1=>exact HLW.out.below bx_);rintro e w46 ⟨rfl,hb⟩;refine ⟨_,rfl,?_⟩;have n0_:=Aside0.mk (below_step bx_ hb);clear HB;have HB:=n0_;clear n0_;(try clear hb);(try clear hb2);(try clear hk);(try clear hi))|((with_reducible refine gate_callee (f:=26) rfl ?_);refine goesL_ (some 67) rfl rfl Tryz.func26 (by kernel_rfl) rfl #[.string a0,.string a1] rfl st_ ?_;(with_reducible refine (integer_Sub.calls kj15 a0 a1 t862 t863 _ ?side1 A31.out).mono ?_);(case side1=>exact HLW.out.below bx_);rintro e w47 ⟨rfl,hb⟩;refine ⟨_,rfl,?_⟩;have n0_:=Aside0.mk (below_step bx_ hb);clear HB;have HB:=n0_;clear n0_;(try clear hb);(try clear hb2);(try clear hk);(try clear hi))|((with_reducible refine gate_callee (f:=12) rfl ?_);refine goesL_ (some 72) rfl rfl Tryz.func12 (by kernel_rfl) rfl #[.string t862] rfl st_ ?_;(with_reducible refine (integer_Sign.calls kj15 t862 t864 t865 _ A32.out).mono ?_);rintro e w48 ⟨rfl,hb⟩;refine ⟨_,rfl,?_⟩;have n0_:=Aside0.mk (below_step bx_ hb);clear HB;have HB:=n0_;clear n0_;(try clear hb);(try clear hb2);(try clear hk);(try clear hi))|((with_reducible refine gate_callee (f:=24) rfl ?_);refine goesL_ (some 78) rfl rfl Tryz.func24 (by kernel_rfl) rfl #[.string a0,.string a2] rfl st_ ?_;(with_reducible refine (integer_Add.calls kj15 a0 a2 t866 t867 _ ?side1 A33.out).mono ?_);(case side1=>exact HLW.out.below bx_);rintro e w49 ⟨rfl,hb⟩;refine ⟨_,rfl,?_⟩;have n0_:=Aside0.mk (below_step bx_ hb);clear HB;have HB:=n0_;clear n0_;(try clear hb);(try clear hb2);(try clear hk);(try clear hi))|((with_reducible refine gate_callee (f:=24) rfl ?_);refine goesL_ (some 84) rfl rfl Tryz.func24 (by kernel_rfl) rfl #[.string a1,.string a2] rfl st_ ?_;(with_reducible refine (integer_Add.calls kj15 a1 a2 t868 t869 _ ?side1 A34.out).mono ?_);(case side1=>exact HLW.out.below bx_);rintro e w50 ⟨rfl,hb⟩;refine ⟨_,rfl,?_⟩;have n0_:=Aside0.mk (below_step bx_ hb);clear HB;have HB:=n0_;clear n0_;(try clear hb);(try clear hb2);(try clear hk);(try clear hi))|((with_reducible refine gate_callee (f:=22) rfl ?_);refine goesL_ (some 90) rfl rfl Tryz.func22 (by kernel_rfl) rfl #[.string t866,.string t868] rfl st_ ?_;(with_reducible refine (integer_Compare.calls kj15 t866 t868 t870 t871 _ ?side1 A35.out).mono ?_);(case side1=>exact HLW.out.below bx_);rintro e w51 ⟨rfl,hb⟩;refine ⟨_,rfl,?_⟩;have n0_:=Aside0.mk (below_step bx_ hb);clear HB;have HB:=n0_;clear n0_;(try clear hb);(try clear hb2);(try clear hk);(try clear hi))|((with_reducible refine gate_callee (f:=28) rfl ?_);refine goesL_ (some 96) rfl rfl Tryz.func28 (by kernel_rfl) rfl #[.string a0,.string a2] rfl st_ ?_;(with_reducible refine (integer_Mul.calls kj15 a0 a2 t872 t873 _ ?side1 A36.out).mono ?_);(case side1=>exact HLW.out.below bx_);rintro e w52 ⟨rfl,hb⟩;refine ⟨_,rfl,?_⟩;have n0_:=Aside0.mk (below_step bx_ hb);clear HB;have HB:=n0_;clear n0_;(try clear hb);(try clear hb2);(try clear hk);(try clear hi))|((with_reducible refine gate_callee (f:=28) rfl ?_);refine goesL_ (some 102) rfl rfl Tryz.func28 (by kernel_rfl) rfl #[.string a1,.string a2] rfl st_ ?_;(with_reducible refine (integer_Mul.calls kj15 a1 a2 t874 t875 _ ?side1 A37.out).mono ?_);(case side1=>exact HLW.out.below bx_);rintro e w53 ⟨rfl,hb⟩;refine ⟨_,rfl,?_⟩;have n0_:=Aside0.mk (below_step bx_ hb);clear HB;have HB:=n0_;clear n0_;(try clear hb);(try clear hb2);(try clear hk);(try clear hi))|((with_reducible refine gate_callee (f:=22) rfl ?_);refine goesL_ (some 108) rfl rfl Tryz.func22 (by kernel_rfl) rfl #[.string t872,.string t874] rfl st_ ?_;(with_reducible refine (integer_Compare.calls kj15 t872 t874 t876 t877 _ ?side1 A38.out).mono ?_);(case side1=>exact HLW.out.below bx_);rintro e w54 ⟨rfl,hb⟩;refine ⟨_,rfl,?_⟩;have n0_:=Aside0.mk (below_step bx_ hb);clear HB;have HB:=n0_;clear n0_;(try clear hb);(try clear hb2);(try clear hk);(try clear hi))|((with_reducible refine gate_callee (f:=12) rfl ?_);refine goesL_ (some 113) rfl rfl Tryz.func12 (by kernel_rfl) rfl #[.string a2] rfl st_ ?_;(with_reducible refine (integer_Sign.calls kj15 a2 t878 t879 _ A39.out).mono ?_);rintro e w55 ⟨rfl,hb⟩;refine ⟨_,rfl,?_⟩;have n0_:=Aside0.mk (below_step bx_ hb);clear HB;have HB:=n0_;clear n0_;(try clear hb);(try clear hb2);(try clear hk);(try clear hi)))
            go_ret
            exact ⟨by first|rfl|(simp [errW_none,errW_some]<;>rfl)|(simp [*,errW_none,errW_some]<;>rfl),by repeat (first|(with_reducible first|exact HB.out|apply below_alloc|apply pw_below_drewN|apply below_drew1)|exact HB.out)⟩
           ·rw [if_neg c44] at H
            have c44b0:(t858 == t870) = false:=beq_eq_false_iff_ne.mpr c44
            have c44b1:(t858 != t870) = true:=bne_iff_ne.mpr c44
            exact absurd (Option.some.inj H) (by rw [HRT.out];decide)
          ·rw [if_neg c43] at H
           have c43b0:(t858 == t864) = false:=beq_eq_false_iff_ne.mpr c43
           have c43b1:(t858 != t864) = true:=bne_iff_ne.mpr c43
           exact absurd (Option.some.inj H) (by rw [HRT.out];decide)
         ·rw [if_neg c42] at H
          have c42b0:((t858 == 0) == (a0.toList == a1.toList)) = false:=by simpa using c42
          (try (have c42b1:decide ((t858 == 0) = (a0.toList == a1.toList)) = false:=by simpa using c42))
          (try (have c42b2:((t858 == 0) == (a0.toList == a1.toList)) = false:=by simpa using c42))
          (try (have c42b3:¬ ((t858 == 0) = (a0.toList == a1.toList)):=by simpa using c42))
          clear c42
          exact absurd (Option.some.inj H) (by rw [HRT.out];decide)
        ·rw [if_neg c41] at H
         have c41b0:(t858 == (wrap64 (-t860))) = false:=beq_eq_false_iff_ne.mpr c41
         have c41b1:(t858 != (wrap64 (-t860))) = true:=bne_iff_ne.mpr c41
         exact absurd (Option.some.inj H) (by rw [HRT.out];decide)
       ·rw [if_neg c40] at H
        have c40b0:((wrap64 ((wrap64 ((wrap64 ((wrap64 ((wrap64 ((wrap64 ((wrap64 ((wrap64 ((wrap64 ((wrap64 (t859 + t861)) + t863)) + t865)) + t867)) + t869)) + t871)) + t873)) + t875)) + t877)) + t879)) == 0) = false:=beq_eq_false_iff_ne.mpr c40
        have c40b1:((wrap64 ((wrap64 ((wrap64 ((wrap64 ((wrap64 ((wrap64 ((wrap64 ((wrap64 ((wrap64 ((wrap64 (t859 + t861)) + t863)) + t865)) + t867)) + t869)) + t871)) + t873)) + t875)) + t877)) + t879)) != 0) = true:=bne_iff_ne.mpr c40
        exact absurd (Option.some.inj H) (by rw [HRT.out];decide)
end Go.Proofs.YtaknchlegjcdhaaGreatDoor.Pr
set_option linter.unusedVariables false
set_option linter.unusedSimpArgs false
namespace Go.Proofs.YtaknchlegjcdhaaGreatDoor.Pr
open Go.RowKit Go.Lib Go.Proofs.YtaknchlegjcdhaaGreatDoorW.PrintWords Go.Proofs.YtaknchlegjcdhaaGreatDoorW.PrintLast Go.Proofs.YtaknchlegjcdhaaGreatDoorW.PrintMore Go.Proofs.YtaknchlegjcdhaaGreatDoor.NatTh
theorem sign3 (x:Int):x.sign = -1 ∨ x.sign = 0 ∨ x.sign = 1:=by
 rcases Int.lt_trichotomy x 0 with h|h|h
 ·exact .inl (Int.sign_eq_neg_one_of_neg h)
 ·exact .inr (.inl (by rw [h];rfl))
 ·exact .inr (.inr (Int.sign_eq_one_of_pos h))
theorem wsign {s:Int} (h:s = -1 ∨ s = 0 ∨ s = 1):wrap64 s = s:=by
 rcases h with rfl|rfl|rfl<;>decide +kernel
theorem Order_law (a b c:ByteArray):Ev (fun k=>garboardlaw02_IntegerOrder.f k a b c) true:=by
 refine law_head [a,b,c] (by simp) (fun k t=>garboardlaw02_IntegerOrder.j0 k a b c t) _ (fun k=>rfl) (fun k=>by rw [garboardlaw02_IntegerOrder.j0,if_pos rfl]) (fun hs=>?_)
 have sa:=hs a (by simp)
 have sb:=hs b (by simp)
 have sc:=hs c (by simp)
 have ha:=s1_120 sa
 have hb:=s1_120 sb
 have hc:=s1_120 sc
 have out:Ev (fun k=>garboardlaw02_IntegerOrder.j1 k a b c true) true:=Ev.step (f:=fun _=>some true) (fun k=>by rw [garboardlaw02_IntegerOrder.j1,if_pos rfl]) (Ev.now _)
 refine Ev.step (fun k=>by rw [garboardlaw02_IntegerOrder.j0,if_neg (by simp)]) (Ev.bind (zValid_ev a ha) ?_)
 cases h1:iv a with
 | false=>exact Ev.congr (fun k=>if_neg (by simp)) out
 | true =>
  refine Ev.congr (fun k=>if_pos rfl) (Ev.bind (zValid_ev b hb) ?_)
  cases h2:iv b with
  | false=>exact Ev.congr (fun k=>if_neg (by simp)) out
  | true =>
   refine Ev.congr (fun k=>if_pos rfl) (Ev.bind (zValid_ev c hc) ?_)
   cases h3:iv c with
   | false=>exact out
   | true =>
    obtain ⟨x,rfl,hx⟩:=is_it h1 sa
    obtain ⟨y,rfl,hy⟩:=is_it h2 sb
    obtain ⟨z,rfl,hz⟩:=is_it h3 sc
    have c1:=zCompare_ev _ _ ha hb
    have c2:=zCompare_ev _ _ hb ha
    have c3:=zSub_ev _ _ ha hb
    have c4:=zSign_ev _ ((hx.sub hy).s1 (by omega) (by omega))
    have c5:=zAdd_ev _ _ ha hc
    have c6:=zAdd_ev _ _ hb hc
    have c7:=zCompare_ev _ _ ((hx.add hz).s1 (by omega) (by omega)) ((hy.add hz).s1 (by omega) (by omega))
    have c8:=zMul_ev _ _ ha hc
    have c9:=zMul_ev _ _ hb hc
    have c10:=zCompare_ev _ _ ((hx.mul hz).s1 (by omega) (by omega)) ((hy.mul hz).s1 (by omega) (by omega))
    have c11:=zSign_ev _ hc
    rw [cmp_it] at c1 c2 c7 c10
    rw [sub_it] at c3
    rw [sign_it] at c4 c11
    rw [add_it] at c5 c6
    rw [mul_it] at c8 c9
    refine Ev.step (fun k=>by rw [garboardlaw02_IntegerOrder.j1,if_neg (by simp)]) (Ev.bind c1 (Ev.bind c2 (Ev.bind c3 (Ev.bind c4 (Ev.bind c5 (Ev.bind c6 (Ev.bind c7 (Ev.bind c8 (Ev.bind c9 (Ev.bind c10 (Ev.bind c11 (Ev.congr (fun k=>?_) (Ev.now _)))))))))))))
    have s1:(x - y).sign = wrap64 (-(y - x).sign):=by
     rw [← Int.sign_neg,show -(y - x) = x - y by omega,wsign (sign3 _)]
    have s2:(((x - y).sign == 0) == ((it x).toList == (it y).toList)) = true:=by
     by_cases hxy:x = y
     ·subst hxy
      simp
     ·have e1:((x - y).sign == 0) = false:=beq_eq_false_iff_ne.2 (fun e=>hxy (by have:=Int.sign_eq_zero_iff_zero.1 e;omega))
      have e2:((it x).toList == (it y).toList) = false:=beq_eq_false_iff_ne.2 (fun e=>hxy (it_inj (bs_inj (by rw [← toL,← toL,e]))))
      rw [e1,e2]
      rfl
    have s3:(x * z - y * z).sign = wrap64 ((x - y).sign * z.sign):=by
     rw [← Int.sign_mul,← Int.sub_mul,wsign (sign3 _)]
    dsimp only
    rw [if_pos (by decide +kernel),if_pos s1,if_pos s2,if_pos rfl,if_pos (by rw [show x + z - (y + z) = x - y by omega]),s3,beq_self_eq_true]
end Go.Proofs.YtaknchlegjcdhaaGreatDoor.Pr
namespace Go.Proofs.YtaknchlegjcdhaaGreatDoor.Pr
set_option linter.unusedVariables false
set_option linter.unusedSimpArgs false
open Go.ChangeShapes Go.WideShapes Go.ChangeAt Go.RowKit Go.Proofs.YtaknchlegjcdhaaGreatDoorW.PrintWords
set_option maxRecDepth 100000 in
theorem integerOrder_lifted (os:Os) (started:os.Started) (H:Type) (enc:TypeId × Value→H) :
  ReturnsInHanded {} Tryz.checked os 7 .any (fun w args=>(Rows.integerOrderSpec.pre enc Tryz.prog Tryz.f7 [] false w args∧laidMetH Tryz.prog laid5 w)∧sizedMet enc Tryz.prog Tryz.f7 (OpenSpec.ofChange Rows.integerOrderSpec) false w args)
   (Rows.integerOrderSpec.post enc Tryz.prog Tryz.f7 false true false false):=by
 refine returnsInHanded_of_change_and (C:=Tryz.checked) (X:=fun w _=>laidMetH Tryz.prog laid5 w) (fun _ _ _ hh h=>h.of_heap hh) own started (by kernel_rfl) Tryz.func7
  (ChangeSpec.witness_shaped (enc:=enc) (C:=Tryz.checked) (os:=os) (X:=fun w _=>laidMetH Tryz.prog laid5 w) false (World.doorLaid Tryz.prog 400 os) #[.string ⟨#[]⟩,.string ⟨#[]⟩,.string ⟨#[]⟩] 8 rfl (World.shaped_of_RefB (by kernel_rfl) (by kernel_rfl)) (by kernel_rfl) (by kernel_rfl) (by kernel_rfl) (door_met os _)) ?_
 intro W base args ds gs before hval0 hW _ _ hL _
 have hval:∀ (j:Nat) t v,Tryz.f7.params[j]? = some t→args[j]? = some v→Value.okWide Tryz.prog W .any base t v:=hval0
 have hW':=hW
 obtain ⟨p,q,hA0,hV,rfl,hfz,hnd⟩:=hW
 have hA:DataW.TrodAll enc Tryz.prog W 0 (fun _=>true) true Tryz.f7.params.toList args.toList ds p:=hA0
 rw [Tryz.params7] at hA hval
 obtain ⟨v0,vs0,d0,ds0,p0,q0,hargs,rfl,rfl,h0,r0⟩:=trodAll_cons hA
 obtain ⟨v1,vs1,d1,ds1,p1,q1,rfl,rfl,rfl,h1,r1⟩:=trodAll_cons r0
 obtain ⟨v2,vs2,d2,ds2,p2,q2,rfl,rfl,rfl,h2,r2⟩:=trodAll_cons r1
 obtain ⟨rfl,rfl,rfl⟩:=trodAll_nil r2
 obtain rfl:args = #[v0,v1,v2]:=by cases args;simp_all
 obtain ⟨rfl,rfl⟩:=trodVars_none hV
 have lt0:∀ x ∈ p0,x.block < W.heap.size:=by obtain ⟨m,hm⟩:=h0;exact DataW.trod_lt m _ _ _ hm
 have lt1:∀ x ∈ p1,x.block < W.heap.size:=by obtain ⟨m,hm⟩:=h1;exact DataW.trod_lt m _ _ _ hm
 have lt2:∀ x ∈ p2,x.block < W.heap.size:=by obtain ⟨m,hm⟩:=h2;exact DataW.trod_lt m _ _ _ hm
 have k0:=h0
 have k1:=h1
 have k2:=h2
 obtain ⟨a0,rfl⟩:=openS (hval 0 9 v0 rfl rfl) h0
 obtain ⟨a1,rfl⟩:=openS (hval 1 9 v1 rfl rfl) h1
 obtain ⟨a2,rfl⟩:=openS (hval 2 9 v2 rfl rfl) h2
 have hT:=laid_tab hL
 clear hA0 hval0 hval
 obtain ⟨k,hk⟩:=(Order_law a0 a1 a2).rounds
 refine (garboardlaw02_IntegerOrder.calls k a0 a1 a2 true W hT hk rfl).mono fun e W' ⟨he,bel⟩=>?_
 subst he
 exact ⟨_,rfl,_,_,_,[],_,[],hW',trodAll_mk1 (shut_bool Tryz.underlying4 _),(trodAll_cons_mk (Below.trod laidOut (by kernel_rfl) (of_decide_eq_true (by kernel_rfl)) k0 bel lt0) (trodAll_cons_mk (Below.trod laidOut (by kernel_rfl) (of_decide_eq_true (by kernel_rfl)) k1 bel lt1) (trodAll_cons_mk (Below.trod laidOut (by kernel_rfl) (of_decide_eq_true (by kernel_rfl)) k2 bel lt2) trodAll_mk0))),rfl,bel.frame _,fun h=>by cases h⟩
theorem integerOrder_row:Rows.IntegerOrderSaid :=
 OpenClaim.holds_of_wide 7 Tryz.f7 rfl rfl rfl rfl rfl rfl rfl ⟨rfl,rfl,rfl,rfl,rfl⟩ rfl rfl rfl rfl rfl (by kernel_rfl) Tryz.func7 (by kernel_rfl)
  (of_decide_eq_true (by kernel_rfl)) (by unfold Func.isWrapper;first|(rw [if_pos (by decide +kernel)];kernel_rfl)|(rw [if_neg (by decide +kernel)];exact ⟨rfl,rfl⟩))
  (fun os started H enc _=>integerOrder_lifted os started H enc)
end Go.Proofs.YtaknchlegjcdhaaGreatDoor.Pr
namespace Go.Proofs.YtaknchlegjcdhaaGreatDoor
open Go
theorem integerOrder_card_holds:Rows.IntegerOrderCardSaid :=
 Claim7.holds_tied_plain_at .later [] [.data,.data,.data,.sentinel,.sentinel] true (true, "0afddc1d5b9fa5532b563da11c0d14509486c5c674670dcc3f772662c7f756d9") true
  Pr.integerOrder_row (fun _ h=>by cases h) (by kernel_rfl) (fun _ h=>by cases h) integerOrder_row_tie rfl ⟨rfl,rfl⟩ (by kernel_rfl) rfl
  (fun f fn hf hfn=>by
   obtain rfl:f = 7:=Option.some.inj ((show Tryz.prog.funcNamed "garboard/garboardlaw02.IntegerOrder" = some 7 by kernel_rfl).symm.trans hf) |>.symm
   obtain rfl:fn = Tryz.f7:=(Option.some.inj (Tryz.func7.symm.trans hfn)).symm
   exact ⟨by kernel_rfl,fun j t ht=>by
    rw [Tryz.params7] at ht
    have hm:t ∈ [9,9,9]:=by simpa using Array.mem_of_getElem? ht
    have hall:([9,9,9].all fun u=>!Tryz.prog.wantsStandIn u) = true:=by kernel_rfl
    exact (show Tryz.prog.wantsStandIn t = false by simpa using List.all_eq_true.1 hall t hm)⟩)
  (by kernel_rfl)
end Go.Proofs.YtaknchlegjcdhaaGreatDoor
