/- Part 1 of 1: garboardlaw02.IntegerRing (sums and products commute, associate and distribute; opposites; at most 120 bytes each) answers true for every input, and each argument reads behind the call as before. The library's tables are tied to the program's text by the card. -/
import Derived.Below
import Derived.Deep.Draws
import Derived.Deep.AppendLies
import Derived.Maps.AppendAt
import Derived.OwnWalk
import Derived.Laws.BytesArg
import Derived.Laws.MakeOwn
import Derived.Laws.OwnMore
import Derived.Deep.OwnRows
import Derived.Tactics
import Derived.Lib.ConvBytes
import Derived.Laws.Slices
import Derived.WalkKit
import Derived.KernelRfl
import Derived.RowKit3
import Derived.Deep.LoopGhost
import Derived.Deep.QuietTactic
import Derived.BigQuiet
import Derived.WideLaws
import Derived.Deep.DeepCutAuto
import Derived.Deep.CutBlock
import Derived.Deep.RegionHeld3
import Derived.Laws.Rows
import Derived.Lib.AppendStr
import Derived.ArgAppend
import Derived.Laws.IdiomCopy
import Derived.RowKit
import Derived.OrdersHeld
import Derived.Laws.BitsLemmas
import Derived.Laws.StructEq
import Derived.Test.YtaknchlegjcdhaaGreatDoorProg
import Derived.Shelf.Strings.Builder1
import Derived.Shelf.Strings.Builder2
import Derived.Shelf.Small.Wraps
import Derived.Shelf.Strings.BuilderF
import Derived.Shelf.Strings.BuilderK
import Derived.Shelf.Strings.Builder2Cap
import Derived.Shelf.Strconv.Itoa0
import Derived.Shelf.Strconv.Itoa1
import Derived.Shelf.LaysM
import Derived.Shelf.Strconv.Itoa2
import Derived.Shelf.Strconv.Itoa3
import Derived.Shelf.Strconv.Clone
import Derived.Shelf.Strconv.SyntaxError
import Derived.Shelf.Strconv.Lower
import Derived.Shelf.Strconv.ParseUint10
import Derived.Shelf.Strconv.ParseUint10Empty
import Derived.Shelf.Strconv.RangeError
import Derived.Shelf.Strconv.ParseUintEmpty
import Derived.Shelf.Strconv.ParseUint10b64
import Derived.Shelf.Strconv.ParseUint10b32
import Derived.Shelf.Strconv.ParseUint10b16
import Derived.Shelf.Strconv.ParseUint10b8
import Derived.Ground.MpProg
import Derived.Shelf.Pu.ParseUintPublic10
import Derived.Shelf.Strings.Prefix
import Derived.Shelf.Bits.Mul64
import Derived.Shelf.Strings.Repeat
import Derived.Ground.Names2Prog
import Derived.Shelf.Slices.SearchI
import Derived.Lib.AtoiErrMem
import Derived.Lib.ItoaNum
import Derived.Lib.ParseIntB
import Derived.RangeFuncFrom
import Derived.RangeFuncBox
import Derived.RangeFuncLeaves
import Derived.RangeFuncCalls
import Derived.RangeFuncBound
import Derived.Shelf.Abstract
import Derived.OwnWalkIn
import Derived.TacticsInMore
import Derived.LoopNIn
import Derived.LoopIn
import Derived.Lib.Hide
import Derived.Lib.FrozenHead
import Derived.Lib.AppendIntMem
import Derived.Lib.Walk
import Derived.Lib.ItoaMem
import Derived.BigCall
import Derived.BigGuard
import Derived.Great.BuildSlice
import Derived.Lib.SmallJoins
import Derived.LaidMore
import Derived.ProofKit
import Derived.Stop.Joined
import Derived.SizedLaws
import Derived.DataShut
import Derived.SevenTiedAt
import Derived.Test.YtaknchlegjcdhaaGreatDoorDz5
set_option linter.unusedVariables false
set_option linter.unusedSimpArgs false
namespace Go.Proofs.YtaknchlegjcdhaaGreatDoor.Pr
open Go.RowKit Go.Lib Go.Proofs.YtaknchlegjcdhaaGreatDoorW.PrintWords Go.Proofs.YtaknchlegjcdhaaGreatDoorW.PrintLast Go.Proofs.YtaknchlegjcdhaaGreatDoorW.PrintMore Go.Proofs.YtaknchlegjcdhaaGreatDoor.NatTh
theorem is_num {a:ByteArray} (h:nv a = true) (hs:a.size≤120):∃ n,a = num n∧Sz 120 n:=by
 refine ⟨nat a,(num_nat h).symm,?_⟩
 have h1:=pv_lt (bs a) ((nv_iff a).1 h).1
 rw [bs_length] at h1
 exact Nat.lt_of_lt_of_le h1 (Nat.pow_le_pow_right (by omega) hs)
end Go.Proofs.YtaknchlegjcdhaaGreatDoor.Pr
set_option linter.unusedVariables false
set_option linter.unusedSimpArgs false
namespace Go.Proofs.YtaknchlegjcdhaaGreatDoor.Pr
open Go.RowKit Go.Lib Go.Proofs.YtaknchlegjcdhaaGreatDoorW.PrintWords Go.Proofs.YtaknchlegjcdhaaGreatDoorW.PrintLast Go.Proofs.YtaknchlegjcdhaaGreatDoorW.PrintMore Go.Proofs.YtaknchlegjcdhaaGreatDoor.NatTh
theorem it_zof {a:ByteArray} (h:iv a = true):it (zof a) = a:=by
 have e:=zp_zof h
 unfold zp at e
 obtain ⟨e1,e2⟩:=Prod.mk.inj e
 unfold it
 rw [e2]
 by_cases hz:zof a < 0
 ·rw [if_pos hz]
  rw [decide_eq_true hz] at e1
  apply bs_inj
  have h1:abB a = a.extract 1 a.size:=if_pos e1.symm
  rw [h1]
  have h2:bs ((⟨#[45]⟩:ByteArray) ++ a.extract 1 a.size) = [45] ++ bs (a.extract 1 a.size):=by
   unfold bs
   rw [ByteArray.data_append,Array.toList_append]
  rw [h2,bs_from]
  have h3:ngB a = true:=e1.symm
  unfold ngB at h3
  cases hb:bs a with
  | nil=>rw [hb] at h3;cases h3
  | cons c l =>
   rw [hb] at h3
   have:c = 45:=by simpa using h3
   rw [this]
   rfl
 ·rw [if_neg hz]
  rw [decide_eq_false hz] at e1
  exact if_neg (by rw [← e1];simp)
theorem is_it {a:ByteArray} (h:iv a = true) (hs:a.size≤120):∃ z,a = it z∧Zs 120 z:=by
 refine ⟨zof a,(it_zof h).symm,?_⟩
 have h1:nv (abB a) = true:=iv_nv h
 obtain ⟨n,hn,h2⟩:=is_num h1 (Nat.le_trans (ab_size a) hs)
 have e:=(Prod.mk.inj (zp_zof h)).2
 rw [hn] at e
 unfold Zs
 rw [show (zof a).natAbs = n from num_inj e]
 exact h2
theorem Zs.sub {e:Nat} {y z:Int} (hy:Zs e y) (hz:Zs e z):Zs (e + 1) (y - z):=(Sz.add hy hz).le (by omega)
end Go.Proofs.YtaknchlegjcdhaaGreatDoor.Pr
namespace Go.Proofs.YtaknchlegjcdhaaGreatDoor.Pr
open Go.RowKit Go.Proofs.YtaknchlegjcdhaaGreatDoorW.PrintWords Go.Proofs.YtaknchlegjcdhaaGreatDoorW.PrintLast Go.Proofs.YtaknchlegjcdhaaGreatDoorW.PrintMore
attribute [local go_sem] max2_int min2_int max_two min_two max_three min_three max_four min_four
set_option maxHeartbeats 8000000
set_option maxRecDepth 100000
set_option linter.unusedVariables false
set_option linter.unusedSimpArgs false
def garboardlaw02_IntegerRing_1.f (k:Nat) (a0:ByteArray) (a1:ByteArray):Option (ByteArray):=(integer_Add.f k a0 a1).bind fun bt702=>(some bt702.1)
theorem garboardlaw02_IntegerRing_1.calls (k:Nat) (a0:ByteArray) (a1:ByteArray) (r:ByteArray) (w:World) (hL:LaidW w) (h:garboardlaw02_IntegerRing_1.f k a0 a1 = some r) :
  Calls Tryz.prog 34 #[.string a0,.string a1] w fun e w'=>e = .returned (.string r)∧Below w.heap.size w w':=by
 have HB:=Aside0.mk (Below.refl w.heap.size w)
 have HLW:=Aside0.mk hL
 clear hL
 have H:((integer_Add.f k a0 a1).bind fun bt702=>(some bt702.1)) = some r:=h
 clear h
 obtain ⟨⟨t702,t703⟩,A3,H⟩:=bn_ H
 dsimp only at H
 obtain rfl:=Option.some.inj H
 go_enter Tryz.func34,Tryz.ntmps34
 go_wp2_with (first|((with_reducible refine gate_callee (f:=24) rfl ?_);refine gl_ (some 10) Tryz.func24 #[.string a0,.string a1] (integer_Add.calls k a0 a1 t702 t703 _ (HLW.out.below bx_) A3.out) ?_;clear HB;intro w4 hb HB;clear hb))
 go_ret
 exact ⟨rf_,bx_⟩
end Go.Proofs.YtaknchlegjcdhaaGreatDoor.Pr
namespace Go.Proofs.YtaknchlegjcdhaaGreatDoor.Pr
open Go.RowKit Go.Proofs.YtaknchlegjcdhaaGreatDoorW.PrintWords Go.Proofs.YtaknchlegjcdhaaGreatDoorW.PrintLast Go.Proofs.YtaknchlegjcdhaaGreatDoorW.PrintMore
attribute [local go_sem] max2_int min2_int max_two min_two max_three min_three max_four min_four
set_option maxHeartbeats 8000000
set_option maxRecDepth 100000
set_option linter.unusedVariables false
set_option linter.unusedSimpArgs false
def garboardlaw02_IntegerRing_2.f (k:Nat) (a0:ByteArray) (a1:ByteArray):Option (ByteArray):=(integer_Mul.f k a0 a1).bind fun bt704=>(some bt704.1)
theorem garboardlaw02_IntegerRing_2.calls (k:Nat) (a0:ByteArray) (a1:ByteArray) (r:ByteArray) (w:World) (hL:LaidW w) (h:garboardlaw02_IntegerRing_2.f k a0 a1 = some r) :
  Calls Tryz.prog 35 #[.string a0,.string a1] w fun e w'=>e = .returned (.string r)∧Below w.heap.size w w':=by
 have HB:=Aside0.mk (Below.refl w.heap.size w)
 have HLW:=Aside0.mk hL
 clear hL
 have H:((integer_Mul.f k a0 a1).bind fun bt704=>(some bt704.1)) = some r:=h
 clear h
 obtain ⟨⟨t704,t705⟩,A3,H⟩:=bn_ H
 dsimp only at H
 obtain rfl:=Option.some.inj H
 go_enter Tryz.func35,Tryz.ntmps35
 go_wp2_with (first|((with_reducible refine gate_callee (f:=28) rfl ?_);refine gl_ (some 10) Tryz.func28 #[.string a0,.string a1] (integer_Mul.calls k a0 a1 t704 t705 _ (HLW.out.below bx_) A3.out) ?_;clear HB;intro w4 hb HB;clear hb))
 go_ret
 exact ⟨rf_,bx_⟩
end Go.Proofs.YtaknchlegjcdhaaGreatDoor.Pr
namespace Go.Proofs.YtaknchlegjcdhaaGreatDoor.Pr
open Go.RowKit Go.Proofs.YtaknchlegjcdhaaGreatDoorW.PrintWords Go.Proofs.YtaknchlegjcdhaaGreatDoorW.PrintLast Go.Proofs.YtaknchlegjcdhaaGreatDoorW.PrintMore
attribute [local go_sem] max2_int min2_int max_two min_two max_three min_three max_four min_four
set_option maxHeartbeats 8000000
set_option maxRecDepth 100000
set_option linter.unusedVariables false
set_option linter.unusedSimpArgs false
mutual
def garboardlaw02_IntegerRing.j0:Nat→ByteArray→ByteArray→ByteArray→Bool→Option (Bool)
 | 0,_,_,_,_=>none
 | k + 1,x0,x1,x2,x21=>if x21 = true then ((garboardlaw02_awake.f k).bind fun t711=>(some t711)) else ((integer_Valid.f k x0).bind fun t712=>(if t712 = true then ((integer_Valid.f k x1).bind fun t713=>(if t713 = true then ((integer_Valid.f k x2).bind fun t714=>(garboardlaw02_IntegerRing.j1 k x0 x1 x2 (!t714))) else (garboardlaw02_IntegerRing.j1 k x0 x1 x2 true))) else (garboardlaw02_IntegerRing.j1 k x0 x1 x2 true)))
def garboardlaw02_IntegerRing.j1:Nat→ByteArray→ByteArray→ByteArray→Bool→Option (Bool)
 | 0,_,_,_,_=>none
 | k + 1,x0,x1,x2,x35=>if x35 = true then (some true) else ((integer_Neg.f k x1).bind fun bt715=>((integer_Sub.f k x0 x1).bind fun bt717=>(if bt715.2 = 0 then (if bt717.2 = 0 then ((garboardlaw02_IntegerRing_1.f k x0 x1).bind fun t719=>((garboardlaw02_IntegerRing_1.f k x1 x0).bind fun t720=>(if t719.toList = t720.toList then ((garboardlaw02_IntegerRing_1.f k x0 x1).bind fun t721=>((garboardlaw02_IntegerRing_1.f k t721 x2).bind fun t722=>((garboardlaw02_IntegerRing_1.f k x1 x2).bind fun t723=>((garboardlaw02_IntegerRing_1.f k x0 t723).bind fun t724=>(if t722.toList = t724.toList then ((garboardlaw02_IntegerRing_2.f k x0 x1).bind fun t725=>((garboardlaw02_IntegerRing_2.f k x1 x0).bind fun t726=>(if t725.toList = t726.toList then ((garboardlaw02_IntegerRing_2.f k x0 x1).bind fun t727=>((garboardlaw02_IntegerRing_2.f k t727 x2).bind fun t728=>((garboardlaw02_IntegerRing_2.f k x1 x2).bind fun t729=>((garboardlaw02_IntegerRing_2.f k x0 t729).bind fun t730=>(if t728.toList = t730.toList then ((garboardlaw02_IntegerRing_1.f k x1 x2).bind fun t731=>((garboardlaw02_IntegerRing_2.f k x0 t731).bind fun t732=>((garboardlaw02_IntegerRing_2.f k x0 x1).bind fun t733=>((garboardlaw02_IntegerRing_2.f k x0 x2).bind fun t734=>((garboardlaw02_IntegerRing_1.f k t733 t734).bind fun t735=>(if t732.toList = t735.toList then ((garboardlaw02_IntegerRing_1.f k x1 bt715.1).bind fun t736=>(if t736.toList = ([48]:List UInt8) then ((garboardlaw02_IntegerRing_1.f k x0 bt715.1).bind fun t737=>(if bt717.1.toList = t737.toList then ((garboardlaw02_IntegerRing_2.f k bt715.1 (⟨#[45,49]⟩:ByteArray)).bind fun t738=>(if t738.toList = x1.toList then ((integer_Valid.f k bt717.1).bind fun t739=>(some t739)) else (some false))) else (some false))) else (some false))) else (some false))))))) else (some false)))))) else (some false)))) else (some false)))))) else (some false)))) else (some false)) else (some false))))
end
def garboardlaw02_IntegerRing.f (k:Nat) (a0:ByteArray) (a1:ByteArray) (a2:ByteArray):Option (Bool):=(garboardlaw02_awake.f k).bind fun t706=>(if t706 = true then ((garboardlaw02_long.f k (([a0,a1,a2]:List ByteArray))).bind fun t710=>(garboardlaw02_IntegerRing.j0 k a0 a1 a2 t710)) else (garboardlaw02_IntegerRing.j0 k a0 a1 a2 true))
theorem garboardlaw02_IntegerRing.calls (k:Nat) (a0:ByteArray) (a1:ByteArray) (a2:ByteArray) (r:Bool) (w:World) (hL:LaidW w) (h:garboardlaw02_IntegerRing.f k a0 a1 a2 = some r) (hr:r = true) :
  Calls Tryz.prog 6 #[.string a0,.string a1,.string a2] w fun e w'=>e = .returned (.bool r)∧Below w.heap.size w w':=by
 have HB:=Aside0.mk (Below.refl w.heap.size w)
 have HLW:=Aside0.mk hL
 have HRT:=Aside0.mk hr
 clear hr
 clear hL
 have H:((garboardlaw02_awake.f k).bind fun t706=>(if t706 = true then ((garboardlaw02_long.f k (([a0,a1,a2]:List ByteArray))).bind fun t710=>(garboardlaw02_IntegerRing.j0 k a0 a1 a2 t710)) else (garboardlaw02_IntegerRing.j0 k a0 a1 a2 true))) = some r:=h
 clear h
 have HC4:=Aside0.mk H
 clear H
 go_enter Tryz.func6,Tryz.ntmps6
 go_upto_region 1 with (fail)
 go_cut [21] (fun v21 wc=>∃ (kq:Nat) (x21_3:Bool),v21 = .bool x21_3∧Aside0 (garboardlaw02_IntegerRing.j0 kq a0 a1 a2 x21_3 = some r)∧Aside0 (kq≤k)∧Aside0 (Below w.heap.size w wc))
 case first =>
  have H:=HC4.out
  clear HC4
  obtain ⟨t706,A5,H⟩:=bn_ H
  by_cases c6:t706 = true
  ·subst c6
   have H1:((garboardlaw02_long.f k (([a0,a1,a2]:List ByteArray))).bind fun t710=>(garboardlaw02_IntegerRing.j0 k a0 a1 a2 t710)) = some r:=by rw [if_pos rfl] at H;exact H
   clear H
   have H:=H1
   clear H1
   obtain ⟨y707,hy707⟩:∃ y_:List ByteArray,y_ = (([a0,a1,a2]:List ByteArray)):=⟨_,rfl⟩
   replace H:((garboardlaw02_long.f k y707).bind fun t710=>(garboardlaw02_IntegerRing.j0 k a0 a1 a2 t710)) = some r:=by first|(rw [hy707];with_reducible exact H)|(have H2_:=(Option.bind_some _ _).symm.trans H;rw [hy707];with_reducible exact H2_)|(have H2_:=(Option.bind_some _ _).symm.trans H;with_reducible exact H2_)|with_reducible exact H|(rw [hy707];exact H)|exact H
   have Ny707:=Aside0.mk hy707
   clear hy707
   obtain ⟨t710,A7,H⟩:=bn_ H
   have H':=Aside0.mk H
   clear H
   go_wp2_with (first|((with_reducible refine gate_callee (f:=10) rfl ?_);refine gl_ (some 13) Tryz.func10 #[] (garboardlaw02_awake.calls k  true _ (HLW.out.below bx_) A5.out) ?_;clear HB;intro w8 hb HB;clear hb)|((with_reducible refine gate_dst (N:=19) rfl ?_);(try (refine gate_guard (by rfl) ?_;dsimp only));refine Kd.R_lit Kd.string _ 9 ?hg (N:=19) ?hd (xs:=([a0,a1,a2]:List ByteArray)) (inner:=[.string a0,.string a1,.string a2]) (ok:=fun _=>True) (okp:=fun _=>True) ?hr ?hp (fun _ hk=>hk) trivial (Below.refl _ _) (Nat.le_refl _) sm_ ?_;(case hd=>rfl);(case hg=>rfl);(case hr=>first|(go_simp;done)|(go_simp;rfl));(case hp=>exact (Reps.one (show Kd.M Kd.string _ _ _ a0 [.string a0] from rfl) (Reps.one (show Kd.M Kd.string _ _ _ a1 [.string a1] from rfl) (Reps.one (show Kd.M Kd.string _ _ _ a2 [.string a2] from rfl) (Reps.none _ _)))));intro v708 w9 ho10 hb hg_ hnew_;clear hg_ hnew_;(first|rw [← Ny707.out] at ho10|(simp only [Int.reduceToNat] at ho10;rw [← Ny707.out] at ho10));have HO709:=Aside0.mk (Kd.R_lower ho10 (below_size bx_));replace HB:=bs_ hb;clear hb ho10;obtain ⟨Ao11,co11,eo11⟩:=Kd.R_slice HO709.out;subst eo11)|(go_at_call 11;(with_reducible refine (garboardlaw02_long.calls k _ _ y707 t710 _ ?side1 ?side2 A7.out).mono ?_);(case side1=>exact cx_ ((Kd.R_reads' HO709.out).2.2));(case side2=>exact (Kd.R_reads' HO709.out).2.1);rintro e w' ⟨rfl,⟨nd,rfl⟩⟩))
   go_meet
   case rel=>exact ⟨_,(t710),(by first|rfl|(simp;done)|(simp [*];done)),H',⟨by first|omega|exact Nat.le_refl _⟩,⟨bx_⟩⟩
  ·replace c6:=Bool.eq_false_iff.mpr c6
   subst c6
   have H1:(garboardlaw02_IntegerRing.j0 k a0 a1 a2 true) = some r:=by rw [if_neg (show ¬ (false = true) by decide)] at H;exact H
   clear H
   have H:=H1
   clear H1
   have H':=Aside0.mk H
   clear H
   go_wp2_with (first|((with_reducible refine gate_callee (f:=10) rfl ?_);refine gl_ (some 13) Tryz.func10 #[] (garboardlaw02_awake.calls k  false _ (HLW.out.below bx_) A5.out) ?_;clear HB;intro w12 hb HB;clear hb))
   go_meet
   case rel=>exact ⟨_,(true),(by first|rfl|(simp;done)|(simp [*];done)),H',⟨by first|omega|exact Nat.le_refl _⟩,⟨bx_⟩⟩
 case rest =>
  clear HC4
  try clear c1
  try clear p2
  try clear c6
  try clear c10
  obtain ⟨kq,x21_3,rfl,HA,HJ3,HB⟩:=hcut
  cases kq with
  | zero=>exact absurd HA.out (by simp [garboardlaw02_IntegerRing.j0])
  | succ kj3 =>
   have H:=HA.out
   clear HA
   simp only [garboardlaw02_IntegerRing.j0] at H
   by_cases c13:x21_3 = true
   ·subst c13
    have H1:((garboardlaw02_awake.f kj3).bind fun t711=>(some t711)) = some r:=by rw [if_pos rfl] at H;exact H
    clear H
    have H:=H1
    clear H1
    obtain ⟨t711,A14,H⟩:=bn_ H
    obtain rfl:=Option.some.inj H
    go_wp2_with (first|((with_reducible refine gate_callee (f:=10) rfl ?_);refine gl_ (some 22) Tryz.func10 #[] (garboardlaw02_awake.calls kj3  t711 _ (HLW.out.below bx_) A14.out) ?_;clear HB;intro w15 hb HB;clear hb))
    go_ret
    exact ⟨rf_,bx_⟩
   ·replace c13:=Bool.eq_false_iff.mpr c13
    subst c13
    have H1:((integer_Valid.f kj3 a0).bind fun t712=>(if t712 = true then ((integer_Valid.f kj3 a1).bind fun t713=>(if t713 = true then ((integer_Valid.f kj3 a2).bind fun t714=>(garboardlaw02_IntegerRing.j1 kj3 a0 a1 a2 (!t714))) else (garboardlaw02_IntegerRing.j1 kj3 a0 a1 a2 true))) else (garboardlaw02_IntegerRing.j1 kj3 a0 a1 a2 true))) = some r:=by rw [if_neg (show ¬ (false = true) by decide)] at H;exact H
    clear H
    have H:=H1
    clear H1
    have HC16:=Aside0.mk H
    clear H
    go_upto_region 3 with (fail)
    go_cut [35] (fun v35 wc=>∃ (kq:Nat) (x35_15:Bool),v35 = .bool x35_15∧Aside0 (garboardlaw02_IntegerRing.j1 kq a0 a1 a2 x35_15 = some r)∧Aside0 (kq≤kj3)∧Aside0 (Below w.heap.size w wc))
    case first =>
     have H:=HC16.out
     clear HC16
     obtain ⟨t712,A17,H⟩:=bn_ H
     by_cases c18:t712 = true
     ·subst c18
      have H1:((integer_Valid.f kj3 a1).bind fun t713=>(if t713 = true then ((integer_Valid.f kj3 a2).bind fun t714=>(garboardlaw02_IntegerRing.j1 kj3 a0 a1 a2 (!t714))) else (garboardlaw02_IntegerRing.j1 kj3 a0 a1 a2 true))) = some r:=by rw [if_pos rfl] at H;exact H
      clear H
      have H:=H1
      clear H1
      obtain ⟨t713,A19,H⟩:=bn_ H
      by_cases c20:t713 = true
      ·subst c20
       have H1:((integer_Valid.f kj3 a2).bind fun t714=>(garboardlaw02_IntegerRing.j1 kj3 a0 a1 a2 (!t714))) = some r:=by rw [if_pos rfl] at H;exact H
       clear H
       have H:=H1
       clear H1
       obtain ⟨t714,A21,H⟩:=bn_ H
       have H':=Aside0.mk H
       clear H
       go_wp2_with (first|((with_reducible refine gate_callee (f:=18) rfl ?_);refine gl_ (some 24) Tryz.func18 #[.string a0] (integer_Valid.calls kj3 a0 true _ A17.out) ?_;clear HB;intro w22 hb HB;clear hb)|(go_at_call 18;(with_reducible refine (integer_Valid.calls kj3 a1 true _ A19.out).mono ?_);rintro e w23 ⟨rfl,hb⟩;replace HB:=bs_ hb;(try clear hb))|(go_at_call 18;(with_reducible refine (integer_Valid.calls kj3 a2 t714 _ A21.out).mono ?_);rintro e w24 ⟨rfl,hb⟩;replace HB:=bs_ hb;(try clear hb)))
       go_meet
       case rel=>exact ⟨_,(!t714),(by first|rfl|(simp;done)|(simp [*];done)),H',⟨by have:=HJ3.out;first|omega|exact Nat.le_refl _⟩,⟨bx_⟩⟩
      ·replace c20:=Bool.eq_false_iff.mpr c20
       subst c20
       have H1:(garboardlaw02_IntegerRing.j1 kj3 a0 a1 a2 true) = some r:=by rw [if_neg (show ¬ (false = true) by decide)] at H;exact H
       clear H
       have H:=H1
       clear H1
       have H':=Aside0.mk H
       clear H
       go_wp2_with (first|((with_reducible refine gate_callee (f:=18) rfl ?_);refine gl_ (some 24) Tryz.func18 #[.string a0] (integer_Valid.calls kj3 a0 true _ A17.out) ?_;clear HB;intro w25 hb HB;clear hb)|(go_at_call 18;(with_reducible refine (integer_Valid.calls kj3 a1 false _ A19.out).mono ?_);rintro e w26 ⟨rfl,hb⟩;replace HB:=bs_ hb;(try clear hb)))
       go_meet
       case rel=>exact ⟨_,(true),(by first|rfl|(simp;done)|(simp [*];done)),H',⟨by have:=HJ3.out;first|omega|exact Nat.le_refl _⟩,⟨bx_⟩⟩
     ·replace c18:=Bool.eq_false_iff.mpr c18
      subst c18
      have H1:(garboardlaw02_IntegerRing.j1 kj3 a0 a1 a2 true) = some r:=by rw [if_neg (show ¬ (false = true) by decide)] at H;exact H
      clear H
      have H:=H1
      clear H1
      have H':=Aside0.mk H
      clear H
      go_wp2_with (first|((with_reducible refine gate_callee (f:=18) rfl ?_);refine gl_ (some 24) Tryz.func18 #[.string a0] (integer_Valid.calls kj3 a0 false _ A17.out) ?_;clear HB;intro w27 hb HB;clear hb))
      go_meet
      case rel=>exact ⟨_,(true),(by first|rfl|(simp;done)|(simp [*];done)),H',⟨by have:=HJ3.out;first|omega|exact Nat.le_refl _⟩,⟨bx_⟩⟩
    case rest =>
     clear HC16
     try clear c1
     try clear c2
     try clear p2
     try clear c6
     try clear c10
     try clear c13
     try clear c18
     try clear c20
     try clear p2
     obtain ⟨kq,x35_15,rfl,HA,HJ15,HB⟩:=hcut
     cases kq with
     | zero=>exact absurd HA.out (by simp [garboardlaw02_IntegerRing.j1])
     | succ kj15 =>
      have H:=HA.out
      clear HA
      simp only [garboardlaw02_IntegerRing.j1] at H
      by_cases c28:x35_15 = true
      ·subst c28
       have H1:(some true) = some r:=by rw [if_pos rfl] at H;exact H
       clear H
       have H:=H1
       clear H1
       obtain rfl:=Option.some.inj H
       go_wp2
       go_ret
       exact ⟨rf_,bx_⟩
      ·replace c28:=Bool.eq_false_iff.mpr c28
       subst c28
       have H1:((integer_Neg.f kj15 a1).bind fun bt715=>((integer_Sub.f kj15 a0 a1).bind fun bt717=>(if bt715.2 = 0 then (if bt717.2 = 0 then ((garboardlaw02_IntegerRing_1.f kj15 a0 a1).bind fun t719=>((garboardlaw02_IntegerRing_1.f kj15 a1 a0).bind fun t720=>(if t719.toList = t720.toList then ((garboardlaw02_IntegerRing_1.f kj15 a0 a1).bind fun t721=>((garboardlaw02_IntegerRing_1.f kj15 t721 a2).bind fun t722=>((garboardlaw02_IntegerRing_1.f kj15 a1 a2).bind fun t723=>((garboardlaw02_IntegerRing_1.f kj15 a0 t723).bind fun t724=>(if t722.toList = t724.toList then ((garboardlaw02_IntegerRing_2.f kj15 a0 a1).bind fun t725=>((garboardlaw02_IntegerRing_2.f kj15 a1 a0).bind fun t726=>(if t725.toList = t726.toList then ((garboardlaw02_IntegerRing_2.f kj15 a0 a1).bind fun t727=>((garboardlaw02_IntegerRing_2.f kj15 t727 a2).bind fun t728=>((garboardlaw02_IntegerRing_2.f kj15 a1 a2).bind fun t729=>((garboardlaw02_IntegerRing_2.f kj15 a0 t729).bind fun t730=>(if t728.toList = t730.toList then ((garboardlaw02_IntegerRing_1.f kj15 a1 a2).bind fun t731=>((garboardlaw02_IntegerRing_2.f kj15 a0 t731).bind fun t732=>((garboardlaw02_IntegerRing_2.f kj15 a0 a1).bind fun t733=>((garboardlaw02_IntegerRing_2.f kj15 a0 a2).bind fun t734=>((garboardlaw02_IntegerRing_1.f kj15 t733 t734).bind fun t735=>(if t732.toList = t735.toList then ((garboardlaw02_IntegerRing_1.f kj15 a1 bt715.1).bind fun t736=>(if t736.toList = ([48]:List UInt8) then ((garboardlaw02_IntegerRing_1.f kj15 a0 bt715.1).bind fun t737=>(if bt717.1.toList = t737.toList then ((garboardlaw02_IntegerRing_2.f kj15 bt715.1 (⟨#[45,49]⟩:ByteArray)).bind fun t738=>(if t738.toList = a1.toList then ((integer_Valid.f kj15 bt717.1).bind fun t739=>(some t739)) else (some false))) else (some false))) else (some false))) else (some false))))))) else (some false)))))) else (some false)))) else (some false)))))) else (some false)))) else (some false)) else (some false)))) = some r:=by rw [if_neg (show ¬ (false = true) by decide)] at H;exact H
       clear H
       have H:=H1
       clear H1
       obtain ⟨⟨t715,t716⟩,A29,H⟩:=bn_ H
       dsimp only at H
       obtain ⟨⟨t717,t718⟩,A30,H⟩:=bn_ H
       dsimp only at H
       by_cases c31:t716 = 0
       ·rw [if_pos c31] at H
        have c31b0:(t716 == 0) = true:=beq_iff_eq.mpr c31
        have c31b1:(t716 != 0) = false:=bne_eq_false_iff_eq.mpr c31
        clear c31
        by_cases c32:t718 = 0
        ·rw [if_pos c32] at H
         have c32b0:(t718 == 0) = true:=beq_iff_eq.mpr c32
         have c32b1:(t718 != 0) = false:=bne_eq_false_iff_eq.mpr c32
         clear c32
         obtain ⟨t719,A33,H⟩:=bn_ H
         obtain ⟨t720,A34,H⟩:=bn_ H
         by_cases c35:t719.toList = t720.toList
         ·rw [if_pos c35] at H
          have c35b0:(t719.toList == t720.toList) = true:=beq_iff_eq.mpr c35
          have c35b1:(t719.toList != t720.toList) = false:=bne_eq_false_iff_eq.mpr c35
          clear c35
          obtain ⟨t721,A36,H⟩:=bn_ H
          obtain ⟨t722,A37,H⟩:=bn_ H
          obtain ⟨t723,A38,H⟩:=bn_ H
          obtain ⟨t724,A39,H⟩:=bn_ H
          by_cases c40:t722.toList = t724.toList
          ·rw [if_pos c40] at H
           have c40b0:(t722.toList == t724.toList) = true:=beq_iff_eq.mpr c40
           have c40b1:(t722.toList != t724.toList) = false:=bne_eq_false_iff_eq.mpr c40
           clear c40
           obtain ⟨t725,A41,H⟩:=bn_ H
           obtain ⟨t726,A42,H⟩:=bn_ H
           by_cases c43:t725.toList = t726.toList
           ·rw [if_pos c43] at H
            have c43b0:(t725.toList == t726.toList) = true:=beq_iff_eq.mpr c43
            have c43b1:(t725.toList != t726.toList) = false:=bne_eq_false_iff_eq.mpr c43
            clear c43
            obtain ⟨t727,A44,H⟩:=bn_ H
            obtain ⟨t728,A45,H⟩:=bn_ H
            obtain ⟨t729,A46,H⟩:=bn_ H
            obtain ⟨t730,A47,H⟩:=bn_ H
            by_cases c48:t728.toList = t730.toList
            ·rw [if_pos c48] at H
             have c48b0:(t728.toList == t730.toList) = true:=beq_iff_eq.mpr c48
             have c48b1:(t728.toList != t730.toList) = false:=bne_eq_false_iff_eq.mpr c48
             clear c48
             obtain ⟨t731,A49,H⟩:=bn_ H
             obtain ⟨t732,A50,H⟩:=bn_ H
             obtain ⟨t733,A51,H⟩:=bn_ H
             obtain ⟨t734,A52,H⟩:=bn_ H
             obtain ⟨t735,A53,H⟩:=bn_ H
             by_cases c54:t732.toList = t735.toList
             ·rw [if_pos c54] at H
              have c54b0:(t732.toList == t735.toList) = true:=beq_iff_eq.mpr c54
              have c54b1:(t732.toList != t735.toList) = false:=bne_eq_false_iff_eq.mpr c54
              clear c54
              obtain ⟨t736,A55,H⟩:=bn_ H
              by_cases c56:t736.toList = ([48]:List UInt8)
              ·rw [if_pos c56] at H
               have c56b0:(t736.toList == ([48]:List UInt8)) = true:=beq_iff_eq.mpr c56
               have c56b1:(t736.toList != ([48]:List UInt8)) = false:=bne_eq_false_iff_eq.mpr c56
               clear c56
               obtain ⟨t737,A57,H⟩:=bn_ H
               by_cases c58:t717.toList = t737.toList
               ·rw [if_pos c58] at H
                have c58b0:(t717.toList == t737.toList) = true:=beq_iff_eq.mpr c58
                have c58b1:(t717.toList != t737.toList) = false:=bne_eq_false_iff_eq.mpr c58
                clear c58
                obtain ⟨t738,A59,H⟩:=bn_ H
                by_cases c60:t738.toList = a1.toList
                ·rw [if_pos c60] at H
                 have c60b0:(t738.toList == a1.toList) = true:=beq_iff_eq.mpr c60
                 have c60b1:(t738.toList != a1.toList) = false:=bne_eq_false_iff_eq.mpr c60
                 clear c60
                 obtain ⟨t739,A61,H⟩:=bn_ H
                 obtain rfl:=Option.some.inj H
                 obtain rfl:t719 = t721:=Option.some.inj (A33.out.symm.trans A36.out)
                 obtain rfl:t725 = t727:=Option.some.inj (A41.out.symm.trans A44.out)
                 obtain rfl:t723 = t731:=Option.some.inj (A38.out.symm.trans A49.out)
                 obtain rfl:t725 = t733:=Option.some.inj (A41.out.symm.trans A51.out)
                 go_wp2_with (first|((with_reducible refine gate_callee (f:=16) rfl ?_);refine gl_ (some 38) Tryz.func16 #[.string a1] (integer_Neg.calls kj15 a1 t715 t716 _ A29.out) ?_;clear HB;intro w62 hb HB;clear hb)|((with_reducible refine gate_callee (f:=26) rfl ?_);refine gl_ (some 44) Tryz.func26 #[.string a0,.string a1] (integer_Sub.calls kj15 a0 a1 t717 t718 _ (HLW.out.below bx_) A30.out) ?_;clear HB;intro w63 hb HB;clear hb)|(go_at_call 34;(with_reducible refine (garboardlaw02_IntegerRing_1.calls kj15 a0 a1 t719 _ (HLW.out.below bx_) A33.out).mono ?_);rintro e w64 ⟨rfl,hb⟩;replace HB:=bs_ hb;(try clear hb))|(go_at_call 34;(with_reducible refine (garboardlaw02_IntegerRing_1.calls kj15 a1 a0 t720 _ (HLW.out.below bx_) A34.out).mono ?_);rintro e w65 ⟨rfl,hb⟩;replace HB:=bs_ hb;(try clear hb))|(go_at_call 34;(with_reducible refine (garboardlaw02_IntegerRing_1.calls kj15 a0 a1 t719 _ (HLW.out.below bx_) A36.out).mono ?_);rintro e w66 ⟨rfl,hb⟩;replace HB:=bs_ hb;(try clear hb))|(go_at_call 34;(with_reducible refine (garboardlaw02_IntegerRing_1.calls kj15 t719 a2 t722 _ (HLW.out.below bx_) A37.out).mono ?_);rintro e w67 ⟨rfl,hb⟩;replace HB:=bs_ hb;(try clear hb))|(go_at_call 34;(with_reducible refine (garboardlaw02_IntegerRing_1.calls kj15 a1 a2 t723 _ (HLW.out.below bx_) A38.out).mono ?_);rintro e w68 ⟨rfl,hb⟩;replace HB:=bs_ hb;(try clear hb))|(go_at_call 34;(with_reducible refine (garboardlaw02_IntegerRing_1.calls kj15 a0 t723 t724 _ (HLW.out.below bx_) A39.out).mono ?_);rintro e w69 ⟨rfl,hb⟩;replace HB:=bs_ hb;(try clear hb))|(go_at_call 35;(with_reducible refine (garboardlaw02_IntegerRing_2.calls kj15 a0 a1 t725 _ (HLW.out.below bx_) A41.out).mono ?_);rintro e w70 ⟨rfl,hb⟩;replace HB:=bs_ hb;(try clear hb))|(go_at_call 35;(with_reducible refine (garboardlaw02_IntegerRing_2.calls kj15 a1 a0 t726 _ (HLW.out.below bx_) A42.out).mono ?_);rintro e w71 ⟨rfl,hb⟩;replace HB:=bs_ hb;(try clear hb))|(go_at_call 35;(with_reducible refine (garboardlaw02_IntegerRing_2.calls kj15 a0 a1 t725 _ (HLW.out.below bx_) A44.out).mono ?_);rintro e w72 ⟨rfl,hb⟩;replace HB:=bs_ hb;(try clear hb))|(go_at_call 35;(with_reducible refine (garboardlaw02_IntegerRing_2.calls kj15 t725 a2 t728 _ (HLW.out.below bx_) A45.out).mono ?_);rintro e w73 ⟨rfl,hb⟩;replace HB:=bs_ hb;(try clear hb))|(go_at_call 35;(with_reducible refine (garboardlaw02_IntegerRing_2.calls kj15 a1 a2 t729 _ (HLW.out.below bx_) A46.out).mono ?_);rintro e w74 ⟨rfl,hb⟩;replace HB:=bs_ hb;(try clear hb))|(go_at_call 35;(with_reducible refine (garboardlaw02_IntegerRing_2.calls kj15 a0 t729 t730 _ (HLW.out.below bx_) A47.out).mono ?_);rintro e w75 ⟨rfl,hb⟩;replace HB:=bs_ hb;(try clear hb))|(go_at_call 34;(with_reducible refine (garboardlaw02_IntegerRing_1.calls kj15 a1 a2 t723 _ (HLW.out.below bx_) A49.out).mono ?_);rintro e w76 ⟨rfl,hb⟩;replace HB:=bs_ hb;(try clear hb))|(go_at_call 35;(with_reducible refine (garboardlaw02_IntegerRing_2.calls kj15 a0 t723 t732 _ (HLW.out.below bx_) A50.out).mono ?_);rintro e w77 ⟨rfl,hb⟩;replace HB:=bs_ hb;(try clear hb))|(go_at_call 35;(with_reducible refine (garboardlaw02_IntegerRing_2.calls kj15 a0 a1 t725 _ (HLW.out.below bx_) A51.out).mono ?_);rintro e w78 ⟨rfl,hb⟩;replace HB:=bs_ hb;(try clear hb))|(go_at_call 35;(with_reducible refine (garboardlaw02_IntegerRing_2.calls kj15 a0 a2 t734 _ (HLW.out.below bx_) A52.out).mono ?_);rintro e w79 ⟨rfl,hb⟩;replace HB:=bs_ hb;(try clear hb))|(go_at_call 34;(with_reducible refine (garboardlaw02_IntegerRing_1.calls kj15 t725 t734 t735 _ (HLW.out.below bx_) A53.out).mono ?_);rintro e w80 ⟨rfl,hb⟩;replace HB:=bs_ hb;(try clear hb))|(go_at_call 34;(with_reducible refine (garboardlaw02_IntegerRing_1.calls kj15 a1 t715 t736 _ (HLW.out.below bx_) A55.out).mono ?_);rintro e w81 ⟨rfl,hb⟩;replace HB:=bs_ hb;(try clear hb))|(go_at_call 34;(with_reducible refine (garboardlaw02_IntegerRing_1.calls kj15 a0 t715 t737 _ (HLW.out.below bx_) A57.out).mono ?_);rintro e w82 ⟨rfl,hb⟩;replace HB:=bs_ hb;(try clear hb))|(go_at_call 35;(with_reducible refine (garboardlaw02_IntegerRing_2.calls kj15 t715 (⟨#[45,49]⟩:ByteArray) t738 _ (HLW.out.below bx_) A59.out).mono ?_);rintro e w83 ⟨rfl,hb⟩;replace HB:=bs_ hb;(try clear hb))|(go_at_call 18;(with_reducible refine (integer_Valid.calls kj15 t717 t739 _ A61.out).mono ?_);rintro e w84 ⟨rfl,hb⟩;replace HB:=bs_ hb;(try clear hb)))
                 go_ret
                 exact ⟨rf_,bx_⟩
                ·rw [if_neg c60] at H
                 have c60b0:(t738.toList == a1.toList) = false:=beq_eq_false_iff_ne.mpr c60
                 have c60b1:(t738.toList != a1.toList) = true:=bne_iff_ne.mpr c60
                 exact absurd (Option.some.inj H) (by rw [HRT.out];decide)
               ·rw [if_neg c58] at H
                have c58b0:(t717.toList == t737.toList) = false:=beq_eq_false_iff_ne.mpr c58
                have c58b1:(t717.toList != t737.toList) = true:=bne_iff_ne.mpr c58
                exact absurd (Option.some.inj H) (by rw [HRT.out];decide)
              ·rw [if_neg c56] at H
               have c56b0:(t736.toList == ([48]:List UInt8)) = false:=beq_eq_false_iff_ne.mpr c56
               have c56b1:(t736.toList != ([48]:List UInt8)) = true:=bne_iff_ne.mpr c56
               exact absurd (Option.some.inj H) (by rw [HRT.out];decide)
             ·rw [if_neg c54] at H
              have c54b0:(t732.toList == t735.toList) = false:=beq_eq_false_iff_ne.mpr c54
              have c54b1:(t732.toList != t735.toList) = true:=bne_iff_ne.mpr c54
              exact absurd (Option.some.inj H) (by rw [HRT.out];decide)
            ·rw [if_neg c48] at H
             have c48b0:(t728.toList == t730.toList) = false:=beq_eq_false_iff_ne.mpr c48
             have c48b1:(t728.toList != t730.toList) = true:=bne_iff_ne.mpr c48
             exact absurd (Option.some.inj H) (by rw [HRT.out];decide)
           ·rw [if_neg c43] at H
            have c43b0:(t725.toList == t726.toList) = false:=beq_eq_false_iff_ne.mpr c43
            have c43b1:(t725.toList != t726.toList) = true:=bne_iff_ne.mpr c43
            exact absurd (Option.some.inj H) (by rw [HRT.out];decide)
          ·rw [if_neg c40] at H
           have c40b0:(t722.toList == t724.toList) = false:=beq_eq_false_iff_ne.mpr c40
           have c40b1:(t722.toList != t724.toList) = true:=bne_iff_ne.mpr c40
           exact absurd (Option.some.inj H) (by rw [HRT.out];decide)
         ·rw [if_neg c35] at H
          have c35b0:(t719.toList == t720.toList) = false:=beq_eq_false_iff_ne.mpr c35
          have c35b1:(t719.toList != t720.toList) = true:=bne_iff_ne.mpr c35
          exact absurd (Option.some.inj H) (by rw [HRT.out];decide)
        ·rw [if_neg c32] at H
         have c32b0:(t718 == 0) = false:=beq_eq_false_iff_ne.mpr c32
         have c32b1:(t718 != 0) = true:=bne_iff_ne.mpr c32
         exact absurd (Option.some.inj H) (by rw [HRT.out];decide)
       ·rw [if_neg c31] at H
        have c31b0:(t716 == 0) = false:=beq_eq_false_iff_ne.mpr c31
        have c31b1:(t716 != 0) = true:=bne_iff_ne.mpr c31
        exact absurd (Option.some.inj H) (by rw [HRT.out];decide)
end Go.Proofs.YtaknchlegjcdhaaGreatDoor.Pr
set_option linter.unusedVariables false
set_option linter.unusedSimpArgs false
namespace Go.Proofs.YtaknchlegjcdhaaGreatDoor.Pr
open Go.RowKit Go.Lib Go.Proofs.YtaknchlegjcdhaaGreatDoorW.PrintWords Go.Proofs.YtaknchlegjcdhaaGreatDoorW.PrintLast Go.Proofs.YtaknchlegjcdhaaGreatDoorW.PrintMore Go.Proofs.YtaknchlegjcdhaaGreatDoor.NatTh
theorem gAdd_ev {e:Nat} {x y:Int} (hx:Zs e x) (hy:Zs e y) (he:1≤e) (h2:e≤900):Ev (fun k=>garboardlaw02_IntegerRing_1.f k (it x) (it y)) (it (x + y)):=by
 have h:=zAdd_ev _ _ (hx.s1 he (by omega)) (hy.s1 he (by omega))
 rw [add_it] at h
 exact Ev.bind h (Ev.congr (fun k=>rfl) (Ev.now _))
theorem gMul_ev {e:Nat} {x y:Int} (hx:Zs e x) (hy:Zs e y) (he:1≤e) (h2:e≤900):Ev (fun k=>garboardlaw02_IntegerRing_2.f k (it x) (it y)) (it (x * y)):=by
 have h:=zMul_ev _ _ (hx.s1 he (by omega)) (hy.s1 he (by omega))
 rw [mul_it] at h
 exact Ev.bind h (Ev.congr (fun k=>rfl) (Ev.now _))
theorem Ring_law (a b c:ByteArray):Ev (fun k=>garboardlaw02_IntegerRing.f k a b c) true:=by
 refine law_head [a,b,c] (by simp) (fun k t=>garboardlaw02_IntegerRing.j0 k a b c t) _ (fun k=>rfl) (fun k=>by rw [garboardlaw02_IntegerRing.j0,if_pos rfl]) (fun hs=>?_)
 have sa:a.size≤120:=hs a (by simp)
 have sb:b.size≤120:=hs b (by simp)
 have sc:c.size≤120:=hs c (by simp)
 have ha:S1 a:=(Nat.le_trans sa (by omega):a.size≤1000)
 have hb:S1 b:=(Nat.le_trans sb (by omega):b.size≤1000)
 have hc:S1 c:=(Nat.le_trans sc (by omega):c.size≤1000)
 have out:Ev (fun k=>garboardlaw02_IntegerRing.j1 k a b c true) true:=Ev.step (f:=fun _=>some true) (fun k=>by rw [garboardlaw02_IntegerRing.j1,if_pos rfl]) (Ev.now _)
 refine Ev.step (fun k=>by rw [garboardlaw02_IntegerRing.j0,if_neg (by simp)]) (Ev.bind (zValid_ev a ha) ?_)
 cases h1:iv a with
 | false=>exact Ev.congr (fun k=>if_neg (by simp)) out
 | true =>
  refine Ev.congr (fun k=>if_pos rfl) (Ev.bind (zValid_ev b hb) ?_)
  cases h2:iv b with
  | false=>exact Ev.congr (fun k=>if_neg (by simp)) out
  | true =>
   refine Ev.congr (fun k=>if_pos rfl) (Ev.bind (zValid_ev c hc) ?_)
   cases h3:iv c with
   | false=>exact out
   | true =>
    obtain ⟨x,rfl,hx⟩:=is_it h1 sa
    obtain ⟨y,rfl,hy⟩:=is_it h2 sb
    obtain ⟨z,rfl,hz⟩:=is_it h3 sc
    clear out h1 h2 h3 hs sa sb sc ha hc
    have n1:=zNeg_ev _ hb
    rw [neg_it] at n1
    have hx5:=hx.mono (show 120≤500 by omega)
    have hy5:=hy.mono (show 120≤500 by omega)
    have hz5:=hz.mono (show 120≤500 by omega)
    have hny:=hy5.neg
    have d1:=zSub_ev _ _ (hx.s1 (by omega) (by omega)) (hy.s1 (by omega) (by omega))
    rw [sub_it] at d1
    have xy:Zs 500 (x + y):=(hx.add hy).mono (by omega)
    have yz:Zs 500 (y + z):=(hy.add hz).mono (by omega)
    have mxy:Zs 500 (x * y):=(hx.mul hy).mono (by omega)
    have myz:Zs 500 (y * z):=(hy.mul hz).mono (by omega)
    have mxz:Zs 500 (x * z):=(hx.mul hz).mono (by omega)
    have m1:Zs 500 (-1):=(zs_small (-1) (by decide)).mono (by omega)
    have A {u v:Int} (hu:Zs 500 u) (hv:Zs 500 v):=gAdd_ev hu hv (by omega) (by omega)
    have M {u v:Int} (hu:Zs 500 u) (hv:Zs 500 v):=gMul_ev hu hv (by omega) (by omega)
    have dv:=zValid_ev _ ((hx.sub hy).s1 (by omega) (by omega))
    rw [iv_it] at dv
    refine Ev.step (fun k=>by rw [garboardlaw02_IntegerRing.j1,if_neg (by simp)]) (Ev.bind n1 (Ev.bind d1 (Ev.congr (fun k=>(if_pos rfl).trans (if_pos rfl)) ?_)))
    refine Ev.bind (A hx5 hy5) (Ev.bind (A hy5 hx5) (Ev.congr (fun k=>if_pos (by rw [Int.add_comm])) ?_))
    refine Ev.bind (A hx5 hy5) (Ev.bind (A xy hz5) (Ev.bind (A hy5 hz5) (Ev.bind (A hx5 yz) (Ev.congr (fun k=>if_pos (by rw [Int.add_assoc])) ?_))))
    refine Ev.bind (M hx5 hy5) (Ev.bind (M hy5 hx5) (Ev.congr (fun k=>if_pos (by rw [Int.mul_comm])) ?_))
    refine Ev.bind (M hx5 hy5) (Ev.bind (M mxy hz5) (Ev.bind (M hy5 hz5) (Ev.bind (M hx5 myz) (Ev.congr (fun k=>if_pos (by rw [Int.mul_assoc])) ?_))))
    refine Ev.bind (A hy5 hz5) (Ev.bind (M hx5 yz) (Ev.bind (M hx5 hy5) (Ev.bind (M hx5 hz5) (Ev.bind (A mxy mxz) (Ev.congr (fun k=>if_pos (by rw [Int.mul_add])) ?_)))))
    refine Ev.bind (A hy5 hny) (Ev.congr (fun k=>if_pos (by rw [Int.add_right_neg];exact it_pl 0 [48] (by decide +kernel) (by decide +kernel))) ?_)
    refine Ev.bind (A hx5 hny) (Ev.congr (fun k=>if_pos (by rw [Int.sub_eq_add_neg])) ?_)
    rw [a_m1]
    refine Ev.bind (M hny m1) (Ev.congr (fun k=>if_pos (by rw [show -y * -1 = y by omega])) ?_)
    exact Ev.bind dv (Ev.now _)
end Go.Proofs.YtaknchlegjcdhaaGreatDoor.Pr
namespace Go.Proofs.YtaknchlegjcdhaaGreatDoor.Pr
set_option linter.unusedVariables false
set_option linter.unusedSimpArgs false
open Go.ChangeShapes Go.WideShapes Go.ChangeAt Go.RowKit Go.Proofs.YtaknchlegjcdhaaGreatDoorW.PrintWords
set_option maxRecDepth 100000 in
theorem integerRing_lifted (os:Os) (started:os.Started) (H:Type) (enc:TypeId × Value→H) :
  ReturnsInHanded {} Tryz.checked os 6 .any (fun w args=>(Rows.integerRingSpec.pre enc Tryz.prog Tryz.f6 [] false w args∧laidMetH Tryz.prog laid5 w)∧sizedMet enc Tryz.prog Tryz.f6 (OpenSpec.ofChange Rows.integerRingSpec) false w args)
   (Rows.integerRingSpec.post enc Tryz.prog Tryz.f6 false true false false):=by
 refine returnsInHanded_of_change_and (C:=Tryz.checked) (X:=fun w _=>laidMetH Tryz.prog laid5 w) (fun _ _ _ hh h=>h.of_heap hh) own started (by kernel_rfl) Tryz.func6
  (ChangeSpec.witness_shaped (enc:=enc) (C:=Tryz.checked) (os:=os) (X:=fun w _=>laidMetH Tryz.prog laid5 w) false (World.doorLaid Tryz.prog 400 os) #[.string ⟨#[]⟩,.string ⟨#[]⟩,.string ⟨#[]⟩] 8 rfl (World.shaped_of_RefB (by kernel_rfl) (by kernel_rfl)) (by kernel_rfl) (by kernel_rfl) (by kernel_rfl) (door_met os _)) ?_
 intro W base args ds gs before hval0 hW _ _ hL _
 have hval:∀ (j:Nat) t v,Tryz.f6.params[j]? = some t→args[j]? = some v→Value.okWide Tryz.prog W .any base t v:=hval0
 have hW':=hW
 obtain ⟨p,q,hA0,hV,rfl,hfz,hnd⟩:=hW
 have hA:DataW.TrodAll enc Tryz.prog W 0 (fun _=>true) true Tryz.f6.params.toList args.toList ds p:=hA0
 rw [Tryz.params6] at hA hval
 obtain ⟨v0,vs0,d0,ds0,p0,q0,hargs,rfl,rfl,h0,r0⟩:=trodAll_cons hA
 obtain ⟨v1,vs1,d1,ds1,p1,q1,rfl,rfl,rfl,h1,r1⟩:=trodAll_cons r0
 obtain ⟨v2,vs2,d2,ds2,p2,q2,rfl,rfl,rfl,h2,r2⟩:=trodAll_cons r1
 obtain ⟨rfl,rfl,rfl⟩:=trodAll_nil r2
 obtain rfl:args = #[v0,v1,v2]:=by cases args;simp_all
 obtain ⟨rfl,rfl⟩:=trodVars_none hV
 have lt0:∀ x ∈ p0,x.block < W.heap.size:=by obtain ⟨m,hm⟩:=h0;exact DataW.trod_lt m _ _ _ hm
 have lt1:∀ x ∈ p1,x.block < W.heap.size:=by obtain ⟨m,hm⟩:=h1;exact DataW.trod_lt m _ _ _ hm
 have lt2:∀ x ∈ p2,x.block < W.heap.size:=by obtain ⟨m,hm⟩:=h2;exact DataW.trod_lt m _ _ _ hm
 have k0:=h0
 have k1:=h1
 have k2:=h2
 obtain ⟨a0,rfl⟩:=openS (hval 0 9 v0 rfl rfl) h0
 obtain ⟨a1,rfl⟩:=openS (hval 1 9 v1 rfl rfl) h1
 obtain ⟨a2,rfl⟩:=openS (hval 2 9 v2 rfl rfl) h2
 have hT:=laid_tab hL
 clear hA0 hval0 hval
 obtain ⟨k,hk⟩:=(Ring_law a0 a1 a2).rounds
 refine (garboardlaw02_IntegerRing.calls k a0 a1 a2 true W hT hk rfl).mono fun e W' ⟨he,bel⟩=>?_
 subst he
 exact ⟨_,rfl,_,_,_,[],_,[],hW',trodAll_mk1 (shut_bool Tryz.underlying4 _),(trodAll_cons_mk (Below.trod laidOut (by kernel_rfl) (of_decide_eq_true (by kernel_rfl)) k0 bel lt0) (trodAll_cons_mk (Below.trod laidOut (by kernel_rfl) (of_decide_eq_true (by kernel_rfl)) k1 bel lt1) (trodAll_cons_mk (Below.trod laidOut (by kernel_rfl) (of_decide_eq_true (by kernel_rfl)) k2 bel lt2) trodAll_mk0))),rfl,bel.frame _,fun h=>by cases h⟩
theorem integerRing_row:Rows.IntegerRingSaid :=
 OpenClaim.holds_of_wide 6 Tryz.f6 rfl rfl rfl rfl rfl rfl rfl ⟨rfl,rfl,rfl,rfl,rfl⟩ rfl rfl rfl rfl rfl (by kernel_rfl) Tryz.func6 (by kernel_rfl)
  (of_decide_eq_true (by kernel_rfl)) (by unfold Func.isWrapper;first|(rw [if_pos (by decide +kernel)];kernel_rfl)|(rw [if_neg (by decide +kernel)];exact ⟨rfl,rfl⟩))
  (fun os started H enc _=>integerRing_lifted os started H enc)
end Go.Proofs.YtaknchlegjcdhaaGreatDoor.Pr
namespace Go.Proofs.YtaknchlegjcdhaaGreatDoor
open Go
theorem integerRing_card_holds:Rows.IntegerRingCardSaid :=
 Claim7.holds_tied_plain_at .later [] [.data,.data,.data,.sentinel,.sentinel] true (true, "0afddc1d5b9fa5532b563da11c0d14509486c5c674670dcc3f772662c7f756d9") true
  Pr.integerRing_row (fun _ h=>by cases h) (by kernel_rfl) (fun _ h=>by cases h) integerRing_row_tie rfl ⟨rfl,rfl⟩ (by kernel_rfl) rfl
  (fun f fn hf hfn=>by
   obtain rfl:f = 6:=Option.some.inj ((show Tryz.prog.funcNamed "garboard/garboardlaw02.IntegerRing" = some 6 by kernel_rfl).symm.trans hf) |>.symm
   obtain rfl:fn = Tryz.f6:=(Option.some.inj (Tryz.func6.symm.trans hfn)).symm
   exact ⟨by kernel_rfl,fun j t ht=>by
    rw [Tryz.params6] at ht
    have hm:t ∈ [9,9,9]:=by simpa using Array.mem_of_getElem? ht
    have hall:([9,9,9].all fun u=>!Tryz.prog.wantsStandIn u) = true:=by kernel_rfl
    exact (show Tryz.prog.wantsStandIn t = false by simpa using List.all_eq_true.1 hall t hm)⟩)
  (by kernel_rfl)
end Go.Proofs.YtaknchlegjcdhaaGreatDoor
