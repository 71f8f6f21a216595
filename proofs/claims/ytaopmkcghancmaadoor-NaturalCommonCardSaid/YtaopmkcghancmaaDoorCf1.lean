/- Part 1 of 1: garboardlaw01.NaturalCommon (the greatest common divisor divides both, the quotients have none, a common factor multiplies it; at most 120 bytes each) answers true for every input, and each argument reads behind the call as before. The library's tables are tied to the program's text by the card. -/
import Derived.Below
import Derived.Deep.Draws
import Derived.Deep.AppendLies
import Derived.Maps.AppendAt
import Derived.OwnWalk
import Derived.Laws.BytesArg
import Derived.Laws.MakeOwn
import Derived.Laws.OwnMore
import Derived.Deep.OwnRows
import Derived.Tactics
import Derived.Lib.ConvBytes
import Derived.Laws.Slices
import Derived.WalkKit
import Derived.KernelRfl
import Derived.RowKit3
import Derived.Deep.LoopGhost
import Derived.Deep.QuietTactic
import Derived.BigQuiet
import Derived.WideLaws
import Derived.Deep.DeepCutAuto
import Derived.Deep.CutBlock
import Derived.Deep.RegionHeld3
import Derived.Laws.Rows
import Derived.Lib.AppendStr
import Derived.ArgAppend
import Derived.Laws.IdiomCopy
import Derived.RowKit
import Derived.OrdersHeld
import Derived.Laws.BitsLemmas
import Derived.Laws.StructEq
import Derived.Test.YtaopmkcghancmaaDoorProg
import Derived.Shelf.Strings.Builder1
import Derived.Shelf.Strings.Builder2
import Derived.Shelf.Small.Wraps
import Derived.Shelf.Strings.BuilderF
import Derived.Shelf.Strings.BuilderK
import Derived.Shelf.Strings.Builder2Cap
import Derived.Shelf.Strconv.Itoa0
import Derived.Shelf.Strconv.Itoa1
import Derived.Shelf.LaysM
import Derived.Shelf.Strconv.Itoa2
import Derived.Shelf.Strconv.Itoa3
import Derived.Shelf.Strconv.Clone
import Derived.Shelf.Strconv.SyntaxError
import Derived.Shelf.Strconv.Lower
import Derived.Shelf.Strconv.ParseUint10
import Derived.Shelf.Strconv.ParseUint10Empty
import Derived.Shelf.Strconv.RangeError
import Derived.Shelf.Strconv.ParseUintEmpty
import Derived.Shelf.Strconv.ParseUint10b64
import Derived.Shelf.Strconv.ParseUint10b32
import Derived.Shelf.Strconv.ParseUint10b16
import Derived.Shelf.Strconv.ParseUint10b8
import Derived.Ground.MpProg
import Derived.Shelf.Pu.ParseUintPublic10
import Derived.Shelf.Strings.Prefix
import Derived.Shelf.Bits.Mul64
import Derived.Shelf.Strings.Repeat
import Derived.Ground.Names2Prog
import Derived.Shelf.Slices.SearchI
import Derived.Lib.AtoiErrMem
import Derived.Lib.ItoaNum
import Derived.Lib.ParseIntB
import Derived.RangeFuncFrom
import Derived.RangeFuncBox
import Derived.RangeFuncLeaves
import Derived.RangeFuncCalls
import Derived.RangeFuncBound
import Derived.Shelf.Abstract
import Derived.OwnWalkIn
import Derived.TacticsInMore
import Derived.LoopNIn
import Derived.LoopIn
import Derived.Lib.Hide
import Derived.Lib.FrozenHead
import Derived.Lib.AppendIntMem
import Derived.Lib.Walk
import Derived.Lib.ItoaMem
import Derived.BigCall
import Derived.BigGuard
import Derived.Lib.SmallJoins
import Derived.LaidMore
import Derived.ProofKit
import Derived.Stop.Joined
import Derived.SizedLaws
import Derived.DataShut
import Derived.SevenTiedAt
import Derived.Test.YtaopmkcghancmaaDoorCz4
set_option linter.unusedVariables false
set_option linter.unusedSimpArgs false
namespace Go.Proofs.YtaopmkcghancmaaDoor.Pr
open Go.RowKit Go.Lib Go.Proofs.YtaopmkcghancmaaDoorW.PrintWords Go.Proofs.YtaopmkcghancmaaDoorW.PrintLast Go.Proofs.YtaopmkcghancmaaDoorW.PrintMore Go.Proofs.YtaopmkcghancmaaDoor.NatTh
theorem nv_num (n:Nat):nv (num n) = true:=(nv_iff _).2 (nml_dec n)
theorem nat_num (n:Nat):nat (num n) = n:=pv_dec n
theorem bs_inj {a b:ByteArray} (h:bs a = bs b):a = b:=by
 cases a
 cases b
 exact congrArg _ (Array.toList_inj.1 h)
theorem num_nat {a:ByteArray} (h:nv a = true):num (nat a) = a:=bs_inj (dec_pv (bs a) ((nv_iff a).1 h))
theorem num_inj {m n:Nat} (h:num m = num n):m = n:=by rw [← nat_num m,h,nat_num]
theorem num_toList_inj {m n:Nat}:(num m).toList = (num n).toList ↔ m = n:=⟨fun h=>num_inj (bs_inj (by rw [← toL,← toL,h])),fun h=>by rw [h]⟩
theorem num_beq (m n:Nat):((num m).toList == (num n).toList) = decide (m = n):=by
 by_cases h:m = n
 ·subst h
  simp
 ·rw [decide_eq_false h]
  exact beq_eq_false_iff_ne.2 (fun e=>h (num_toList_inj.1 e))
theorem num0:(num 0).toList = ([48]:List UInt8):=num_list _ _ (by decide +kernel) (by decide +kernel)
theorem num1:(num 1).toList = ([49]:List UInt8):=num_list _ _ (by decide +kernel) (by decide +kernel)
theorem is0 (n:Nat):(num n).toList = ([48]:List UInt8) ↔ n = 0:=by rw [← num0,num_toList_inj]
theorem beq0 (n:Nat):((num n).toList == ([48]:List UInt8)) = decide (n = 0):=by rw [← num0,num_beq]
def Sz (e n:Nat):Prop:=n < 10 ^ e
theorem sz_size {e n:Nat} (he:1≤e) (h:Sz e n):(num n).size≤e:=by
 have h1:(num n).size = nDigits n:=by
  rw [← bs_length,show bs (num n) = decDigits n from rfl,decDigits_length]
 rw [h1]
 exact nDigits_le e n he h
theorem Sz.le {e m n:Nat} (h:Sz e n) (hm:m≤n):Sz e m:=Nat.lt_of_le_of_lt hm h
theorem Sz.mul {e f m n:Nat} (hm:Sz e m) (hn:Sz f n):Sz (e + f) (m * n):=by
 unfold Sz at *
 rw [Nat.pow_add]
 exact Nat.mul_lt_mul'' hm hn
theorem Sz.sh {e n:Nat} (h:Sz e n) (he:1≤e) (h2:e≤100000):Sh (num n):=Nat.le_trans (sz_size he h) (by omega)
theorem is_num {a:ByteArray} (h:nv a = true) (hs:a.size≤120):∃ n,a = num n∧Sz 120 n:=by
 refine ⟨nat a,(num_nat h).symm,?_⟩
 have h1:=pv_lt (bs a) ((nv_iff a).1 h).1
 rw [bs_length] at h1
 exact Nat.lt_of_lt_of_le h1 (Nat.pow_le_pow_right (by omega) hs)
theorem both_num (m n:Nat):(nv (num m) && nv (num n)) = true:=by rw [nv_num,nv_num];rfl
theorem mul_f {m n:Nat} (hm:Sh (num m)) (hn:Sh (num n)):natural_Mul.f (num m) (num n) = some (num (m * n),0):=by
 unfold natural_Mul.f mulV
 rw [if_pos ⟨hm,hn⟩,if_pos (both_num m n),nat_num,nat_num]
theorem gcd_f {m n:Nat} (hm:Sh (num m)) (hn:Sh (num n)):natural_GCD.f (num m) (num n) = some (num (Nat.gcd m n),0):=by
 unfold natural_GCD.f gcdV
 rw [if_pos ⟨hm,hn⟩,if_pos (both_num m n),nat_num,nat_num]
theorem div_e {m n:Nat} (hm:Sh (num m)) (hn:Sh (num n)):Ev (fun k=>natural_DivMod.f k (num m) (num n)) (if n = 0 then (⟨#[]⟩,⟨#[]⟩,16) else (num (m / n),num (m % n),0)):=by
 have h:=DivMod_ev (num m) (num n) hm hn
 unfold divV at h
 rw [if_pos (both_num m n),nat_num,nat_num] at h
 exact h
theorem w00:wrap64 (0 + 0) = 0:=by
 unfold wrap64
 rfl
end Go.Proofs.YtaopmkcghancmaaDoor.Pr
namespace Go.Proofs.YtaopmkcghancmaaDoor.Pr
set_option linter.unusedVariables false
set_option linter.unusedSimpArgs false
open Go.ChangeShapes Go.WideShapes Go.ChangeAt Go.Deep Go.Joins Go.RowKit Go.Proofs.YtaopmkcghancmaaDoorW.PrintWords
theorem own:ownKnob Tryd.prog.godebug = none:=by kernel_rfl
theorem laidOut:laidOutB Tryd.prog = true:=by kernel_rfl
set_option maxRecDepth 100000 in
theorem openS {H:Type} {enc:TypeId × Value→H} {W:World} {r:Reach} {b0:Nat} {v:Value} {d:DataW H} {p:List MemPlace} (hv:Value.okWide Tryd.prog W r b0 9 v) (h:DataW.Trod enc Tryd.prog W 0 (fun _=>true) true 9 v d p):∃ s,v = .string s:=by
 obtain ⟨s,e,_⟩:=Go.ChangeMaps.open_string Tryd.underlying9 hv h
 exact ⟨s,e⟩
def laid5:List (String × DataW Unit):=[("math/bits.deBruijn32tab",Rows.laid_math_bits_deBruijn32tab),("math/bits.deBruijn64tab",Rows.laid_math_bits_deBruijn64tab),("internal/strconv.uint64pow10",Rows.laid_internal_strconv_uint64pow10),("strconv.ErrRange",Rows.laid_strconv_ErrRange),("strconv.ErrSyntax",Rows.laid_strconv_ErrSyntax)]
theorem gPow:Tryd.prog.globalNamed "internal/strconv.uint64pow10" = some 0:=by kernel_rfl
theorem gPowType:(Tryd.prog.globals[0]?).map (·.type) = some 123:=by kernel_rfl
theorem laid_tab {W:World} (h:laidMetH Tryd.prog laid5 W):LaidW W:=by
 rw [MakeChecks.laidMetH_plain _ _ _ (by kernel_rfl)] at h
 obtain ⟨ps,⟨g0,t0,cs0,f0,p0,q0,hg0,ht0,hv0,hd0,⟨g1,t1,cs1,f1,p1,q1,hg1,ht1,hv1,hd1,⟨g2,t2,cs2,f2,p2,q2,hg2,ht2,hv2,hd2,_,_⟩,_⟩,_⟩,_⟩:=h
 obtain rfl:=Option.some.inj (gPow.symm.trans hg2)
 obtain rfl:=Option.some.inj (gPowType.symm.trans ht2)
 have e:(Rows.laid_internal_strconv_uint64pow10:DataW Unit) = Lib.tabData .u64 Lib.pow10Tab:=rfl
 rw [e] at hd2
 unfold LaidW Lib.TabIs
 rw [hv2,← Lib.cells_of_tab Tryd.underlying123 Tryd.underlying61 (by kernel_rfl) (by kernel_rfl) hd2]
theorem door_met (os:Os) (args:Array Value):laidMetH Tryd.prog laid5 ((World.doorLaid Tryd.prog 400 os).forCall (fun _ _=>0) ⟨#[],args,[]⟩).memory :=
 laidMetH_of_parts3 (fuel:=8) (laidMet_of_run' 8 (by kernel_rfl) (by kernel_rfl)) (by kernel_rfl) (by kernel_rfl)
end Go.Proofs.YtaopmkcghancmaaDoor.Pr
namespace Go.Proofs.YtaopmkcghancmaaDoor.Pr
open Go.RowKit Go.Proofs.YtaopmkcghancmaaDoorW.PrintWords Go.Proofs.YtaopmkcghancmaaDoorW.PrintLast Go.Proofs.YtaopmkcghancmaaDoorW.PrintMore
attribute [local go_sem] max2_int min2_int max_two min_two max_three min_three max_four min_four
set_option linter.unusedVariables false
set_option linter.unusedSimpArgs false
mutual
def garboardlaw01_NaturalCommon.j0:Nat→ByteArray→ByteArray→ByteArray→Bool→Option (Bool)
 | 0,_,_,_,_=>none
 | k + 1,x0,x1,x2,x35=>if x35 = true then ((garboardlaw01_awake.f k).bind fun t623=>(some t623)) else ((natural_Valid.f k x0).bind fun t624=>(if t624 = true then ((natural_Valid.f k x1).bind fun t625=>(if t625 = true then ((natural_Valid.f k x2).bind fun t626=>(garboardlaw01_NaturalCommon.j1 k x0 x1 x2 (!t626))) else (garboardlaw01_NaturalCommon.j1 k x0 x1 x2 true))) else (garboardlaw01_NaturalCommon.j1 k x0 x1 x2 true)))
def garboardlaw01_NaturalCommon.j1:Nat→ByteArray→ByteArray→ByteArray→Bool→Option (Bool)
 | 0,_,_,_,_=>none
 | k + 1,x0,x1,x2,x49=>if x49 = true then (some true) else ((natural_GCD.f x0 x1).bind fun bt627=>((natural_GCD.f x1 x0).bind fun bt629=>(if bt627.2 = 0 then (if bt629.2 = 0 then (if bt627.1.toList = bt629.1.toList then (if x0.toList = ([48]:List UInt8) then (garboardlaw01_NaturalCommon.j2 k x0 x1 x2 bt627.1 ((bt627.1.toList == ([48]:List UInt8)) != (x1.toList == ([48]:List UInt8)))) else (garboardlaw01_NaturalCommon.j2 k x0 x1 x2 bt627.1 ((bt627.1.toList == ([48]:List UInt8)) != false))) else (garboardlaw01_NaturalCommon.j2 k x0 x1 x2 bt627.1 true)) else (garboardlaw01_NaturalCommon.j2 k x0 x1 x2 bt627.1 true)) else (garboardlaw01_NaturalCommon.j2 k x0 x1 x2 bt627.1 true))))
def garboardlaw01_NaturalCommon.j2:Nat→ByteArray→ByteArray→ByteArray→ByteArray→Bool→Option (Bool)
 | 0,_,_,_,_,_=>none
 | k + 1,x0,x1,x2,x7,x83=>if x83 = true then (some false) else (if x7.toList = ([48]:List UInt8) then (some true) else ((natural_DivMod.f k x0 x7).bind fun bt631=>((natural_DivMod.f k x1 x7).bind fun bt634=>((natural_GCD.f bt631.1 bt634.1).bind fun bt637=>((natural_Mul.f x0 x2).bind fun bt639=>((natural_Mul.f x1 x2).bind fun bt641=>((natural_Mul.f x7 x2).bind fun bt643=>((natural_GCD.f bt639.1 bt641.1).bind fun bt645=>(if (wrap64 ((wrap64 ((wrap64 ((wrap64 ((wrap64 ((wrap64 (bt631.2.2 + bt634.2.2)) + bt637.2)) + bt639.2)) + bt641.2)) + bt643.2)) + bt645.2)) = 0 then (if bt631.2.1.toList = ([48]:List UInt8) then (if bt634.2.1.toList = ([48]:List UInt8) then (if bt637.1.toList = ([49]:List UInt8) then (some (bt645.1.toList == bt643.1.toList)) else (some false)) else (some false)) else (some false)) else (some false))))))))))
end
def garboardlaw01_NaturalCommon.f (k:Nat) (a0:ByteArray) (a1:ByteArray) (a2:ByteArray):Option (Bool):=(garboardlaw01_awake.f k).bind fun t618=>(if t618 = true then ((garboardlaw01_long.f k (([a0,a1,a2]:List ByteArray))).bind fun t622=>(garboardlaw01_NaturalCommon.j0 k a0 a1 a2 t622)) else (garboardlaw01_NaturalCommon.j0 k a0 a1 a2 true))
set_option maxHeartbeats 8000000 in
set_option maxRecDepth 100000 in
theorem garboardlaw01_NaturalCommon.calls (k:Nat) (a0:ByteArray) (a1:ByteArray) (a2:ByteArray) (r:Bool) (w:World) (hL:LaidW w) (h:garboardlaw01_NaturalCommon.f k a0 a1 a2 = some r) :
  Calls Tryd.prog 9 #[.string a0,.string a1,.string a2] w fun e w'=>e = .returned (.bool r)∧Below w.heap.size w w':=by
 have HB:=Aside0.mk (Below.refl w.heap.size w)
 have HLW:=Aside0.mk hL
 clear hL
 have H:((garboardlaw01_awake.f k).bind fun t618=>(if t618 = true then ((garboardlaw01_long.f k (([a0,a1,a2]:List ByteArray))).bind fun t622=>(garboardlaw01_NaturalCommon.j0 k a0 a1 a2 t622)) else (garboardlaw01_NaturalCommon.j0 k a0 a1 a2 true))) = some r:=h
 clear h
 have HC4:=Aside0.mk H
 clear H
 go_enter Tryd.func9,Tryd.ntmps9
 go_upto_region 1 with (fail)
 go_cut [35] (fun v35 wc=>∃ (kq:Nat) (x35_3:Bool),v35 = .bool x35_3∧Aside0 (garboardlaw01_NaturalCommon.j0 kq a0 a1 a2 x35_3 = some r)∧Aside0 (kq≤k)∧Aside0 (Below w.heap.size w wc))
 case first =>
  have H:=HC4.out
  clear HC4
  replace H:=Option.bind_eq_some_iff.mp H
  obtain ⟨t618,A50,H⟩:=H
  replace H:(if t618 = true then ((garboardlaw01_long.f k (([a0,a1,a2]:List ByteArray))).bind fun t622=>(garboardlaw01_NaturalCommon.j0 k a0 a1 a2 t622)) else (garboardlaw01_NaturalCommon.j0 k a0 a1 a2 true)) = some r:=H
  have A5:=Aside0.mk A50
  clear A50
  by_cases c6:t618 = true
  ·subst c6
   have H1:((garboardlaw01_long.f k (([a0,a1,a2]:List ByteArray))).bind fun t622=>(garboardlaw01_NaturalCommon.j0 k a0 a1 a2 t622)) = some r:=by rw [if_pos rfl] at H;exact H
   clear H
   have H:=H1
   clear H1
   obtain ⟨y619,hy619⟩:∃ y_:List ByteArray,y_ = (([a0,a1,a2]:List ByteArray)):=⟨_,rfl⟩
   replace H:((garboardlaw01_long.f k y619).bind fun t622=>(garboardlaw01_NaturalCommon.j0 k a0 a1 a2 t622)) = some r:=by first|(rw [hy619];with_reducible exact H)|(have H2_:=(Option.bind_some _ _).symm.trans H;rw [hy619];with_reducible exact H2_)|(have H2_:=(Option.bind_some _ _).symm.trans H;with_reducible exact H2_)|with_reducible exact H|(rw [hy619];exact H)|exact H
   have Ny619:=Aside0.mk hy619
   clear hy619
   replace H:=Option.bind_eq_some_iff.mp H
   obtain ⟨t622,A70,H⟩:=H
   replace H:(garboardlaw01_NaturalCommon.j0 k a0 a1 a2 t622) = some r:=H
   have A7:=Aside0.mk A70
   clear A70
   have H':=Aside0.mk H
   clear H
   go_wp2_with (first|((with_reducible refine gate_callee (f:=11) rfl ?_);refine goesL_ (some 27) rfl rfl Tryd.func11 (by kernel_rfl) rfl #[] rfl (by (try simp only [List.map_toArray,List.map_cons,List.map_nil]);first|done|rfl|(simp only [List.length_drop,List.length_take];rfl)) ?_;(with_reducible refine (garboardlaw01_awake.calls k  true _ ?side1 A5.out).mono ?_);(case side1=>exact HLW.out.below (by repeat (first|(with_reducible first|exact HB.out|apply below_alloc|apply pw_below_drewN|apply below_drew1)|exact HB.out)));rintro e w8 ⟨rfl,hb⟩;refine ⟨_,rfl,?_⟩;have n0_:=Aside0.mk (below_step (by repeat (first|(with_reducible first|exact HB.out|apply below_alloc|apply pw_below_drewN|apply below_drew1)|exact HB.out)) hb);clear HB;have HB:=n0_;clear n0_;(try clear hb);(try clear hb2);(try clear hk);(try clear hi))|((with_reducible refine gate_dst (N:=33) rfl ?_);(try (refine gate_guard (by rfl) ?_;dsimp only));refine Kd.R_lit Kd.string _ 9 ?hg (N:=33) ?hd (xs:=([a0,a1,a2]:List ByteArray)) (inner:=[.string a0,.string a1,.string a2]) (ok:=fun _=>True) (okp:=fun _=>True) ?hr ?hp (fun _ hk=>hk) trivial (Below.refl _ _) (Nat.le_refl _) (by simp) ?_;(case hd=>rfl);(case hg=>rfl);(case hr=>first|(go_simp;done)|(go_simp;rfl));(case hp=>exact (Reps.one (show Kd.M Kd.string _ _ _ a0 [.string a0] from rfl) (Reps.one (show Kd.M Kd.string _ _ _ a1 [.string a1] from rfl) (Reps.one (show Kd.M Kd.string _ _ _ a2 [.string a2] from rfl) (Reps.none _ _)))));intro v620 w9 ho10 hb hg_ hnew_;clear hg_ hnew_;(first|rw [← Ny619.out] at ho10|(simp only [Int.reduceToNat] at ho10;rw [← Ny619.out] at ho10));have n0_:=Aside0.mk (Kd.R_lower ho10 (below_size (by repeat (first|(with_reducible first|exact HB.out|apply below_alloc|apply pw_below_drewN|apply below_drew1)|exact HB.out))));have n1_:=Aside0.mk (below_step (by repeat (first|(with_reducible first|exact HB.out|apply below_alloc|apply pw_below_drewN|apply below_drew1)|exact HB.out)) hb);clear HB;have HO621:=n0_;have HB:=n1_;clear n0_ n1_;clear hb ho10;obtain ⟨Ao11,co11,eo11⟩:=Kd.R_slice HO621.out;subst eo11)|(go_at_call 12;(with_reducible refine (garboardlaw01_long.calls k _ _ y619 t622 _ ?side1 ?side2 A7.out).mono ?_);(case side1=>repeat (first|exact (Kd.R_reads' HO621.out).2.2|(with_reducible refine Kd.C_alloc ?_ _)|(with_reducible refine Kd.C_drewN ?_ _)|(with_reducible refine Kd.C_drew ?_)));(case side2=>exact (Kd.R_reads' HO621.out).2.1);rintro e w' ⟨rfl,⟨nd,rfl⟩⟩))
   go_meet
   case rel=>exact ⟨_,(t622),(by first|rfl|(simp;done)|(simp [*];done)),H',⟨by first|omega|exact Nat.le_refl _⟩,⟨by repeat (first|(with_reducible first|exact HB.out|apply below_alloc|apply pw_below_drewN|apply below_drew1)|exact HB.out)⟩⟩
  ·replace c6:=Bool.eq_false_iff.mpr c6
   subst c6
   have H1:(garboardlaw01_NaturalCommon.j0 k a0 a1 a2 true) = some r:=by rw [if_neg (show ¬ (false = true) by decide)] at H;exact H
   clear H
   have H:=H1
   clear H1
   have H':=Aside0.mk H
   clear H
   go_wp2_with (first|((with_reducible refine gate_callee (f:=11) rfl ?_);refine goesL_ (some 27) rfl rfl Tryd.func11 (by kernel_rfl) rfl #[] rfl (by (try simp only [List.map_toArray,List.map_cons,List.map_nil]);first|done|rfl|(simp only [List.length_drop,List.length_take];rfl)) ?_;(with_reducible refine (garboardlaw01_awake.calls k  false _ ?side1 A5.out).mono ?_);(case side1=>exact HLW.out.below (by repeat (first|(with_reducible first|exact HB.out|apply below_alloc|apply pw_below_drewN|apply below_drew1)|exact HB.out)));rintro e w12 ⟨rfl,hb⟩;refine ⟨_,rfl,?_⟩;have n0_:=Aside0.mk (below_step (by repeat (first|(with_reducible first|exact HB.out|apply below_alloc|apply pw_below_drewN|apply below_drew1)|exact HB.out)) hb);clear HB;have HB:=n0_;clear n0_;(try clear hb);(try clear hb2);(try clear hk);(try clear hi)))
   go_meet
   case rel=>exact ⟨_,(true),(by first|rfl|(simp;done)|(simp [*];done)),H',⟨by first|omega|exact Nat.le_refl _⟩,⟨by repeat (first|(with_reducible first|exact HB.out|apply below_alloc|apply pw_below_drewN|apply below_drew1)|exact HB.out)⟩⟩
 case rest =>
  clear HC4
  try clear c1
  try clear p2
  try clear c6
  try clear c9
  try clear c11
  obtain ⟨kq,x35_3,rfl,HA,HJ3,HB⟩:=hcut
  cases kq with
  | zero=>exact absurd HA.out (by simp [garboardlaw01_NaturalCommon.j0])
  | succ kj3 =>
   have H:=HA.out
   clear HA
   simp only [garboardlaw01_NaturalCommon.j0] at H
   by_cases c13:x35_3 = true
   ·subst c13
    have H1:((garboardlaw01_awake.f kj3).bind fun t623=>(some t623)) = some r:=by rw [if_pos rfl] at H;exact H
    clear H
    have H:=H1
    clear H1
    replace H:=Option.bind_eq_some_iff.mp H
    obtain ⟨t623,A140,H⟩:=H
    replace H:(some t623) = some r:=H
    have A14:=Aside0.mk A140
    clear A140
    obtain rfl:=Option.some.inj H
    go_wp2_with (first|((with_reducible refine gate_callee (f:=11) rfl ?_);refine goesL_ (some 36) rfl rfl Tryd.func11 (by kernel_rfl) rfl #[] rfl (by (try simp only [List.map_toArray,List.map_cons,List.map_nil]);first|done|rfl|(simp only [List.length_drop,List.length_take];rfl)) ?_;(with_reducible refine (garboardlaw01_awake.calls kj3  t623 _ ?side1 A14.out).mono ?_);(case side1=>exact HLW.out.below (by repeat (first|(with_reducible first|exact HB.out|apply below_alloc|apply pw_below_drewN|apply below_drew1)|exact HB.out)));rintro e w15 ⟨rfl,hb⟩;refine ⟨_,rfl,?_⟩;have n0_:=Aside0.mk (below_step (by repeat (first|(with_reducible first|exact HB.out|apply below_alloc|apply pw_below_drewN|apply below_drew1)|exact HB.out)) hb);clear HB;have HB:=n0_;clear n0_;(try clear hb);(try clear hb2);(try clear hk);(try clear hi)))
    go_ret
    exact ⟨by first|rfl|(simp [errW_none,errW_some]<;>rfl)|(simp [*,errW_none,errW_some]<;>rfl),by repeat (first|(with_reducible first|exact HB.out|apply below_alloc|apply pw_below_drewN|apply below_drew1)|exact HB.out)⟩
   ·replace c13:=Bool.eq_false_iff.mpr c13
    subst c13
    have H1:((natural_Valid.f kj3 a0).bind fun t624=>(if t624 = true then ((natural_Valid.f kj3 a1).bind fun t625=>(if t625 = true then ((natural_Valid.f kj3 a2).bind fun t626=>(garboardlaw01_NaturalCommon.j1 kj3 a0 a1 a2 (!t626))) else (garboardlaw01_NaturalCommon.j1 kj3 a0 a1 a2 true))) else (garboardlaw01_NaturalCommon.j1 kj3 a0 a1 a2 true))) = some r:=by rw [if_neg (show ¬ (false = true) by decide)] at H;exact H
    clear H
    have H:=H1
    clear H1
    have HC16:=Aside0.mk H
    clear H
    go_upto_region 3 with (fail)
    go_cut [49] (fun v49 wc=>∃ (kq:Nat) (x49_15:Bool),v49 = .bool x49_15∧Aside0 (garboardlaw01_NaturalCommon.j1 kq a0 a1 a2 x49_15 = some r)∧Aside0 (kq≤kj3)∧Aside0 (Below w.heap.size w wc))
    case first =>
     have H:=HC16.out
     clear HC16
     replace H:=Option.bind_eq_some_iff.mp H
     obtain ⟨t624,A170,H⟩:=H
     replace H:(if t624 = true then ((natural_Valid.f kj3 a1).bind fun t625=>(if t625 = true then ((natural_Valid.f kj3 a2).bind fun t626=>(garboardlaw01_NaturalCommon.j1 kj3 a0 a1 a2 (!t626))) else (garboardlaw01_NaturalCommon.j1 kj3 a0 a1 a2 true))) else (garboardlaw01_NaturalCommon.j1 kj3 a0 a1 a2 true)) = some r:=H
     have A17:=Aside0.mk A170
     clear A170
     by_cases c18:t624 = true
     ·subst c18
      have H1:((natural_Valid.f kj3 a1).bind fun t625=>(if t625 = true then ((natural_Valid.f kj3 a2).bind fun t626=>(garboardlaw01_NaturalCommon.j1 kj3 a0 a1 a2 (!t626))) else (garboardlaw01_NaturalCommon.j1 kj3 a0 a1 a2 true))) = some r:=by rw [if_pos rfl] at H;exact H
      clear H
      have H:=H1
      clear H1
      replace H:=Option.bind_eq_some_iff.mp H
      obtain ⟨t625,A190,H⟩:=H
      replace H:(if t625 = true then ((natural_Valid.f kj3 a2).bind fun t626=>(garboardlaw01_NaturalCommon.j1 kj3 a0 a1 a2 (!t626))) else (garboardlaw01_NaturalCommon.j1 kj3 a0 a1 a2 true)) = some r:=H
      have A19:=Aside0.mk A190
      clear A190
      by_cases c20:t625 = true
      ·subst c20
       have H1:((natural_Valid.f kj3 a2).bind fun t626=>(garboardlaw01_NaturalCommon.j1 kj3 a0 a1 a2 (!t626))) = some r:=by rw [if_pos rfl] at H;exact H
       clear H
       have H:=H1
       clear H1
       replace H:=Option.bind_eq_some_iff.mp H
       obtain ⟨t626,A210,H⟩:=H
       replace H:(garboardlaw01_NaturalCommon.j1 kj3 a0 a1 a2 (!t626)) = some r:=H
       have A21:=Aside0.mk A210
       clear A210
       have H':=Aside0.mk H
       clear H
       go_wp2_with (first|((with_reducible refine gate_callee (f:=15) rfl ?_);refine goesL_ (some 38) rfl rfl Tryd.func15 (by kernel_rfl) rfl #[.string a0] rfl (by (try simp only [List.map_toArray,List.map_cons,List.map_nil]);first|done|rfl|(simp only [List.length_drop,List.length_take];rfl)) ?_;(with_reducible refine (natural_Valid.calls kj3 a0 true _ A17.out).mono ?_);rintro e w' ⟨rfl,⟨nd,rfl⟩⟩;refine ⟨_,rfl,?_⟩)|(go_at_call 15;(with_reducible refine (natural_Valid.calls kj3 a1 true _ A19.out).mono ?_);rintro e w' ⟨rfl,⟨nd,rfl⟩⟩)|(go_at_call 15;(with_reducible refine (natural_Valid.calls kj3 a2 t626 _ A21.out).mono ?_);rintro e w' ⟨rfl,⟨nd,rfl⟩⟩))
       go_meet
       case rel=>exact ⟨_,(!t626),(by first|rfl|(simp;done)|(simp [*];done)),H',⟨by have:=HJ3.out;first|omega|exact Nat.le_refl _⟩,⟨by repeat (first|(with_reducible first|exact HB.out|apply below_alloc|apply pw_below_drewN|apply below_drew1)|exact HB.out)⟩⟩
      ·replace c20:=Bool.eq_false_iff.mpr c20
       subst c20
       have H1:(garboardlaw01_NaturalCommon.j1 kj3 a0 a1 a2 true) = some r:=by rw [if_neg (show ¬ (false = true) by decide)] at H;exact H
       clear H
       have H:=H1
       clear H1
       have H':=Aside0.mk H
       clear H
       go_wp2_with (first|((with_reducible refine gate_callee (f:=15) rfl ?_);refine goesL_ (some 38) rfl rfl Tryd.func15 (by kernel_rfl) rfl #[.string a0] rfl (by (try simp only [List.map_toArray,List.map_cons,List.map_nil]);first|done|rfl|(simp only [List.length_drop,List.length_take];rfl)) ?_;(with_reducible refine (natural_Valid.calls kj3 a0 true _ A17.out).mono ?_);rintro e w' ⟨rfl,⟨nd,rfl⟩⟩;refine ⟨_,rfl,?_⟩)|(go_at_call 15;(with_reducible refine (natural_Valid.calls kj3 a1 false _ A19.out).mono ?_);rintro e w' ⟨rfl,⟨nd,rfl⟩⟩))
       go_meet
       case rel=>exact ⟨_,(true),(by first|rfl|(simp;done)|(simp [*];done)),H',⟨by have:=HJ3.out;first|omega|exact Nat.le_refl _⟩,⟨by repeat (first|(with_reducible first|exact HB.out|apply below_alloc|apply pw_below_drewN|apply below_drew1)|exact HB.out)⟩⟩
     ·replace c18:=Bool.eq_false_iff.mpr c18
      subst c18
      have H1:(garboardlaw01_NaturalCommon.j1 kj3 a0 a1 a2 true) = some r:=by rw [if_neg (show ¬ (false = true) by decide)] at H;exact H
      clear H
      have H:=H1
      clear H1
      have H':=Aside0.mk H
      clear H
      go_wp2_with (first|((with_reducible refine gate_callee (f:=15) rfl ?_);refine goesL_ (some 38) rfl rfl Tryd.func15 (by kernel_rfl) rfl #[.string a0] rfl (by (try simp only [List.map_toArray,List.map_cons,List.map_nil]);first|done|rfl|(simp only [List.length_drop,List.length_take];rfl)) ?_;(with_reducible refine (natural_Valid.calls kj3 a0 false _ A17.out).mono ?_);rintro e w' ⟨rfl,⟨nd,rfl⟩⟩;refine ⟨_,rfl,?_⟩))
      go_meet
      case rel=>exact ⟨_,(true),(by first|rfl|(simp;done)|(simp [*];done)),H',⟨by have:=HJ3.out;first|omega|exact Nat.le_refl _⟩,⟨by repeat (first|(with_reducible first|exact HB.out|apply below_alloc|apply pw_below_drewN|apply below_drew1)|exact HB.out)⟩⟩
    case rest =>
     clear HC16
     try clear c1
     try clear c2
     try clear p2
     try clear c6
     try clear c9
     try clear c11
     try clear c13
     try clear c15
     try clear c18
     try clear c20
     try clear p2
     obtain ⟨kq,x49_15,rfl,HA,HJ15,HB⟩:=hcut
     cases kq with
     | zero=>exact absurd HA.out (by simp [garboardlaw01_NaturalCommon.j1])
     | succ kj15 =>
      have H:=HA.out
      clear HA
      simp only [garboardlaw01_NaturalCommon.j1] at H
      by_cases c22:x49_15 = true
      ·subst c22
       have H1:(some true) = some r:=by rw [if_pos rfl] at H;exact H
       clear H
       have H:=H1
       clear H1
       obtain rfl:=Option.some.inj H
       go_wp2
       go_ret
       exact ⟨by first|rfl|(simp [errW_none,errW_some]<;>rfl)|(simp [*,errW_none,errW_some]<;>rfl),by repeat (first|(with_reducible first|exact HB.out|apply below_alloc|apply pw_below_drewN|apply below_drew1)|exact HB.out)⟩
      ·replace c22:=Bool.eq_false_iff.mpr c22
       subst c22
       have H1:((natural_GCD.f a0 a1).bind fun bt627=>((natural_GCD.f a1 a0).bind fun bt629=>(if bt627.2 = 0 then (if bt629.2 = 0 then (if bt627.1.toList = bt629.1.toList then (if a0.toList = ([48]:List UInt8) then (garboardlaw01_NaturalCommon.j2 kj15 a0 a1 a2 bt627.1 ((bt627.1.toList == ([48]:List UInt8)) != (a1.toList == ([48]:List UInt8)))) else (garboardlaw01_NaturalCommon.j2 kj15 a0 a1 a2 bt627.1 ((bt627.1.toList == ([48]:List UInt8)) != false))) else (garboardlaw01_NaturalCommon.j2 kj15 a0 a1 a2 bt627.1 true)) else (garboardlaw01_NaturalCommon.j2 kj15 a0 a1 a2 bt627.1 true)) else (garboardlaw01_NaturalCommon.j2 kj15 a0 a1 a2 bt627.1 true)))) = some r:=by rw [if_neg (show ¬ (false = true) by decide)] at H;exact H
       clear H
       have H:=H1
       clear H1
       replace H:=Option.bind_eq_some_iff.mp H
       obtain ⟨⟨t627,t628⟩,A230,H⟩:=H
       replace H:((natural_GCD.f a1 a0).bind fun bt629=>(if t628 = 0 then (if bt629.2 = 0 then (if t627.toList = bt629.1.toList then (if a0.toList = ([48]:List UInt8) then (garboardlaw01_NaturalCommon.j2 kj15 a0 a1 a2 t627 ((t627.toList == ([48]:List UInt8)) != (a1.toList == ([48]:List UInt8)))) else (garboardlaw01_NaturalCommon.j2 kj15 a0 a1 a2 t627 ((t627.toList == ([48]:List UInt8)) != false))) else (garboardlaw01_NaturalCommon.j2 kj15 a0 a1 a2 t627 true)) else (garboardlaw01_NaturalCommon.j2 kj15 a0 a1 a2 t627 true)) else (garboardlaw01_NaturalCommon.j2 kj15 a0 a1 a2 t627 true))) = some r:=H
       have A23:=Aside0.mk A230
       clear A230
       replace H:=Option.bind_eq_some_iff.mp H
       obtain ⟨⟨t629,t630⟩,A240,H⟩:=H
       replace H:(if t628 = 0 then (if t630 = 0 then (if t627.toList = t629.toList then (if a0.toList = ([48]:List UInt8) then (garboardlaw01_NaturalCommon.j2 kj15 a0 a1 a2 t627 ((t627.toList == ([48]:List UInt8)) != (a1.toList == ([48]:List UInt8)))) else (garboardlaw01_NaturalCommon.j2 kj15 a0 a1 a2 t627 ((t627.toList == ([48]:List UInt8)) != false))) else (garboardlaw01_NaturalCommon.j2 kj15 a0 a1 a2 t627 true)) else (garboardlaw01_NaturalCommon.j2 kj15 a0 a1 a2 t627 true)) else (garboardlaw01_NaturalCommon.j2 kj15 a0 a1 a2 t627 true)) = some r:=H
       have A24:=Aside0.mk A240
       clear A240
       have HC25:=Aside0.mk H
       clear H
       go_upto_region 7 with (first|((with_reducible refine gate_callee (f:=25) rfl ?_);refine goesL_ (some 53) rfl rfl Tryd.func25 (by kernel_rfl) rfl #[.string a0,.string a1] rfl (by (try simp only [List.map_toArray,List.map_cons,List.map_nil]);first|done|rfl|(simp only [List.length_drop,List.length_take];rfl)) ?_;(with_reducible refine (natural_GCD.calls a0 a1 t627 t628 _ ?side1 A23.out).mono ?_);(case side1=>exact HLW.out.below (by repeat (first|(with_reducible first|exact HB.out|apply below_alloc|apply pw_below_drewN|apply below_drew1)|exact HB.out)));rintro e w26 ⟨rfl,hb⟩;refine ⟨_,rfl,?_⟩;have n0_:=Aside0.mk (below_step (by repeat (first|(with_reducible first|exact HB.out|apply below_alloc|apply pw_below_drewN|apply below_drew1)|exact HB.out)) hb);clear HB;have HB:=n0_;clear n0_;(try clear hb);(try clear hb2);(try clear hk);(try clear hi))|((with_reducible refine gate_callee (f:=25) rfl ?_);refine goesL_ (some 59) rfl rfl Tryd.func25 (by kernel_rfl) rfl #[.string a1,.string a0] rfl (by (try simp only [List.map_toArray,List.map_cons,List.map_nil]);first|done|rfl|(simp only [List.length_drop,List.length_take];rfl)) ?_;(with_reducible refine (natural_GCD.calls a1 a0 t629 t630 _ ?side1 A24.out).mono ?_);(case side1=>exact HLW.out.below (by repeat (first|(with_reducible first|exact HB.out|apply below_alloc|apply pw_below_drewN|apply below_drew1)|exact HB.out)));rintro e w27 ⟨rfl,hb⟩;refine ⟨_,rfl,?_⟩;have n0_:=Aside0.mk (below_step (by repeat (first|(with_reducible first|exact HB.out|apply below_alloc|apply pw_below_drewN|apply below_drew1)|exact HB.out)) hb);clear HB;have HB:=n0_;clear n0_;(try clear hb);(try clear hb2);(try clear hk);(try clear hi)))
       (try simp only [Act.put,List.setIfInBounds_toArray,List.set_cons_zero,List.set_cons_succ])
       go_cut [83] (fun v83 wc=>∃ (kq:Nat) (x83_24:Bool),v83 = .bool x83_24∧Aside0 (garboardlaw01_NaturalCommon.j2 kq a0 a1 a2 t627 x83_24 = some r)∧Aside0 (kq≤kj15)∧Aside0 (Below w.heap.size w wc))
       case first =>
        have H:=HC25.out
        clear HC25
        by_cases c28:t628 = 0
        ·rw [if_pos c28] at H
         have c28b0:(t628 == 0) = true:=beq_iff_eq.mpr c28
         have c28b1:(t628 != 0) = false:=bne_eq_false_iff_eq.mpr c28
         clear c28
         (first|rw [c28b0]|(simp only [i64_w,i32_w];rw [c28b0])|skip)
         by_cases c29:t630 = 0
         ·rw [if_pos c29] at H
          have c29b0:(t630 == 0) = true:=beq_iff_eq.mpr c29
          have c29b1:(t630 != 0) = false:=bne_eq_false_iff_eq.mpr c29
          clear c29
          by_cases c30:t627.toList = t629.toList
          ·rw [if_pos c30] at H
           have c30b0:(t627.toList == t629.toList) = true:=beq_iff_eq.mpr c30
           have c30b1:(t627.toList != t629.toList) = false:=bne_eq_false_iff_eq.mpr c30
           clear c30
           by_cases c31:a0.toList = ([48]:List UInt8)
           ·rw [if_pos c31] at H
            have c31b0:(a0.toList == ([48]:List UInt8)) = true:=beq_iff_eq.mpr c31
            have c31b1:(a0.toList != ([48]:List UInt8)) = false:=bne_eq_false_iff_eq.mpr c31
            clear c31
            have H':=Aside0.mk H
            clear H
            go_wp2
            go_meet
            case rel=>exact ⟨_,(((t627.toList == ([48]:List UInt8)) != (a1.toList == ([48]:List UInt8)))),(by first|rfl|(simp;done)|(simp [*];done)),H',⟨by have:=HJ3.out;have:=HJ15.out;first|omega|exact Nat.le_refl _⟩,⟨by repeat (first|(with_reducible first|exact HB.out|apply below_alloc|apply pw_below_drewN|apply below_drew1)|exact HB.out)⟩⟩
           ·rw [if_neg c31] at H
            have c31b0:(a0.toList == ([48]:List UInt8)) = false:=beq_eq_false_iff_ne.mpr c31
            have c31b1:(a0.toList != ([48]:List UInt8)) = true:=bne_iff_ne.mpr c31
            have H':=Aside0.mk H
            clear H
            go_wp2
            go_meet
            case rel=>exact ⟨_,(((t627.toList == ([48]:List UInt8)) != false)),(by first|rfl|(simp;done)|(simp [*];done)),H',⟨by have:=HJ3.out;have:=HJ15.out;first|omega|exact Nat.le_refl _⟩,⟨by repeat (first|(with_reducible first|exact HB.out|apply below_alloc|apply pw_below_drewN|apply below_drew1)|exact HB.out)⟩⟩
          ·rw [if_neg c30] at H
           have c30b0:(t627.toList == t629.toList) = false:=beq_eq_false_iff_ne.mpr c30
           have c30b1:(t627.toList != t629.toList) = true:=bne_iff_ne.mpr c30
           have H':=Aside0.mk H
           clear H
           go_wp2
           go_meet
           case rel=>exact ⟨_,(true),(by first|rfl|(simp;done)|(simp [*];done)),H',⟨by have:=HJ3.out;have:=HJ15.out;first|omega|exact Nat.le_refl _⟩,⟨by repeat (first|(with_reducible first|exact HB.out|apply below_alloc|apply pw_below_drewN|apply below_drew1)|exact HB.out)⟩⟩
         ·rw [if_neg c29] at H
          have c29b0:(t630 == 0) = false:=beq_eq_false_iff_ne.mpr c29
          have c29b1:(t630 != 0) = true:=bne_iff_ne.mpr c29
          have H':=Aside0.mk H
          clear H
          go_wp2
          go_meet
          case rel=>exact ⟨_,(true),(by first|rfl|(simp;done)|(simp [*];done)),H',⟨by have:=HJ3.out;have:=HJ15.out;first|omega|exact Nat.le_refl _⟩,⟨by repeat (first|(with_reducible first|exact HB.out|apply below_alloc|apply pw_below_drewN|apply below_drew1)|exact HB.out)⟩⟩
        ·rw [if_neg c28] at H
         have c28b0:(t628 == 0) = false:=beq_eq_false_iff_ne.mpr c28
         have c28b1:(t628 != 0) = true:=bne_iff_ne.mpr c28
         (first|rw [c28b0]|(simp only [i64_w,i32_w];rw [c28b0])|skip)
         have H':=Aside0.mk H
         clear H
         go_wp2
         go_meet
         case rel=>exact ⟨_,(true),(by first|rfl|(simp;done)|(simp [*];done)),H',⟨by have:=HJ3.out;have:=HJ15.out;first|omega|exact Nat.le_refl _⟩,⟨by repeat (first|(with_reducible first|exact HB.out|apply below_alloc|apply pw_below_drewN|apply below_drew1)|exact HB.out)⟩⟩
       case rest =>
        clear HC25
        try clear c1
        try clear c2
        try clear p2
        try clear c3
        try clear c6
        try clear c9
        try clear c11
        try clear c13
        try clear c15
        try clear c18
        try clear c20
        try clear c22
        try clear c25
        try clear c28
        try clear c28b0
        try clear c28b1
        try clear c29
        try clear c29b0
        try clear c29b1
        try clear c30
        try clear c30b0
        try clear c30b1
        try clear c31
        try clear c31b0
        try clear c31b1
        try clear p2
        obtain ⟨kq,x83_24,rfl,HA,HJ24,HB⟩:=hcut
        cases kq with
        | zero=>exact absurd HA.out (by simp [garboardlaw01_NaturalCommon.j2])
        | succ kj24 =>
         have H:=HA.out
         clear HA
         simp only [garboardlaw01_NaturalCommon.j2] at H
         by_cases c32:x83_24 = true
         ·subst c32
          have H1:(some false) = some r:=by rw [if_pos rfl] at H;exact H
          clear H
          have H:=H1
          clear H1
          obtain rfl:=Option.some.inj H
          go_wp2
          go_ret
          exact ⟨by first|rfl|(simp [errW_none,errW_some]<;>rfl)|(simp [*,errW_none,errW_some]<;>rfl),by repeat (first|(with_reducible first|exact HB.out|apply below_alloc|apply pw_below_drewN|apply below_drew1)|exact HB.out)⟩
         ·replace c32:=Bool.eq_false_iff.mpr c32
          subst c32
          have H1:(if t627.toList = ([48]:List UInt8) then (some true) else ((natural_DivMod.f kj24 a0 t627).bind fun bt631=>((natural_DivMod.f kj24 a1 t627).bind fun bt634=>((natural_GCD.f bt631.1 bt634.1).bind fun bt637=>((natural_Mul.f a0 a2).bind fun bt639=>((natural_Mul.f a1 a2).bind fun bt641=>((natural_Mul.f t627 a2).bind fun bt643=>((natural_GCD.f bt639.1 bt641.1).bind fun bt645=>(if (wrap64 ((wrap64 ((wrap64 ((wrap64 ((wrap64 ((wrap64 (bt631.2.2 + bt634.2.2)) + bt637.2)) + bt639.2)) + bt641.2)) + bt643.2)) + bt645.2)) = 0 then (if bt631.2.1.toList = ([48]:List UInt8) then (if bt634.2.1.toList = ([48]:List UInt8) then (if bt637.1.toList = ([49]:List UInt8) then (some (bt645.1.toList == bt643.1.toList)) else (some false)) else (some false)) else (some false)) else (some false)))))))))) = some r:=by rw [if_neg (show ¬ (false = true) by decide)] at H;exact H
          clear H
          have H:=H1
          clear H1
          by_cases c33:t627.toList = ([48]:List UInt8)
          ·rw [if_pos c33] at H
           have c33b0:(t627.toList == ([48]:List UInt8)) = true:=beq_iff_eq.mpr c33
           have c33b1:(t627.toList != ([48]:List UInt8)) = false:=bne_eq_false_iff_eq.mpr c33
           clear c33
           obtain rfl:=Option.some.inj H
           go_wp2
           go_ret
           exact ⟨by first|rfl|(simp [errW_none,errW_some]<;>rfl)|(simp [*,errW_none,errW_some]<;>rfl),by repeat (first|(with_reducible first|exact HB.out|apply below_alloc|apply pw_below_drewN|apply below_drew1)|exact HB.out)⟩
          ·rw [if_neg c33] at H
           have c33b0:(t627.toList == ([48]:List UInt8)) = false:=beq_eq_false_iff_ne.mpr c33
           have c33b1:(t627.toList != ([48]:List UInt8)) = true:=bne_iff_ne.mpr c33
           replace H:=Option.bind_eq_some_iff.mp H
           obtain ⟨⟨t631,t632,t633⟩,A340,H⟩:=H
           replace H:((natural_DivMod.f kj24 a1 t627).bind fun bt634=>((natural_GCD.f t631 bt634.1).bind fun bt637=>((natural_Mul.f a0 a2).bind fun bt639=>((natural_Mul.f a1 a2).bind fun bt641=>((natural_Mul.f t627 a2).bind fun bt643=>((natural_GCD.f bt639.1 bt641.1).bind fun bt645=>(if (wrap64 ((wrap64 ((wrap64 ((wrap64 ((wrap64 ((wrap64 (t633 + bt634.2.2)) + bt637.2)) + bt639.2)) + bt641.2)) + bt643.2)) + bt645.2)) = 0 then (if t632.toList = ([48]:List UInt8) then (if bt634.2.1.toList = ([48]:List UInt8) then (if bt637.1.toList = ([49]:List UInt8) then (some (bt645.1.toList == bt643.1.toList)) else (some false)) else (some false)) else (some false)) else (some false)))))))) = some r:=H
           have A34:=Aside0.mk A340
           clear A340
           replace H:=Option.bind_eq_some_iff.mp H
           obtain ⟨⟨t634,t635,t636⟩,A350,H⟩:=H
           replace H:((natural_GCD.f t631 t634).bind fun bt637=>((natural_Mul.f a0 a2).bind fun bt639=>((natural_Mul.f a1 a2).bind fun bt641=>((natural_Mul.f t627 a2).bind fun bt643=>((natural_GCD.f bt639.1 bt641.1).bind fun bt645=>(if (wrap64 ((wrap64 ((wrap64 ((wrap64 ((wrap64 ((wrap64 (t633 + t636)) + bt637.2)) + bt639.2)) + bt641.2)) + bt643.2)) + bt645.2)) = 0 then (if t632.toList = ([48]:List UInt8) then (if t635.toList = ([48]:List UInt8) then (if bt637.1.toList = ([49]:List UInt8) then (some (bt645.1.toList == bt643.1.toList)) else (some false)) else (some false)) else (some false)) else (some false))))))) = some r:=H
           have A35:=Aside0.mk A350
           clear A350
           replace H:=Option.bind_eq_some_iff.mp H
           obtain ⟨⟨t637,t638⟩,A360,H⟩:=H
           replace H:((natural_Mul.f a0 a2).bind fun bt639=>((natural_Mul.f a1 a2).bind fun bt641=>((natural_Mul.f t627 a2).bind fun bt643=>((natural_GCD.f bt639.1 bt641.1).bind fun bt645=>(if (wrap64 ((wrap64 ((wrap64 ((wrap64 ((wrap64 ((wrap64 (t633 + t636)) + t638)) + bt639.2)) + bt641.2)) + bt643.2)) + bt645.2)) = 0 then (if t632.toList = ([48]:List UInt8) then (if t635.toList = ([48]:List UInt8) then (if t637.toList = ([49]:List UInt8) then (some (bt645.1.toList == bt643.1.toList)) else (some false)) else (some false)) else (some false)) else (some false)))))) = some r:=H
           have A36:=Aside0.mk A360
           clear A360
           replace H:=Option.bind_eq_some_iff.mp H
           obtain ⟨⟨t639,t640⟩,A370,H⟩:=H
           replace H:((natural_Mul.f a1 a2).bind fun bt641=>((natural_Mul.f t627 a2).bind fun bt643=>((natural_GCD.f t639 bt641.1).bind fun bt645=>(if (wrap64 ((wrap64 ((wrap64 ((wrap64 ((wrap64 ((wrap64 (t633 + t636)) + t638)) + t640)) + bt641.2)) + bt643.2)) + bt645.2)) = 0 then (if t632.toList = ([48]:List UInt8) then (if t635.toList = ([48]:List UInt8) then (if t637.toList = ([49]:List UInt8) then (some (bt645.1.toList == bt643.1.toList)) else (some false)) else (some false)) else (some false)) else (some false))))) = some r:=H
           have A37:=Aside0.mk A370
           clear A370
           replace H:=Option.bind_eq_some_iff.mp H
           obtain ⟨⟨t641,t642⟩,A380,H⟩:=H
           replace H:((natural_Mul.f t627 a2).bind fun bt643=>((natural_GCD.f t639 t641).bind fun bt645=>(if (wrap64 ((wrap64 ((wrap64 ((wrap64 ((wrap64 ((wrap64 (t633 + t636)) + t638)) + t640)) + t642)) + bt643.2)) + bt645.2)) = 0 then (if t632.toList = ([48]:List UInt8) then (if t635.toList = ([48]:List UInt8) then (if t637.toList = ([49]:List UInt8) then (some (bt645.1.toList == bt643.1.toList)) else (some false)) else (some false)) else (some false)) else (some false)))) = some r:=H
           have A38:=Aside0.mk A380
           clear A380
           replace H:=Option.bind_eq_some_iff.mp H
           obtain ⟨⟨t643,t644⟩,A390,H⟩:=H
           replace H:((natural_GCD.f t639 t641).bind fun bt645=>(if (wrap64 ((wrap64 ((wrap64 ((wrap64 ((wrap64 ((wrap64 (t633 + t636)) + t638)) + t640)) + t642)) + t644)) + bt645.2)) = 0 then (if t632.toList = ([48]:List UInt8) then (if t635.toList = ([48]:List UInt8) then (if t637.toList = ([49]:List UInt8) then (some (bt645.1.toList == t643.toList)) else (some false)) else (some false)) else (some false)) else (some false))) = some r:=H
           have A39:=Aside0.mk A390
           clear A390
           replace H:=Option.bind_eq_some_iff.mp H
           obtain ⟨⟨t645,t646⟩,A400,H⟩:=H
           replace H:(if (wrap64 ((wrap64 ((wrap64 ((wrap64 ((wrap64 ((wrap64 (t633 + t636)) + t638)) + t640)) + t642)) + t644)) + t646)) = 0 then (if t632.toList = ([48]:List UInt8) then (if t635.toList = ([48]:List UInt8) then (if t637.toList = ([49]:List UInt8) then (some (t645.toList == t643.toList)) else (some false)) else (some false)) else (some false)) else (some false)) = some r:=H
           have A40:=Aside0.mk A400
           clear A400
           by_cases c41:(wrap64 ((wrap64 ((wrap64 ((wrap64 ((wrap64 ((wrap64 (t633 + t636)) + t638)) + t640)) + t642)) + t644)) + t646)) = 0
           ·rw [if_pos c41] at H
            have c41b0:((wrap64 ((wrap64 ((wrap64 ((wrap64 ((wrap64 ((wrap64 (t633 + t636)) + t638)) + t640)) + t642)) + t644)) + t646)) == 0) = true:=beq_iff_eq.mpr c41
            have c41b1:((wrap64 ((wrap64 ((wrap64 ((wrap64 ((wrap64 ((wrap64 (t633 + t636)) + t638)) + t640)) + t642)) + t644)) + t646)) != 0) = false:=bne_eq_false_iff_eq.mpr c41
            clear c41
            by_cases c42:t632.toList = ([48]:List UInt8)
            ·rw [if_pos c42] at H
             have c42b0:(t632.toList == ([48]:List UInt8)) = true:=beq_iff_eq.mpr c42
             have c42b1:(t632.toList != ([48]:List UInt8)) = false:=bne_eq_false_iff_eq.mpr c42
             clear c42
             by_cases c43:t635.toList = ([48]:List UInt8)
             ·rw [if_pos c43] at H
              have c43b0:(t635.toList == ([48]:List UInt8)) = true:=beq_iff_eq.mpr c43
              have c43b1:(t635.toList != ([48]:List UInt8)) = false:=bne_eq_false_iff_eq.mpr c43
              clear c43
              by_cases c44:t637.toList = ([49]:List UInt8)
              ·rw [if_pos c44] at H
               have c44b0:(t637.toList == ([49]:List UInt8)) = true:=beq_iff_eq.mpr c44
               have c44b1:(t637.toList != ([49]:List UInt8)) = false:=bne_eq_false_iff_eq.mpr c44
               clear c44
               obtain rfl:=Option.some.inj H
               go_wp2_with (first|((with_reducible refine gate_callee (f:=23) rfl ?_);refine goesL_ (some 89) rfl rfl Tryd.func23 (by kernel_rfl) rfl #[.string a0,.string t627] rfl (by (try simp only [List.map_toArray,List.map_cons,List.map_nil]);first|done|rfl|(simp only [List.length_drop,List.length_take];rfl)) ?_;(with_reducible refine (natural_DivMod.calls kj24 a0 t627 t631 t632 t633 _ ?side1 A34.out).mono ?_);(case side1=>exact HLW.out.below (by repeat (first|(with_reducible first|exact HB.out|apply below_alloc|apply pw_below_drewN|apply below_drew1)|exact HB.out)));rintro e w45 ⟨rfl,hb⟩;refine ⟨_,rfl,?_⟩;have n0_:=Aside0.mk (below_step (by repeat (first|(with_reducible first|exact HB.out|apply below_alloc|apply pw_below_drewN|apply below_drew1)|exact HB.out)) hb);clear HB;have HB:=n0_;clear n0_;(try clear hb);(try clear hb2);(try clear hk);(try clear hi))|((with_reducible refine gate_callee (f:=23) rfl ?_);refine goesL_ (some 96) rfl rfl Tryd.func23 (by kernel_rfl) rfl #[.string a1,.string t627] rfl (by (try simp only [List.map_toArray,List.map_cons,List.map_nil]);first|done|rfl|(simp only [List.length_drop,List.length_take];rfl)) ?_;(with_reducible refine (natural_DivMod.calls kj24 a1 t627 t634 t635 t636 _ ?side1 A35.out).mono ?_);(case side1=>exact HLW.out.below (by repeat (first|(with_reducible first|exact HB.out|apply below_alloc|apply pw_below_drewN|apply below_drew1)|exact HB.out)));rintro e w46 ⟨rfl,hb⟩;refine ⟨_,rfl,?_⟩;have n0_:=Aside0.mk (below_step (by repeat (first|(with_reducible first|exact HB.out|apply below_alloc|apply pw_below_drewN|apply below_drew1)|exact HB.out)) hb);clear HB;have HB:=n0_;clear n0_;(try clear hb);(try clear hb2);(try clear hk);(try clear hi))|((with_reducible refine gate_callee (f:=25) rfl ?_);refine goesL_ (some 103) rfl rfl Tryd.func25 (by kernel_rfl) rfl #[.string t631,.string t634] rfl (by (try simp only [List.map_toArray,List.map_cons,List.map_nil]);first|done|rfl|(simp only [List.length_drop,List.length_take];rfl)) ?_;(with_reducible refine (natural_GCD.calls t631 t634 t637 t638 _ ?side1 A36.out).mono ?_);(case side1=>exact HLW.out.below (by repeat (first|(with_reducible first|exact HB.out|apply below_alloc|apply pw_below_drewN|apply below_drew1)|exact HB.out)));rintro e w47 ⟨rfl,hb⟩;refine ⟨_,rfl,?_⟩;have n0_:=Aside0.mk (below_step (by repeat (first|(with_reducible first|exact HB.out|apply below_alloc|apply pw_below_drewN|apply below_drew1)|exact HB.out)) hb);clear HB;have HB:=n0_;clear n0_;(try clear hb);(try clear hb2);(try clear hk);(try clear hi))|((with_reducible refine gate_callee (f:=21) rfl ?_);refine goesL_ (some 109) rfl rfl Tryd.func21 (by kernel_rfl) rfl #[.string a0,.string a2] rfl (by (try simp only [List.map_toArray,List.map_cons,List.map_nil]);first|done|rfl|(simp only [List.length_drop,List.length_take];rfl)) ?_;(with_reducible refine (natural_Mul.calls a0 a2 t639 t640 _ ?side1 A37.out).mono ?_);(case side1=>exact HLW.out.below (by repeat (first|(with_reducible first|exact HB.out|apply below_alloc|apply pw_below_drewN|apply below_drew1)|exact HB.out)));rintro e w48 ⟨rfl,hb⟩;refine ⟨_,rfl,?_⟩;have n0_:=Aside0.mk (below_step (by repeat (first|(with_reducible first|exact HB.out|apply below_alloc|apply pw_below_drewN|apply below_drew1)|exact HB.out)) hb);clear HB;have HB:=n0_;clear n0_;(try clear hb);(try clear hb2);(try clear hk);(try clear hi))|((with_reducible refine gate_callee (f:=21) rfl ?_);refine goesL_ (some 115) rfl rfl Tryd.func21 (by kernel_rfl) rfl #[.string a1,.string a2] rfl (by (try simp only [List.map_toArray,List.map_cons,List.map_nil]);first|done|rfl|(simp only [List.length_drop,List.length_take];rfl)) ?_;(with_reducible refine (natural_Mul.calls a1 a2 t641 t642 _ ?side1 A38.out).mono ?_);(case side1=>exact HLW.out.below (by repeat (first|(with_reducible first|exact HB.out|apply below_alloc|apply pw_below_drewN|apply below_drew1)|exact HB.out)));rintro e w49 ⟨rfl,hb⟩;refine ⟨_,rfl,?_⟩;have n0_:=Aside0.mk (below_step (by repeat (first|(with_reducible first|exact HB.out|apply below_alloc|apply pw_below_drewN|apply below_drew1)|exact HB.out)) hb);clear HB;have HB:=n0_;clear n0_;(try clear hb);(try clear hb2);(try clear hk);(try clear hi))|((with_reducible refine gate_callee (f:=21) rfl ?_);refine goesL_ (some 121) rfl rfl Tryd.func21 (by kernel_rfl) rfl #[.string t627,.string a2] rfl (by (try simp only [List.map_toArray,List.map_cons,List.map_nil]);first|done|rfl|(simp only [List.length_drop,List.length_take];rfl)) ?_;(with_reducible refine (natural_Mul.calls t627 a2 t643 t644 _ ?side1 A39.out).mono ?_);(case side1=>exact HLW.out.below (by repeat (first|(with_reducible first|exact HB.out|apply below_alloc|apply pw_below_drewN|apply below_drew1)|exact HB.out)));rintro e w50 ⟨rfl,hb⟩;refine ⟨_,rfl,?_⟩;have n0_:=Aside0.mk (below_step (by repeat (first|(with_reducible first|exact HB.out|apply below_alloc|apply pw_below_drewN|apply below_drew1)|exact HB.out)) hb);clear HB;have HB:=n0_;clear n0_;(try clear hb);(try clear hb2);(try clear hk);(try clear hi))|((with_reducible refine gate_callee (f:=25) rfl ?_);refine goesL_ (some 127) rfl rfl Tryd.func25 (by kernel_rfl) rfl #[.string t639,.string t641] rfl (by (try simp only [List.map_toArray,List.map_cons,List.map_nil]);first|done|rfl|(simp only [List.length_drop,List.length_take];rfl)) ?_;(with_reducible refine (natural_GCD.calls t639 t641 t645 t646 _ ?side1 A40.out).mono ?_);(case side1=>exact HLW.out.below (by repeat (first|(with_reducible first|exact HB.out|apply below_alloc|apply pw_below_drewN|apply below_drew1)|exact HB.out)));rintro e w51 ⟨rfl,hb⟩;refine ⟨_,rfl,?_⟩;have n0_:=Aside0.mk (below_step (by repeat (first|(with_reducible first|exact HB.out|apply below_alloc|apply pw_below_drewN|apply below_drew1)|exact HB.out)) hb);clear HB;have HB:=n0_;clear n0_;(try clear hb);(try clear hb2);(try clear hk);(try clear hi)))
               go_ret
               exact ⟨by first|rfl|(simp [errW_none,errW_some]<;>rfl)|(simp [*,errW_none,errW_some]<;>rfl),by repeat (first|(with_reducible first|exact HB.out|apply below_alloc|apply pw_below_drewN|apply below_drew1)|exact HB.out)⟩
              ·rw [if_neg c44] at H
               have c44b0:(t637.toList == ([49]:List UInt8)) = false:=beq_eq_false_iff_ne.mpr c44
               have c44b1:(t637.toList != ([49]:List UInt8)) = true:=bne_iff_ne.mpr c44
               obtain rfl:=Option.some.inj H
               go_wp2_with (first|((with_reducible refine gate_callee (f:=23) rfl ?_);refine goesL_ (some 89) rfl rfl Tryd.func23 (by kernel_rfl) rfl #[.string a0,.string t627] rfl (by (try simp only [List.map_toArray,List.map_cons,List.map_nil]);first|done|rfl|(simp only [List.length_drop,List.length_take];rfl)) ?_;(with_reducible refine (natural_DivMod.calls kj24 a0 t627 t631 t632 t633 _ ?side1 A34.out).mono ?_);(case side1=>exact HLW.out.below (by repeat (first|(with_reducible first|exact HB.out|apply below_alloc|apply pw_below_drewN|apply below_drew1)|exact HB.out)));rintro e w52 ⟨rfl,hb⟩;refine ⟨_,rfl,?_⟩;have n0_:=Aside0.mk (below_step (by repeat (first|(with_reducible first|exact HB.out|apply below_alloc|apply pw_below_drewN|apply below_drew1)|exact HB.out)) hb);clear HB;have HB:=n0_;clear n0_;(try clear hb);(try clear hb2);(try clear hk);(try clear hi))|((with_reducible refine gate_callee (f:=23) rfl ?_);refine goesL_ (some 96) rfl rfl Tryd.func23 (by kernel_rfl) rfl #[.string a1,.string t627] rfl (by (try simp only [List.map_toArray,List.map_cons,List.map_nil]);first|done|rfl|(simp only [List.length_drop,List.length_take];rfl)) ?_;(with_reducible refine (natural_DivMod.calls kj24 a1 t627 t634 t635 t636 _ ?side1 A35.out).mono ?_);(case side1=>exact HLW.out.below (by repeat (first|(with_reducible first|exact HB.out|apply below_alloc|apply pw_below_drewN|apply below_drew1)|exact HB.out)));rintro e w53 ⟨rfl,hb⟩;refine ⟨_,rfl,?_⟩;have n0_:=Aside0.mk (below_step (by repeat (first|(with_reducible first|exact HB.out|apply below_alloc|apply pw_below_drewN|apply below_drew1)|exact HB.out)) hb);clear HB;have HB:=n0_;clear n0_;(try clear hb);(try clear hb2);(try clear hk);(try clear hi))|((with_reducible refine gate_callee (f:=25) rfl ?_);refine goesL_ (some 103) rfl rfl Tryd.func25 (by kernel_rfl) rfl #[.string t631,.string t634] rfl (by (try simp only [List.map_toArray,List.map_cons,List.map_nil]);first|done|rfl|(simp only [List.length_drop,List.length_take];rfl)) ?_;(with_reducible refine (natural_GCD.calls t631 t634 t637 t638 _ ?side1 A36.out).mono ?_);(case side1=>exact HLW.out.below (by repeat (first|(with_reducible first|exact HB.out|apply below_alloc|apply pw_below_drewN|apply below_drew1)|exact HB.out)));rintro e w54 ⟨rfl,hb⟩;refine ⟨_,rfl,?_⟩;have n0_:=Aside0.mk (below_step (by repeat (first|(with_reducible first|exact HB.out|apply below_alloc|apply pw_below_drewN|apply below_drew1)|exact HB.out)) hb);clear HB;have HB:=n0_;clear n0_;(try clear hb);(try clear hb2);(try clear hk);(try clear hi))|((with_reducible refine gate_callee (f:=21) rfl ?_);refine goesL_ (some 109) rfl rfl Tryd.func21 (by kernel_rfl) rfl #[.string a0,.string a2] rfl (by (try simp only [List.map_toArray,List.map_cons,List.map_nil]);first|done|rfl|(simp only [List.length_drop,List.length_take];rfl)) ?_;(with_reducible refine (natural_Mul.calls a0 a2 t639 t640 _ ?side1 A37.out).mono ?_);(case side1=>exact HLW.out.below (by repeat (first|(with_reducible first|exact HB.out|apply below_alloc|apply pw_below_drewN|apply below_drew1)|exact HB.out)));rintro e w55 ⟨rfl,hb⟩;refine ⟨_,rfl,?_⟩;have n0_:=Aside0.mk (below_step (by repeat (first|(with_reducible first|exact HB.out|apply below_alloc|apply pw_below_drewN|apply below_drew1)|exact HB.out)) hb);clear HB;have HB:=n0_;clear n0_;(try clear hb);(try clear hb2);(try clear hk);(try clear hi))|((with_reducible refine gate_callee (f:=21) rfl ?_);refine goesL_ (some 115) rfl rfl Tryd.func21 (by kernel_rfl) rfl #[.string a1,.string a2] rfl (by (try simp only [List.map_toArray,List.map_cons,List.map_nil]);first|done|rfl|(simp only [List.length_drop,List.length_take];rfl)) ?_;(with_reducible refine (natural_Mul.calls a1 a2 t641 t642 _ ?side1 A38.out).mono ?_);(case side1=>exact HLW.out.below (by repeat (first|(with_reducible first|exact HB.out|apply below_alloc|apply pw_below_drewN|apply below_drew1)|exact HB.out)));rintro e w56 ⟨rfl,hb⟩;refine ⟨_,rfl,?_⟩;have n0_:=Aside0.mk (below_step (by repeat (first|(with_reducible first|exact HB.out|apply below_alloc|apply pw_below_drewN|apply below_drew1)|exact HB.out)) hb);clear HB;have HB:=n0_;clear n0_;(try clear hb);(try clear hb2);(try clear hk);(try clear hi))|((with_reducible refine gate_callee (f:=21) rfl ?_);refine goesL_ (some 121) rfl rfl Tryd.func21 (by kernel_rfl) rfl #[.string t627,.string a2] rfl (by (try simp only [List.map_toArray,List.map_cons,List.map_nil]);first|done|rfl|(simp only [List.length_drop,List.length_take];rfl)) ?_;(with_reducible refine (natural_Mul.calls t627 a2 t643 t644 _ ?side1 A39.out).mono ?_);(case side1=>exact HLW.out.below (by repeat (first|(with_reducible first|exact HB.out|apply below_alloc|apply pw_below_drewN|apply below_drew1)|exact HB.out)));rintro e w57 ⟨rfl,hb⟩;refine ⟨_,rfl,?_⟩;have n0_:=Aside0.mk (below_step (by repeat (first|(with_reducible first|exact HB.out|apply below_alloc|apply pw_below_drewN|apply below_drew1)|exact HB.out)) hb);clear HB;have HB:=n0_;clear n0_;(try clear hb);(try clear hb2);(try clear hk);(try clear hi))|((with_reducible refine gate_callee (f:=25) rfl ?_);refine goesL_ (some 127) rfl rfl Tryd.func25 (by kernel_rfl) rfl #[.string t639,.string t641] rfl (by (try simp only [List.map_toArray,List.map_cons,List.map_nil]);first|done|rfl|(simp only [List.length_drop,List.length_take];rfl)) ?_;(with_reducible refine (natural_GCD.calls t639 t641 t645 t646 _ ?side1 A40.out).mono ?_);(case side1=>exact HLW.out.below (by repeat (first|(with_reducible first|exact HB.out|apply below_alloc|apply pw_below_drewN|apply below_drew1)|exact HB.out)));rintro e w58 ⟨rfl,hb⟩;refine ⟨_,rfl,?_⟩;have n0_:=Aside0.mk (below_step (by repeat (first|(with_reducible first|exact HB.out|apply below_alloc|apply pw_below_drewN|apply below_drew1)|exact HB.out)) hb);clear HB;have HB:=n0_;clear n0_;(try clear hb);(try clear hb2);(try clear hk);(try clear hi)))
               go_ret
               exact ⟨by first|rfl|(simp [errW_none,errW_some]<;>rfl)|(simp [*,errW_none,errW_some]<;>rfl),by repeat (first|(with_reducible first|exact HB.out|apply below_alloc|apply pw_below_drewN|apply below_drew1)|exact HB.out)⟩
             ·rw [if_neg c43] at H
              have c43b0:(t635.toList == ([48]:List UInt8)) = false:=beq_eq_false_iff_ne.mpr c43
              have c43b1:(t635.toList != ([48]:List UInt8)) = true:=bne_iff_ne.mpr c43
              obtain rfl:=Option.some.inj H
              go_wp2_with (first|((with_reducible refine gate_callee (f:=23) rfl ?_);refine goesL_ (some 89) rfl rfl Tryd.func23 (by kernel_rfl) rfl #[.string a0,.string t627] rfl (by (try simp only [List.map_toArray,List.map_cons,List.map_nil]);first|done|rfl|(simp only [List.length_drop,List.length_take];rfl)) ?_;(with_reducible refine (natural_DivMod.calls kj24 a0 t627 t631 t632 t633 _ ?side1 A34.out).mono ?_);(case side1=>exact HLW.out.below (by repeat (first|(with_reducible first|exact HB.out|apply below_alloc|apply pw_below_drewN|apply below_drew1)|exact HB.out)));rintro e w59 ⟨rfl,hb⟩;refine ⟨_,rfl,?_⟩;have n0_:=Aside0.mk (below_step (by repeat (first|(with_reducible first|exact HB.out|apply below_alloc|apply pw_below_drewN|apply below_drew1)|exact HB.out)) hb);clear HB;have HB:=n0_;clear n0_;(try clear hb);(try clear hb2);(try clear hk);(try clear hi))|((with_reducible refine gate_callee (f:=23) rfl ?_);refine goesL_ (some 96) rfl rfl Tryd.func23 (by kernel_rfl) rfl #[.string a1,.string t627] rfl (by (try simp only [List.map_toArray,List.map_cons,List.map_nil]);first|done|rfl|(simp only [List.length_drop,List.length_take];rfl)) ?_;(with_reducible refine (natural_DivMod.calls kj24 a1 t627 t634 t635 t636 _ ?side1 A35.out).mono ?_);(case side1=>exact HLW.out.below (by repeat (first|(with_reducible first|exact HB.out|apply below_alloc|apply pw_below_drewN|apply below_drew1)|exact HB.out)));rintro e w60 ⟨rfl,hb⟩;refine ⟨_,rfl,?_⟩;have n0_:=Aside0.mk (below_step (by repeat (first|(with_reducible first|exact HB.out|apply below_alloc|apply pw_below_drewN|apply below_drew1)|exact HB.out)) hb);clear HB;have HB:=n0_;clear n0_;(try clear hb);(try clear hb2);(try clear hk);(try clear hi))|((with_reducible refine gate_callee (f:=25) rfl ?_);refine goesL_ (some 103) rfl rfl Tryd.func25 (by kernel_rfl) rfl #[.string t631,.string t634] rfl (by (try simp only [List.map_toArray,List.map_cons,List.map_nil]);first|done|rfl|(simp only [List.length_drop,List.length_take];rfl)) ?_;(with_reducible refine (natural_GCD.calls t631 t634 t637 t638 _ ?side1 A36.out).mono ?_);(case side1=>exact HLW.out.below (by repeat (first|(with_reducible first|exact HB.out|apply below_alloc|apply pw_below_drewN|apply below_drew1)|exact HB.out)));rintro e w61 ⟨rfl,hb⟩;refine ⟨_,rfl,?_⟩;have n0_:=Aside0.mk (below_step (by repeat (first|(with_reducible first|exact HB.out|apply below_alloc|apply pw_below_drewN|apply below_drew1)|exact HB.out)) hb);clear HB;have HB:=n0_;clear n0_;(try clear hb);(try clear hb2);(try clear hk);(try clear hi))|((with_reducible refine gate_callee (f:=21) rfl ?_);refine goesL_ (some 109) rfl rfl Tryd.func21 (by kernel_rfl) rfl #[.string a0,.string a2] rfl (by (try simp only [List.map_toArray,List.map_cons,List.map_nil]);first|done|rfl|(simp only [List.length_drop,List.length_take];rfl)) ?_;(with_reducible refine (natural_Mul.calls a0 a2 t639 t640 _ ?side1 A37.out).mono ?_);(case side1=>exact HLW.out.below (by repeat (first|(with_reducible first|exact HB.out|apply below_alloc|apply pw_below_drewN|apply below_drew1)|exact HB.out)));rintro e w62 ⟨rfl,hb⟩;refine ⟨_,rfl,?_⟩;have n0_:=Aside0.mk (below_step (by repeat (first|(with_reducible first|exact HB.out|apply below_alloc|apply pw_below_drewN|apply below_drew1)|exact HB.out)) hb);clear HB;have HB:=n0_;clear n0_;(try clear hb);(try clear hb2);(try clear hk);(try clear hi))|((with_reducible refine gate_callee (f:=21) rfl ?_);refine goesL_ (some 115) rfl rfl Tryd.func21 (by kernel_rfl) rfl #[.string a1,.string a2] rfl (by (try simp only [List.map_toArray,List.map_cons,List.map_nil]);first|done|rfl|(simp only [List.length_drop,List.length_take];rfl)) ?_;(with_reducible refine (natural_Mul.calls a1 a2 t641 t642 _ ?side1 A38.out).mono ?_);(case side1=>exact HLW.out.below (by repeat (first|(with_reducible first|exact HB.out|apply below_alloc|apply pw_below_drewN|apply below_drew1)|exact HB.out)));rintro e w63 ⟨rfl,hb⟩;refine ⟨_,rfl,?_⟩;have n0_:=Aside0.mk (below_step (by repeat (first|(with_reducible first|exact HB.out|apply below_alloc|apply pw_below_drewN|apply below_drew1)|exact HB.out)) hb);clear HB;have HB:=n0_;clear n0_;(try clear hb);(try clear hb2);(try clear hk);(try clear hi))|((with_reducible refine gate_callee (f:=21) rfl ?_);refine goesL_ (some 121) rfl rfl Tryd.func21 (by kernel_rfl) rfl #[.string t627,.string a2] rfl (by (try simp only [List.map_toArray,List.map_cons,List.map_nil]);first|done|rfl|(simp only [List.length_drop,List.length_take];rfl)) ?_;(with_reducible refine (natural_Mul.calls t627 a2 t643 t644 _ ?side1 A39.out).mono ?_);(case side1=>exact HLW.out.below (by repeat (first|(with_reducible first|exact HB.out|apply below_alloc|apply pw_below_drewN|apply below_drew1)|exact HB.out)));rintro e w64 ⟨rfl,hb⟩;refine ⟨_,rfl,?_⟩;have n0_:=Aside0.mk (below_step (by repeat (first|(with_reducible first|exact HB.out|apply below_alloc|apply pw_below_drewN|apply below_drew1)|exact HB.out)) hb);clear HB;have HB:=n0_;clear n0_;(try clear hb);(try clear hb2);(try clear hk);(try clear hi))|((with_reducible refine gate_callee (f:=25) rfl ?_);refine goesL_ (some 127) rfl rfl Tryd.func25 (by kernel_rfl) rfl #[.string t639,.string t641] rfl (by (try simp only [List.map_toArray,List.map_cons,List.map_nil]);first|done|rfl|(simp only [List.length_drop,List.length_take];rfl)) ?_;(with_reducible refine (natural_GCD.calls t639 t641 t645 t646 _ ?side1 A40.out).mono ?_);(case side1=>exact HLW.out.below (by repeat (first|(with_reducible first|exact HB.out|apply below_alloc|apply pw_below_drewN|apply below_drew1)|exact HB.out)));rintro e w65 ⟨rfl,hb⟩;refine ⟨_,rfl,?_⟩;have n0_:=Aside0.mk (below_step (by repeat (first|(with_reducible first|exact HB.out|apply below_alloc|apply pw_below_drewN|apply below_drew1)|exact HB.out)) hb);clear HB;have HB:=n0_;clear n0_;(try clear hb);(try clear hb2);(try clear hk);(try clear hi)))
              go_ret
              exact ⟨by first|rfl|(simp [errW_none,errW_some]<;>rfl)|(simp [*,errW_none,errW_some]<;>rfl),by repeat (first|(with_reducible first|exact HB.out|apply below_alloc|apply pw_below_drewN|apply below_drew1)|exact HB.out)⟩
            ·rw [if_neg c42] at H
             have c42b0:(t632.toList == ([48]:List UInt8)) = false:=beq_eq_false_iff_ne.mpr c42
             have c42b1:(t632.toList != ([48]:List UInt8)) = true:=bne_iff_ne.mpr c42
             obtain rfl:=Option.some.inj H
             go_wp2_with (first|((with_reducible refine gate_callee (f:=23) rfl ?_);refine goesL_ (some 89) rfl rfl Tryd.func23 (by kernel_rfl) rfl #[.string a0,.string t627] rfl (by (try simp only [List.map_toArray,List.map_cons,List.map_nil]);first|done|rfl|(simp only [List.length_drop,List.length_take];rfl)) ?_;(with_reducible refine (natural_DivMod.calls kj24 a0 t627 t631 t632 t633 _ ?side1 A34.out).mono ?_);(case side1=>exact HLW.out.below (by repeat (first|(with_reducible first|exact HB.out|apply below_alloc|apply pw_below_drewN|apply below_drew1)|exact HB.out)));rintro e w66 ⟨rfl,hb⟩;refine ⟨_,rfl,?_⟩;have n0_:=Aside0.mk (below_step (by repeat (first|(with_reducible first|exact HB.out|apply below_alloc|apply pw_below_drewN|apply below_drew1)|exact HB.out)) hb);clear HB;have HB:=n0_;clear n0_;(try clear hb);(try clear hb2);(try clear hk);(try clear hi))|((with_reducible refine gate_callee (f:=23) rfl ?_);refine goesL_ (some 96) rfl rfl Tryd.func23 (by kernel_rfl) rfl #[.string a1,.string t627] rfl (by (try simp only [List.map_toArray,List.map_cons,List.map_nil]);first|done|rfl|(simp only [List.length_drop,List.length_take];rfl)) ?_;(with_reducible refine (natural_DivMod.calls kj24 a1 t627 t634 t635 t636 _ ?side1 A35.out).mono ?_);(case side1=>exact HLW.out.below (by repeat (first|(with_reducible first|exact HB.out|apply below_alloc|apply pw_below_drewN|apply below_drew1)|exact HB.out)));rintro e w67 ⟨rfl,hb⟩;refine ⟨_,rfl,?_⟩;have n0_:=Aside0.mk (below_step (by repeat (first|(with_reducible first|exact HB.out|apply below_alloc|apply pw_below_drewN|apply below_drew1)|exact HB.out)) hb);clear HB;have HB:=n0_;clear n0_;(try clear hb);(try clear hb2);(try clear hk);(try clear hi))|((with_reducible refine gate_callee (f:=25) rfl ?_);refine goesL_ (some 103) rfl rfl Tryd.func25 (by kernel_rfl) rfl #[.string t631,.string t634] rfl (by (try simp only [List.map_toArray,List.map_cons,List.map_nil]);first|done|rfl|(simp only [List.length_drop,List.length_take];rfl)) ?_;(with_reducible refine (natural_GCD.calls t631 t634 t637 t638 _ ?side1 A36.out).mono ?_);(case side1=>exact HLW.out.below (by repeat (first|(with_reducible first|exact HB.out|apply below_alloc|apply pw_below_drewN|apply below_drew1)|exact HB.out)));rintro e w68 ⟨rfl,hb⟩;refine ⟨_,rfl,?_⟩;have n0_:=Aside0.mk (below_step (by repeat (first|(with_reducible first|exact HB.out|apply below_alloc|apply pw_below_drewN|apply below_drew1)|exact HB.out)) hb);clear HB;have HB:=n0_;clear n0_;(try clear hb);(try clear hb2);(try clear hk);(try clear hi))|((with_reducible refine gate_callee (f:=21) rfl ?_);refine goesL_ (some 109) rfl rfl Tryd.func21 (by kernel_rfl) rfl #[.string a0,.string a2] rfl (by (try simp only [List.map_toArray,List.map_cons,List.map_nil]);first|done|rfl|(simp only [List.length_drop,List.length_take];rfl)) ?_;(with_reducible refine (natural_Mul.calls a0 a2 t639 t640 _ ?side1 A37.out).mono ?_);(case side1=>exact HLW.out.below (by repeat (first|(with_reducible first|exact HB.out|apply below_alloc|apply pw_below_drewN|apply below_drew1)|exact HB.out)));rintro e w69 ⟨rfl,hb⟩;refine ⟨_,rfl,?_⟩;have n0_:=Aside0.mk (below_step (by repeat (first|(with_reducible first|exact HB.out|apply below_alloc|apply pw_below_drewN|apply below_drew1)|exact HB.out)) hb);clear HB;have HB:=n0_;clear n0_;(try clear hb);(try clear hb2);(try clear hk);(try clear hi))|((with_reducible refine gate_callee (f:=21) rfl ?_);refine goesL_ (some 115) rfl rfl Tryd.func21 (by kernel_rfl) rfl #[.string a1,.string a2] rfl (by (try simp only [List.map_toArray,List.map_cons,List.map_nil]);first|done|rfl|(simp only [List.length_drop,List.length_take];rfl)) ?_;(with_reducible refine (natural_Mul.calls a1 a2 t641 t642 _ ?side1 A38.out).mono ?_);(case side1=>exact HLW.out.below (by repeat (first|(with_reducible first|exact HB.out|apply below_alloc|apply pw_below_drewN|apply below_drew1)|exact HB.out)));rintro e w70 ⟨rfl,hb⟩;refine ⟨_,rfl,?_⟩;have n0_:=Aside0.mk (below_step (by repeat (first|(with_reducible first|exact HB.out|apply below_alloc|apply pw_below_drewN|apply below_drew1)|exact HB.out)) hb);clear HB;have HB:=n0_;clear n0_;(try clear hb);(try clear hb2);(try clear hk);(try clear hi))|((with_reducible refine gate_callee (f:=21) rfl ?_);refine goesL_ (some 121) rfl rfl Tryd.func21 (by kernel_rfl) rfl #[.string t627,.string a2] rfl (by (try simp only [List.map_toArray,List.map_cons,List.map_nil]);first|done|rfl|(simp only [List.length_drop,List.length_take];rfl)) ?_;(with_reducible refine (natural_Mul.calls t627 a2 t643 t644 _ ?side1 A39.out).mono ?_);(case side1=>exact HLW.out.below (by repeat (first|(with_reducible first|exact HB.out|apply below_alloc|apply pw_below_drewN|apply below_drew1)|exact HB.out)));rintro e w71 ⟨rfl,hb⟩;refine ⟨_,rfl,?_⟩;have n0_:=Aside0.mk (below_step (by repeat (first|(with_reducible first|exact HB.out|apply below_alloc|apply pw_below_drewN|apply below_drew1)|exact HB.out)) hb);clear HB;have HB:=n0_;clear n0_;(try clear hb);(try clear hb2);(try clear hk);(try clear hi))|((with_reducible refine gate_callee (f:=25) rfl ?_);refine goesL_ (some 127) rfl rfl Tryd.func25 (by kernel_rfl) rfl #[.string t639,.string t641] rfl (by (try simp only [List.map_toArray,List.map_cons,List.map_nil]);first|done|rfl|(simp only [List.length_drop,List.length_take];rfl)) ?_;(with_reducible refine (natural_GCD.calls t639 t641 t645 t646 _ ?side1 A40.out).mono ?_);(case side1=>exact HLW.out.below (by repeat (first|(with_reducible first|exact HB.out|apply below_alloc|apply pw_below_drewN|apply below_drew1)|exact HB.out)));rintro e w72 ⟨rfl,hb⟩;refine ⟨_,rfl,?_⟩;have n0_:=Aside0.mk (below_step (by repeat (first|(with_reducible first|exact HB.out|apply below_alloc|apply pw_below_drewN|apply below_drew1)|exact HB.out)) hb);clear HB;have HB:=n0_;clear n0_;(try clear hb);(try clear hb2);(try clear hk);(try clear hi)))
             go_ret
             exact ⟨by first|rfl|(simp [errW_none,errW_some]<;>rfl)|(simp [*,errW_none,errW_some]<;>rfl),by repeat (first|(with_reducible first|exact HB.out|apply below_alloc|apply pw_below_drewN|apply below_drew1)|exact HB.out)⟩
           ·rw [if_neg c41] at H
            have c41b0:((wrap64 ((wrap64 ((wrap64 ((wrap64 ((wrap64 ((wrap64 (t633 + t636)) + t638)) + t640)) + t642)) + t644)) + t646)) == 0) = false:=beq_eq_false_iff_ne.mpr c41
            have c41b1:((wrap64 ((wrap64 ((wrap64 ((wrap64 ((wrap64 ((wrap64 (t633 + t636)) + t638)) + t640)) + t642)) + t644)) + t646)) != 0) = true:=bne_iff_ne.mpr c41
            obtain rfl:=Option.some.inj H
            go_wp2_with (first|((with_reducible refine gate_callee (f:=23) rfl ?_);refine goesL_ (some 89) rfl rfl Tryd.func23 (by kernel_rfl) rfl #[.string a0,.string t627] rfl (by (try simp only [List.map_toArray,List.map_cons,List.map_nil]);first|done|rfl|(simp only [List.length_drop,List.length_take];rfl)) ?_;(with_reducible refine (natural_DivMod.calls kj24 a0 t627 t631 t632 t633 _ ?side1 A34.out).mono ?_);(case side1=>exact HLW.out.below (by repeat (first|(with_reducible first|exact HB.out|apply below_alloc|apply pw_below_drewN|apply below_drew1)|exact HB.out)));rintro e w73 ⟨rfl,hb⟩;refine ⟨_,rfl,?_⟩;have n0_:=Aside0.mk (below_step (by repeat (first|(with_reducible first|exact HB.out|apply below_alloc|apply pw_below_drewN|apply below_drew1)|exact HB.out)) hb);clear HB;have HB:=n0_;clear n0_;(try clear hb);(try clear hb2);(try clear hk);(try clear hi))|((with_reducible refine gate_callee (f:=23) rfl ?_);refine goesL_ (some 96) rfl rfl Tryd.func23 (by kernel_rfl) rfl #[.string a1,.string t627] rfl (by (try simp only [List.map_toArray,List.map_cons,List.map_nil]);first|done|rfl|(simp only [List.length_drop,List.length_take];rfl)) ?_;(with_reducible refine (natural_DivMod.calls kj24 a1 t627 t634 t635 t636 _ ?side1 A35.out).mono ?_);(case side1=>exact HLW.out.below (by repeat (first|(with_reducible first|exact HB.out|apply below_alloc|apply pw_below_drewN|apply below_drew1)|exact HB.out)));rintro e w74 ⟨rfl,hb⟩;refine ⟨_,rfl,?_⟩;have n0_:=Aside0.mk (below_step (by repeat (first|(with_reducible first|exact HB.out|apply below_alloc|apply pw_below_drewN|apply below_drew1)|exact HB.out)) hb);clear HB;have HB:=n0_;clear n0_;(try clear hb);(try clear hb2);(try clear hk);(try clear hi))|((with_reducible refine gate_callee (f:=25) rfl ?_);refine goesL_ (some 103) rfl rfl Tryd.func25 (by kernel_rfl) rfl #[.string t631,.string t634] rfl (by (try simp only [List.map_toArray,List.map_cons,List.map_nil]);first|done|rfl|(simp only [List.length_drop,List.length_take];rfl)) ?_;(with_reducible refine (natural_GCD.calls t631 t634 t637 t638 _ ?side1 A36.out).mono ?_);(case side1=>exact HLW.out.below (by repeat (first|(with_reducible first|exact HB.out|apply below_alloc|apply pw_below_drewN|apply below_drew1)|exact HB.out)));rintro e w75 ⟨rfl,hb⟩;refine ⟨_,rfl,?_⟩;have n0_:=Aside0.mk (below_step (by repeat (first|(with_reducible first|exact HB.out|apply below_alloc|apply pw_below_drewN|apply below_drew1)|exact HB.out)) hb);clear HB;have HB:=n0_;clear n0_;(try clear hb);(try clear hb2);(try clear hk);(try clear hi))|((with_reducible refine gate_callee (f:=21) rfl ?_);refine goesL_ (some 109) rfl rfl Tryd.func21 (by kernel_rfl) rfl #[.string a0,.string a2] rfl (by (try simp only [List.map_toArray,List.map_cons,List.map_nil]);first|done|rfl|(simp only [List.length_drop,List.length_take];rfl)) ?_;(with_reducible refine (natural_Mul.calls a0 a2 t639 t640 _ ?side1 A37.out).mono ?_);(case side1=>exact HLW.out.below (by repeat (first|(with_reducible first|exact HB.out|apply below_alloc|apply pw_below_drewN|apply below_drew1)|exact HB.out)));rintro e w76 ⟨rfl,hb⟩;refine ⟨_,rfl,?_⟩;have n0_:=Aside0.mk (below_step (by repeat (first|(with_reducible first|exact HB.out|apply below_alloc|apply pw_below_drewN|apply below_drew1)|exact HB.out)) hb);clear HB;have HB:=n0_;clear n0_;(try clear hb);(try clear hb2);(try clear hk);(try clear hi))|((with_reducible refine gate_callee (f:=21) rfl ?_);refine goesL_ (some 115) rfl rfl Tryd.func21 (by kernel_rfl) rfl #[.string a1,.string a2] rfl (by (try simp only [List.map_toArray,List.map_cons,List.map_nil]);first|done|rfl|(simp only [List.length_drop,List.length_take];rfl)) ?_;(with_reducible refine (natural_Mul.calls a1 a2 t641 t642 _ ?side1 A38.out).mono ?_);(case side1=>exact HLW.out.below (by repeat (first|(with_reducible first|exact HB.out|apply below_alloc|apply pw_below_drewN|apply below_drew1)|exact HB.out)));rintro e w77 ⟨rfl,hb⟩;refine ⟨_,rfl,?_⟩;have n0_:=Aside0.mk (below_step (by repeat (first|(with_reducible first|exact HB.out|apply below_alloc|apply pw_below_drewN|apply below_drew1)|exact HB.out)) hb);clear HB;have HB:=n0_;clear n0_;(try clear hb);(try clear hb2);(try clear hk);(try clear hi))|((with_reducible refine gate_callee (f:=21) rfl ?_);refine goesL_ (some 121) rfl rfl Tryd.func21 (by kernel_rfl) rfl #[.string t627,.string a2] rfl (by (try simp only [List.map_toArray,List.map_cons,List.map_nil]);first|done|rfl|(simp only [List.length_drop,List.length_take];rfl)) ?_;(with_reducible refine (natural_Mul.calls t627 a2 t643 t644 _ ?side1 A39.out).mono ?_);(case side1=>exact HLW.out.below (by repeat (first|(with_reducible first|exact HB.out|apply below_alloc|apply pw_below_drewN|apply below_drew1)|exact HB.out)));rintro e w78 ⟨rfl,hb⟩;refine ⟨_,rfl,?_⟩;have n0_:=Aside0.mk (below_step (by repeat (first|(with_reducible first|exact HB.out|apply below_alloc|apply pw_below_drewN|apply below_drew1)|exact HB.out)) hb);clear HB;have HB:=n0_;clear n0_;(try clear hb);(try clear hb2);(try clear hk);(try clear hi))|((with_reducible refine gate_callee (f:=25) rfl ?_);refine goesL_ (some 127) rfl rfl Tryd.func25 (by kernel_rfl) rfl #[.string t639,.string t641] rfl (by (try simp only [List.map_toArray,List.map_cons,List.map_nil]);first|done|rfl|(simp only [List.length_drop,List.length_take];rfl)) ?_;(with_reducible refine (natural_GCD.calls t639 t641 t645 t646 _ ?side1 A40.out).mono ?_);(case side1=>exact HLW.out.below (by repeat (first|(with_reducible first|exact HB.out|apply below_alloc|apply pw_below_drewN|apply below_drew1)|exact HB.out)));rintro e w79 ⟨rfl,hb⟩;refine ⟨_,rfl,?_⟩;have n0_:=Aside0.mk (below_step (by repeat (first|(with_reducible first|exact HB.out|apply below_alloc|apply pw_below_drewN|apply below_drew1)|exact HB.out)) hb);clear HB;have HB:=n0_;clear n0_;(try clear hb);(try clear hb2);(try clear hk);(try clear hi)))
            go_ret
            exact ⟨by first|rfl|(simp [errW_none,errW_some]<;>rfl)|(simp [*,errW_none,errW_some]<;>rfl),by repeat (first|(with_reducible first|exact HB.out|apply below_alloc|apply pw_below_drewN|apply below_drew1)|exact HB.out)⟩
end Go.Proofs.YtaopmkcghancmaaDoor.Pr
set_option linter.unusedVariables false
set_option linter.unusedSimpArgs false
namespace Go.Proofs.YtaopmkcghancmaaDoor.Pr
open Go.RowKit Go.Lib Go.Proofs.YtaopmkcghancmaaDoorW.PrintWords Go.Proofs.YtaopmkcghancmaaDoorW.PrintLast Go.Proofs.YtaopmkcghancmaaDoorW.PrintMore Go.Proofs.YtaopmkcghancmaaDoor.NatTh
theorem gcd_le_max {e m n:Nat} (hm:Sz e m) (hn:Sz e n):Sz e (Nat.gcd m n):=by
 by_cases h:m = 0
 ·rw [h,Nat.gcd_zero_left]
  exact hn
 ·exact hm.le (Nat.gcd_le_left n (Nat.pos_of_ne_zero h))
theorem Common_j2 (m n c:Nat) (hm:Sz 120 m) (hn:Sz 120 n) (hc:Sz 120 c):Ev (fun k=>garboardlaw01_NaturalCommon.j2 k (num m) (num n) (num c) (num (Nat.gcd m n)) false) true:=by
 have sm:=hm.sh (by omega) (by omega)
 have sn:=hn.sh (by omega) (by omega)
 have sc:=hc.sh (by omega) (by omega)
 have hg:=gcd_le_max hm hn
 have sg:=hg.sh (by omega) (by omega)
 by_cases h0:Nat.gcd m n = 0
 ·refine Ev.step (fun k=>by rw [garboardlaw01_NaturalCommon.j2,if_neg (by simp),if_pos ((is0 _).2 h0)]) (Ev.now _)
 ·have hp:0 < Nat.gcd m n:=Nat.pos_of_ne_zero h0
  refine Ev.step (fun k=>by rw [garboardlaw01_NaturalCommon.j2,if_neg (by simp),if_neg (fun e=>h0 ((is0 _).1 e))]) (Ev.bind (div_e sm sg) (Ev.bind (div_e sn sg) ?_))
  rw [if_neg h0,if_neg h0]
  dsimp only
  have hx:Sz 120 (m / Nat.gcd m n):=hm.le (Nat.div_le_self _ _)
  have hy:Sz 120 (n / Nat.gcd m n):=hn.le (Nat.div_le_self _ _)
  have h1:=hm.mul hc
  have h2:=hn.mul hc
  have h3:=hg.mul hc
  rw [gcd_f (hx.sh (by omega) (by omega)) (hy.sh (by omega) (by omega)),mul_f sm sc,mul_f sn sc,mul_f sg sc]
  simp only [Option.bind_some]
  rw [gcd_f (h1.sh (by omega) (by omega)) (h2.sh (by omega) (by omega))]
  simp only [Option.bind_some]
  have e1:Nat.gcd (m / Nat.gcd m n) (n / Nat.gcd m n) = 1:=(Nat.gcd_div (Nat.gcd_dvd_left m n) (Nat.gcd_dvd_right m n)).trans (Nat.div_self hp)
  have e2:m % Nat.gcd m n = 0:=Nat.mod_eq_zero_of_dvd (Nat.gcd_dvd_left m n)
  have e3:n % Nat.gcd m n = 0:=Nat.mod_eq_zero_of_dvd (Nat.gcd_dvd_right m n)
  have e4:Nat.gcd (m * c) (n * c) = Nat.gcd m n * c:=Nat.gcd_mul_right m c n
  refine Ev.congr (fun k=>?_) (Ev.now _)
  simp only [w00]
  rw [e1,e2,e3,e4,if_pos trivial,if_pos num0,if_pos num0,if_pos num1,beq_self_eq_true]
theorem Common_law (a b c:ByteArray):Ev (fun k=>garboardlaw01_NaturalCommon.f k a b c) true:=by
 refine law_head [a,b,c] (by simp) (fun k t=>garboardlaw01_NaturalCommon.j0 k a b c t) _ (fun k=>rfl) (fun k=>by rw [garboardlaw01_NaturalCommon.j0,if_pos rfl]) (fun hs=>?_)
 have ha:=hs a (by simp)
 have hb:=hs b (by simp)
 have hc:=hs c (by simp)
 have va:=Valid_ev a (by omega)
 have vb:=Valid_ev b (by omega)
 have vc:=Valid_ev c (by omega)
 refine Ev.step (fun k=>by rw [garboardlaw01_NaturalCommon.j0,if_neg (by simp)]) (Ev.bind va ?_)
 cases h1:nv a with
 | false=>exact Ev.congr (fun k=>if_neg (by simp)) (Ev.step (fun k=>by rw [garboardlaw01_NaturalCommon.j1,if_pos (by simp)]) (Ev.now _))
 | true =>
  refine Ev.congr (fun k=>if_pos rfl) (Ev.bind vb ?_)
  cases h2:nv b with
  | false=>exact Ev.congr (fun k=>if_neg (by simp)) (Ev.step (fun k=>by rw [garboardlaw01_NaturalCommon.j1,if_pos (by simp)]) (Ev.now _))
  | true =>
   refine Ev.congr (fun k=>if_pos rfl) (Ev.bind vc ?_)
   cases h3:nv c with
   | false=>exact Ev.step (fun k=>by rw [garboardlaw01_NaturalCommon.j1,if_pos (by simp)]) (Ev.now _)
   | true =>
    obtain ⟨m,rfl,hm⟩:=is_num h1 ha
    obtain ⟨n,rfl,hn⟩:=is_num h2 hb
    obtain ⟨x,rfl,hx⟩:=is_num h3 hc
    have sm:=hm.sh (by omega) (by omega)
    have sn:=hn.sh (by omega) (by omega)
    have e0:(num (Nat.gcd m n)).toList = (num (Nat.gcd n m)).toList:=by rw [Nat.gcd_comm]
    refine Ev.step (fun k=>by rw [garboardlaw01_NaturalCommon.j1,if_neg (by simp),gcd_f sm sn,gcd_f sn sm,Option.bind_some,Option.bind_some]) ?_
    refine Ev.congr (fun k=>?_) (Common_j2 m n x hm hn hx)
    dsimp only
    rw [if_pos rfl,if_pos rfl,if_pos e0]
    by_cases hz:m = 0
    ·rw [if_pos ((is0 m).2 hz),beq0,beq0,show decide (Nat.gcd m n = 0) = decide (n = 0) by rw [hz,Nat.gcd_zero_left],bne_self_eq_false]
    ·rw [if_neg (fun e=>hz ((is0 m).1 e)),beq0,decide_eq_false (fun e=>hz (Nat.eq_zero_of_gcd_eq_zero_left e)),bne_self_eq_false]
end Go.Proofs.YtaopmkcghancmaaDoor.Pr
namespace Go.Proofs.YtaopmkcghancmaaDoor.Pr
set_option linter.unusedVariables false
set_option linter.unusedSimpArgs false
open Go.ChangeShapes Go.WideShapes Go.ChangeAt Go.RowKit Go.Proofs.YtaopmkcghancmaaDoorW.PrintWords
set_option maxRecDepth 100000 in
theorem naturalCommon_lifted (os:Os) (started:os.Started) (H:Type) (enc:TypeId × Value→H) :
  ReturnsInHanded {} Tryd.checked os 9 .any (fun w args=>(Rows.naturalCommonSpec.pre enc Tryd.prog Tryd.f9 [] false w args∧laidMetH Tryd.prog laid5 w)∧sizedMet enc Tryd.prog Tryd.f9 (OpenSpec.ofChange Rows.naturalCommonSpec) false w args)
   (Rows.naturalCommonSpec.post enc Tryd.prog Tryd.f9 false true false false):=by
 refine returnsInHanded_of_change_and (C:=Tryd.checked) (X:=fun w _=>laidMetH Tryd.prog laid5 w) (fun _ _ _ hh h=>h.of_heap hh) own started (by kernel_rfl) Tryd.func9
  (ChangeSpec.witness_shaped (enc:=enc) (C:=Tryd.checked) (os:=os) (X:=fun w _=>laidMetH Tryd.prog laid5 w) false (World.doorLaid Tryd.prog 400 os) #[.string ⟨#[]⟩,.string ⟨#[]⟩,.string ⟨#[]⟩] 8 rfl (World.shaped_of_RefB (by kernel_rfl) (by kernel_rfl)) (by kernel_rfl) (by kernel_rfl) (by kernel_rfl) (door_met os _)) ?_
 intro W base args ds gs before hval0 hW _ _ hL _
 have hval:∀ (j:Nat) t v,Tryd.f9.params[j]? = some t→args[j]? = some v→Value.okWide Tryd.prog W .any base t v:=hval0
 have hW':=hW
 obtain ⟨p,q,hA0,hV,rfl,hfz,hnd⟩:=hW
 have hA:DataW.TrodAll enc Tryd.prog W 0 (fun _=>true) true Tryd.f9.params.toList args.toList ds p:=hA0
 rw [Tryd.params9] at hA hval
 obtain ⟨v0,vs0,d0,ds0,p0,q0,hargs,rfl,rfl,h0,r0⟩:=trodAll_cons hA
 obtain ⟨v1,vs1,d1,ds1,p1,q1,rfl,rfl,rfl,h1,r1⟩:=trodAll_cons r0
 obtain ⟨v2,vs2,d2,ds2,p2,q2,rfl,rfl,rfl,h2,r2⟩:=trodAll_cons r1
 obtain ⟨rfl,rfl,rfl⟩:=trodAll_nil r2
 obtain rfl:args = #[v0,v1,v2]:=by cases args;simp_all
 obtain ⟨rfl,rfl⟩:=trodVars_none hV
 have lt0:∀ x ∈ p0,x.block < W.heap.size:=by obtain ⟨m,hm⟩:=h0;exact DataW.trod_lt m _ _ _ hm
 have lt1:∀ x ∈ p1,x.block < W.heap.size:=by obtain ⟨m,hm⟩:=h1;exact DataW.trod_lt m _ _ _ hm
 have lt2:∀ x ∈ p2,x.block < W.heap.size:=by obtain ⟨m,hm⟩:=h2;exact DataW.trod_lt m _ _ _ hm
 have k0:=h0
 have k1:=h1
 have k2:=h2
 obtain ⟨a0,rfl⟩:=openS (hval 0 9 v0 rfl rfl) h0
 obtain ⟨a1,rfl⟩:=openS (hval 1 9 v1 rfl rfl) h1
 obtain ⟨a2,rfl⟩:=openS (hval 2 9 v2 rfl rfl) h2
 have hT:=laid_tab hL
 clear hA0 hval0 hval
 obtain ⟨k,hk⟩:=(Common_law a0 a1 a2).rounds
 refine (garboardlaw01_NaturalCommon.calls k a0 a1 a2 true W hT hk).mono fun e W' ⟨he,bel⟩=>?_
 subst he
 exact ⟨_,rfl,_,_,_,[],_,[],hW',trodAll_mk1 (shut_bool Tryd.underlying4 _),(trodAll_cons_mk (Below.trod laidOut (by kernel_rfl) (of_decide_eq_true (by kernel_rfl)) k0 bel lt0) (trodAll_cons_mk (Below.trod laidOut (by kernel_rfl) (of_decide_eq_true (by kernel_rfl)) k1 bel lt1) (trodAll_cons_mk (Below.trod laidOut (by kernel_rfl) (of_decide_eq_true (by kernel_rfl)) k2 bel lt2) trodAll_mk0))),rfl,bel.frame _,fun h=>by cases h⟩
theorem naturalCommon_row:Rows.NaturalCommonSaid :=
 OpenClaim.holds_of_wide 9 Tryd.f9 rfl rfl rfl rfl rfl rfl rfl ⟨rfl,rfl,rfl,rfl,rfl⟩ rfl rfl rfl rfl rfl (by kernel_rfl) Tryd.func9 (by kernel_rfl)
  (of_decide_eq_true (by kernel_rfl)) (by unfold Func.isWrapper;first|(rw [if_pos (by decide +kernel)];kernel_rfl)|(rw [if_neg (by decide +kernel)];exact ⟨rfl,rfl⟩))
  (fun os started H enc _=>naturalCommon_lifted os started H enc)
end Go.Proofs.YtaopmkcghancmaaDoor.Pr
namespace Go.Proofs.YtaopmkcghancmaaDoor
open Go
theorem naturalCommon_card_holds:Rows.NaturalCommonCardSaid :=
 Claim7.holds_tied_plain_at .later [] [.data,.data,.data,.sentinel,.sentinel] true (true, "15e2bb534210d3ebfac1118a7fbd3a9c70502882d4f4aec048f40a6a26db7ede") true
  Pr.naturalCommon_row (fun _ h=>by cases h) (by kernel_rfl) (fun _ h=>by cases h) naturalCommon_row_tie rfl ⟨rfl,rfl⟩ (by kernel_rfl) rfl
  (fun f fn hf hfn=>by
   obtain rfl:f = 9:=Option.some.inj ((show Tryd.prog.funcNamed "garboard/garboardlaw01.NaturalCommon" = some 9 by kernel_rfl).symm.trans hf) |>.symm
   obtain rfl:fn = Tryd.f9:=(Option.some.inj (Tryd.func9.symm.trans hfn)).symm
   exact ⟨by kernel_rfl,fun j t ht=>by
    rw [Tryd.params9] at ht
    have hm:t ∈ [9,9,9]:=by simpa using Array.mem_of_getElem? ht
    have hall:([9,9,9].all fun u=>!Tryd.prog.wantsStandIn u) = true:=by kernel_rfl
    exact (show Tryd.prog.wantsStandIn t = false by simpa using List.all_eq_true.1 hall t hm)⟩)
  (by kernel_rfl)
end Go.Proofs.YtaopmkcghancmaaDoor
