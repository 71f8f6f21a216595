/- Part 1 of 1: garboardlaw01.NaturalUndoes (subtraction undoes addition, quotient and remainder give the number back, comparison agrees with subtraction; at most 120 bytes each) answers true for every input, and each argument reads behind the call as before. The library's tables are tied to the program's text by the card. -/
import Derived.Below
import Derived.Deep.Draws
import Derived.Deep.AppendLies
import Derived.Maps.AppendAt
import Derived.OwnWalk
import Derived.Laws.BytesArg
import Derived.Laws.MakeOwn
import Derived.Laws.OwnMore
import Derived.Deep.OwnRows
import Derived.Tactics
import Derived.Lib.ConvBytes
import Derived.Laws.Slices
import Derived.WalkKit
import Derived.KernelRfl
import Derived.RowKit3
import Derived.Deep.LoopGhost
import Derived.Deep.QuietTactic
import Derived.BigQuiet
import Derived.WideLaws
import Derived.Deep.DeepCutAuto
import Derived.Deep.CutBlock
import Derived.Deep.RegionHeld3
import Derived.Laws.Rows
import Derived.Lib.AppendStr
import Derived.ArgAppend
import Derived.Laws.IdiomCopy
import Derived.RowKit
import Derived.OrdersHeld
import Derived.Laws.BitsLemmas
import Derived.Laws.StructEq
import Derived.Test.YtaopmkcghancmaaDoorProg
import Derived.Shelf.Strings.Builder1
import Derived.Shelf.Strings.Builder2
import Derived.Shelf.Small.Wraps
import Derived.Shelf.Strings.BuilderF
import Derived.Shelf.Strings.BuilderK
import Derived.Shelf.Strings.Builder2Cap
import Derived.Shelf.Strconv.Itoa0
import Derived.Shelf.Strconv.Itoa1
import Derived.Shelf.LaysM
import Derived.Shelf.Strconv.Itoa2
import Derived.Shelf.Strconv.Itoa3
import Derived.Shelf.Strconv.Clone
import Derived.Shelf.Strconv.SyntaxError
import Derived.Shelf.Strconv.Lower
import Derived.Shelf.Strconv.ParseUint10
import Derived.Shelf.Strconv.ParseUint10Empty
import Derived.Shelf.Strconv.RangeError
import Derived.Shelf.Strconv.ParseUintEmpty
import Derived.Shelf.Strconv.ParseUint10b64
import Derived.Shelf.Strconv.ParseUint10b32
import Derived.Shelf.Strconv.ParseUint10b16
import Derived.Shelf.Strconv.ParseUint10b8
import Derived.Ground.MpProg
import Derived.Shelf.Pu.ParseUintPublic10
import Derived.Shelf.Strings.Prefix
import Derived.Shelf.Bits.Mul64
import Derived.Shelf.Strings.Repeat
import Derived.Ground.Names2Prog
import Derived.Shelf.Slices.SearchI
import Derived.Lib.AtoiErrMem
import Derived.Lib.ItoaNum
import Derived.Lib.ParseIntB
import Derived.RangeFuncFrom
import Derived.RangeFuncBox
import Derived.RangeFuncLeaves
import Derived.RangeFuncCalls
import Derived.RangeFuncBound
import Derived.Shelf.Abstract
import Derived.OwnWalkIn
import Derived.TacticsInMore
import Derived.LoopNIn
import Derived.LoopIn
import Derived.Lib.Hide
import Derived.Lib.FrozenHead
import Derived.Lib.AppendIntMem
import Derived.Lib.Walk
import Derived.Lib.ItoaMem
import Derived.BigCall
import Derived.BigGuard
import Derived.Lib.SmallJoins
import Derived.LaidMore
import Derived.ProofKit
import Derived.Stop.Joined
import Derived.SizedLaws
import Derived.DataShut
import Derived.SevenTiedAt
import Derived.Test.YtaopmkcghancmaaDoorCz4
set_option linter.unusedVariables false
set_option linter.unusedSimpArgs false
namespace Go.Proofs.YtaopmkcghancmaaDoor.Pr
open Go.RowKit Go.Lib Go.Proofs.YtaopmkcghancmaaDoorW.PrintWords Go.Proofs.YtaopmkcghancmaaDoorW.PrintLast Go.Proofs.YtaopmkcghancmaaDoorW.PrintMore Go.Proofs.YtaopmkcghancmaaDoor.NatTh
theorem nv_num (n:Nat):nv (num n) = true:=(nv_iff _).2 (nml_dec n)
theorem nat_num (n:Nat):nat (num n) = n:=pv_dec n
theorem bs_inj {a b:ByteArray} (h:bs a = bs b):a = b:=by
 cases a
 cases b
 exact congrArg _ (Array.toList_inj.1 h)
theorem num_nat {a:ByteArray} (h:nv a = true):num (nat a) = a:=bs_inj (dec_pv (bs a) ((nv_iff a).1 h))
theorem num_inj {m n:Nat} (h:num m = num n):m = n:=by rw [← nat_num m,h,nat_num]
theorem num_toList_inj {m n:Nat}:(num m).toList = (num n).toList ↔ m = n:=⟨fun h=>num_inj (bs_inj (by rw [← toL,← toL,h])),fun h=>by rw [h]⟩
theorem num_beq (m n:Nat):((num m).toList == (num n).toList) = decide (m = n):=by
 by_cases h:m = n
 ·subst h
  simp
 ·rw [decide_eq_false h]
  exact beq_eq_false_iff_ne.2 (fun e=>h (num_toList_inj.1 e))
theorem num0:(num 0).toList = ([48]:List UInt8):=num_list _ _ (by decide +kernel) (by decide +kernel)
theorem is0 (n:Nat):(num n).toList = ([48]:List UInt8) ↔ n = 0:=by rw [← num0,num_toList_inj]
theorem nil_toList:(⟨#[]⟩:ByteArray).toList = ([]:List UInt8):=toL _
def Sz (e n:Nat):Prop:=n < 10 ^ e
theorem sz_size {e n:Nat} (he:1≤e) (h:Sz e n):(num n).size≤e:=by
 have h1:(num n).size = nDigits n:=by
  rw [← bs_length,show bs (num n) = decDigits n from rfl,decDigits_length]
 rw [h1]
 exact nDigits_le e n he h
theorem Sz.le {e m n:Nat} (h:Sz e n) (hm:m≤n):Sz e m:=Nat.lt_of_le_of_lt hm h
theorem Sz.add {e m n:Nat} (hm:Sz e m) (hn:Sz e n):Sz (e + 1) (m + n):=by
 unfold Sz at *
 have:10 ^ (e + 1) = 10 ^ e * 10:=Nat.pow_succ 10 e
 omega
theorem Sz.mul {e f m n:Nat} (hm:Sz e m) (hn:Sz f n):Sz (e + f) (m * n):=by
 unfold Sz at *
 rw [Nat.pow_add]
 exact Nat.mul_lt_mul'' hm hn
theorem Sz.sh {e n:Nat} (h:Sz e n) (he:1≤e) (h2:e≤100000):Sh (num n):=Nat.le_trans (sz_size he h) (by omega)
theorem is_num {a:ByteArray} (h:nv a = true) (hs:a.size≤120):∃ n,a = num n∧Sz 120 n:=by
 refine ⟨nat a,(num_nat h).symm,?_⟩
 have h1:=pv_lt (bs a) ((nv_iff a).1 h).1
 rw [bs_length] at h1
 exact Nat.lt_of_lt_of_le h1 (Nat.pow_le_pow_right (by omega) hs)
theorem both_num (m n:Nat):(nv (num m) && nv (num n)) = true:=by rw [nv_num,nv_num];rfl
theorem add_f {m n:Nat} (hm:Sh (num m)) (hn:Sh (num n)):natural_Add.f (num m) (num n) = some (num (m + n),0):=by
 unfold natural_Add.f addV
 rw [if_pos ⟨hm,hn⟩,if_pos (both_num m n),nat_num,nat_num]
theorem sub_f {m n:Nat} (hm:Sh (num m)) (hn:Sh (num n)):natural_Sub.f (num m) (num n) = some (if m < n then (⟨#[]⟩,2) else (num (m - n),0)):=by
 unfold natural_Sub.f subV
 rw [if_pos ⟨hm,hn⟩,if_pos (both_num m n),nat_num,nat_num]
theorem mul_f {m n:Nat} (hm:Sh (num m)) (hn:Sh (num n)):natural_Mul.f (num m) (num n) = some (num (m * n),0):=by
 unfold natural_Mul.f mulV
 rw [if_pos ⟨hm,hn⟩,if_pos (both_num m n),nat_num,nat_num]
theorem cmp_e {m n:Nat} (hm:Sh (num m)) (hn:Sh (num n)):Ev (fun k=>natural_Compare.f k (num m) (num n)) (ord m n,0):=by
 have h:=Compare_ev (num m) (num n) hm hn
 unfold cmpSV at h
 rw [if_pos (both_num m n),nat_num,nat_num] at h
 exact h
theorem div_e {m n:Nat} (hm:Sh (num m)) (hn:Sh (num n)):Ev (fun k=>natural_DivMod.f k (num m) (num n)) (if n = 0 then (⟨#[]⟩,⟨#[]⟩,16) else (num (m / n),num (m % n),0)):=by
 have h:=DivMod_ev (num m) (num n) hm hn
 unfold divV at h
 rw [if_pos (both_num m n),nat_num,nat_num] at h
 exact h
theorem ord_lt {m n:Nat} (h:m < n):ord m n = -1:=if_pos h
theorem ord_self (m:Nat):ord m m = 0:=by unfold ord;rw [if_neg (by omega),if_neg (by omega)]
theorem ord_gt {m n:Nat} (h:n < m):ord m n = 1:=by unfold ord;rw [if_neg (by omega),if_pos h]
end Go.Proofs.YtaopmkcghancmaaDoor.Pr
namespace Go.Proofs.YtaopmkcghancmaaDoor.Pr
set_option linter.unusedVariables false
set_option linter.unusedSimpArgs false
open Go.ChangeShapes Go.WideShapes Go.ChangeAt Go.Deep Go.Joins Go.RowKit Go.Proofs.YtaopmkcghancmaaDoorW.PrintWords
theorem own:ownKnob Tryd.prog.godebug = none:=by kernel_rfl
theorem laidOut:laidOutB Tryd.prog = true:=by kernel_rfl
set_option maxRecDepth 100000 in
theorem openS {H:Type} {enc:TypeId × Value→H} {W:World} {r:Reach} {b0:Nat} {v:Value} {d:DataW H} {p:List MemPlace} (hv:Value.okWide Tryd.prog W r b0 9 v) (h:DataW.Trod enc Tryd.prog W 0 (fun _=>true) true 9 v d p):∃ s,v = .string s:=by
 obtain ⟨s,e,_⟩:=Go.ChangeMaps.open_string Tryd.underlying9 hv h
 exact ⟨s,e⟩
def laid5:List (String × DataW Unit):=[("math/bits.deBruijn32tab",Rows.laid_math_bits_deBruijn32tab),("math/bits.deBruijn64tab",Rows.laid_math_bits_deBruijn64tab),("internal/strconv.uint64pow10",Rows.laid_internal_strconv_uint64pow10),("strconv.ErrRange",Rows.laid_strconv_ErrRange),("strconv.ErrSyntax",Rows.laid_strconv_ErrSyntax)]
theorem gPow:Tryd.prog.globalNamed "internal/strconv.uint64pow10" = some 0:=by kernel_rfl
theorem gPowType:(Tryd.prog.globals[0]?).map (·.type) = some 123:=by kernel_rfl
theorem laid_tab {W:World} (h:laidMetH Tryd.prog laid5 W):LaidW W:=by
 rw [MakeChecks.laidMetH_plain _ _ _ (by kernel_rfl)] at h
 obtain ⟨ps,⟨g0,t0,cs0,f0,p0,q0,hg0,ht0,hv0,hd0,⟨g1,t1,cs1,f1,p1,q1,hg1,ht1,hv1,hd1,⟨g2,t2,cs2,f2,p2,q2,hg2,ht2,hv2,hd2,_,_⟩,_⟩,_⟩,_⟩:=h
 obtain rfl:=Option.some.inj (gPow.symm.trans hg2)
 obtain rfl:=Option.some.inj (gPowType.symm.trans ht2)
 have e:(Rows.laid_internal_strconv_uint64pow10:DataW Unit) = Lib.tabData .u64 Lib.pow10Tab:=rfl
 rw [e] at hd2
 unfold LaidW Lib.TabIs
 rw [hv2,← Lib.cells_of_tab Tryd.underlying123 Tryd.underlying61 (by kernel_rfl) (by kernel_rfl) hd2]
theorem door_met (os:Os) (args:Array Value):laidMetH Tryd.prog laid5 ((World.doorLaid Tryd.prog 400 os).forCall (fun _ _=>0) ⟨#[],args,[]⟩).memory :=
 laidMetH_of_parts3 (fuel:=8) (laidMet_of_run' 8 (by kernel_rfl) (by kernel_rfl)) (by kernel_rfl) (by kernel_rfl)
end Go.Proofs.YtaopmkcghancmaaDoor.Pr
namespace Go.Proofs.YtaopmkcghancmaaDoor.Pr
open Go.RowKit Go.Proofs.YtaopmkcghancmaaDoorW.PrintWords Go.Proofs.YtaopmkcghancmaaDoorW.PrintLast Go.Proofs.YtaopmkcghancmaaDoorW.PrintMore
attribute [local go_sem] max2_int min2_int max_two min_two max_three min_three max_four min_four
set_option linter.unusedVariables false
set_option linter.unusedSimpArgs false
mutual
def garboardlaw01_NaturalUndoes.j0:Nat→ByteArray→ByteArray→Bool→Option (Bool)
 | 0,_,_,_=>none
 | k + 1,x0,x1,x29=>if x29 = true then ((garboardlaw01_awake.f k).bind fun t598=>(some t598)) else ((natural_Valid.f k x0).bind fun t599=>(if t599 = true then ((natural_Valid.f k x1).bind fun t600=>(garboardlaw01_NaturalUndoes.j1 k x0 x1 (!t600))) else (garboardlaw01_NaturalUndoes.j1 k x0 x1 true)))
def garboardlaw01_NaturalUndoes.j1:Nat→ByteArray→ByteArray→Bool→Option (Bool)
 | 0,_,_,_=>none
 | k + 1,x0,x1,x38=>if x38 = true then (some true) else ((natural_Add.f x0 x1).bind fun bt601=>((natural_Sub.f bt601.1 x1).bind fun bt603=>((natural_Compare.f k x0 x1).bind fun bt605=>((natural_Sub.f x0 x1).bind fun bt607=>(if bt601.2 = 0 then (if bt603.2 = 0 then (if bt605.2 = 0 then (if bt603.1.toList = x0.toList then (if ((bt607.2 == 0) != (decide (bt605.1 ≥ 0))) = true then (garboardlaw01_NaturalUndoes.j2 k x0 x1 true) else (garboardlaw01_NaturalUndoes.j2 k x0 x1 ((bt605.1 == 0) != (x0.toList == x1.toList)))) else (garboardlaw01_NaturalUndoes.j2 k x0 x1 true)) else (garboardlaw01_NaturalUndoes.j2 k x0 x1 true)) else (garboardlaw01_NaturalUndoes.j2 k x0 x1 true)) else (garboardlaw01_NaturalUndoes.j2 k x0 x1 true))))))
def garboardlaw01_NaturalUndoes.j2:Nat→ByteArray→ByteArray→Bool→Option (Bool)
 | 0,_,_,_=>none
 | k + 1,x0,x1,x92=>if x92 = true then (some false) else ((natural_DivMod.f k x0 x1).bind fun bt609=>(if x1.toList = ([48]:List UInt8) then (if bt609.2.2 = 16 then (if bt609.1.toList = ([]:List UInt8) then (some (bt609.2.1.toList == ([]:List UInt8))) else (some false)) else (some false)) else ((natural_Mul.f bt609.1 x1).bind fun bt612=>((natural_Add.f bt612.1 bt609.2.1).bind fun bt614=>((natural_Compare.f k bt609.2.1 x1).bind fun bt616=>(if bt609.2.2 = 0 then (if bt612.2 = 0 then (if bt614.2 = 0 then (if bt616.2 = 0 then (if bt614.1.toList = x0.toList then (some (bt616.1 == (-1))) else (some false)) else (some false)) else (some false)) else (some false)) else (some false)))))))
end
def garboardlaw01_NaturalUndoes.f (k:Nat) (a0:ByteArray) (a1:ByteArray):Option (Bool):=(garboardlaw01_awake.f k).bind fun t593=>(if t593 = true then ((garboardlaw01_long.f k (([a0,a1]:List ByteArray))).bind fun t597=>(garboardlaw01_NaturalUndoes.j0 k a0 a1 t597)) else (garboardlaw01_NaturalUndoes.j0 k a0 a1 true))
set_option maxHeartbeats 8000000 in
set_option maxRecDepth 100000 in
theorem garboardlaw01_NaturalUndoes.calls (k:Nat) (a0:ByteArray) (a1:ByteArray) (r:Bool) (w:World) (hL:LaidW w) (h:garboardlaw01_NaturalUndoes.f k a0 a1 = some r) :
  Calls Tryd.prog 8 #[.string a0,.string a1] w fun e w'=>e = .returned (.bool r)∧Below w.heap.size w w':=by
 have HB:=Aside0.mk (Below.refl w.heap.size w)
 have HLW:=Aside0.mk hL
 clear hL
 have H:((garboardlaw01_awake.f k).bind fun t593=>(if t593 = true then ((garboardlaw01_long.f k (([a0,a1]:List ByteArray))).bind fun t597=>(garboardlaw01_NaturalUndoes.j0 k a0 a1 t597)) else (garboardlaw01_NaturalUndoes.j0 k a0 a1 true))) = some r:=h
 clear h
 have HC3:=Aside0.mk H
 clear H
 go_enter Tryd.func8,Tryd.ntmps8
 go_upto_region 1 with (fail)
 go_cut [29] (fun v29 wc=>∃ (kq:Nat) (x29_2:Bool),v29 = .bool x29_2∧Aside0 (garboardlaw01_NaturalUndoes.j0 kq a0 a1 x29_2 = some r)∧Aside0 (kq≤k)∧Aside0 (Below w.heap.size w wc))
 case first =>
  have H:=HC3.out
  clear HC3
  replace H:=Option.bind_eq_some_iff.mp H
  obtain ⟨t593,A40,H⟩:=H
  replace H:(if t593 = true then ((garboardlaw01_long.f k (([a0,a1]:List ByteArray))).bind fun t597=>(garboardlaw01_NaturalUndoes.j0 k a0 a1 t597)) else (garboardlaw01_NaturalUndoes.j0 k a0 a1 true)) = some r:=H
  have A4:=Aside0.mk A40
  clear A40
  by_cases c5:t593 = true
  ·subst c5
   have H1:((garboardlaw01_long.f k (([a0,a1]:List ByteArray))).bind fun t597=>(garboardlaw01_NaturalUndoes.j0 k a0 a1 t597)) = some r:=by rw [if_pos rfl] at H;exact H
   clear H
   have H:=H1
   clear H1
   obtain ⟨y594,hy594⟩:∃ y_:List ByteArray,y_ = (([a0,a1]:List ByteArray)):=⟨_,rfl⟩
   replace H:((garboardlaw01_long.f k y594).bind fun t597=>(garboardlaw01_NaturalUndoes.j0 k a0 a1 t597)) = some r:=by first|(rw [hy594];with_reducible exact H)|(have H2_:=(Option.bind_some _ _).symm.trans H;rw [hy594];with_reducible exact H2_)|(have H2_:=(Option.bind_some _ _).symm.trans H;with_reducible exact H2_)|with_reducible exact H|(rw [hy594];exact H)|exact H
   have Ny594:=Aside0.mk hy594
   clear hy594
   replace H:=Option.bind_eq_some_iff.mp H
   obtain ⟨t597,A60,H⟩:=H
   replace H:(garboardlaw01_NaturalUndoes.j0 k a0 a1 t597) = some r:=H
   have A6:=Aside0.mk A60
   clear A60
   have H':=Aside0.mk H
   clear H
   go_wp2_with (first|((with_reducible refine gate_callee (f:=11) rfl ?_);refine goesL_ (some 22) rfl rfl Tryd.func11 (by kernel_rfl) rfl #[] rfl (by (try simp only [List.map_toArray,List.map_cons,List.map_nil]);first|done|rfl|(simp only [List.length_drop,List.length_take];rfl)) ?_;(with_reducible refine (garboardlaw01_awake.calls k  true _ ?side1 A4.out).mono ?_);(case side1=>exact HLW.out.below (by repeat (first|(with_reducible first|exact HB.out|apply below_alloc|apply pw_below_drewN|apply below_drew1)|exact HB.out)));rintro e w7 ⟨rfl,hb⟩;refine ⟨_,rfl,?_⟩;have n0_:=Aside0.mk (below_step (by repeat (first|(with_reducible first|exact HB.out|apply below_alloc|apply pw_below_drewN|apply below_drew1)|exact HB.out)) hb);clear HB;have HB:=n0_;clear n0_;(try clear hb);(try clear hb2);(try clear hk);(try clear hi))|((with_reducible refine gate_dst (N:=27) rfl ?_);(try (refine gate_guard (by rfl) ?_;dsimp only));refine Kd.R_lit Kd.string _ 9 ?hg (N:=27) ?hd (xs:=([a0,a1]:List ByteArray)) (inner:=[.string a0,.string a1]) (ok:=fun _=>True) (okp:=fun _=>True) ?hr ?hp (fun _ hk=>hk) trivial (Below.refl _ _) (Nat.le_refl _) (by simp) ?_;(case hd=>rfl);(case hg=>rfl);(case hr=>first|(go_simp;done)|(go_simp;rfl));(case hp=>exact (Reps.one (show Kd.M Kd.string _ _ _ a0 [.string a0] from rfl) (Reps.one (show Kd.M Kd.string _ _ _ a1 [.string a1] from rfl) (Reps.none _ _))));intro v595 w8 ho9 hb hg_ hnew_;clear hg_ hnew_;(first|rw [← Ny594.out] at ho9|(simp only [Int.reduceToNat] at ho9;rw [← Ny594.out] at ho9));have n0_:=Aside0.mk (Kd.R_lower ho9 (below_size (by repeat (first|(with_reducible first|exact HB.out|apply below_alloc|apply pw_below_drewN|apply below_drew1)|exact HB.out))));have n1_:=Aside0.mk (below_step (by repeat (first|(with_reducible first|exact HB.out|apply below_alloc|apply pw_below_drewN|apply below_drew1)|exact HB.out)) hb);clear HB;have HO596:=n0_;have HB:=n1_;clear n0_ n1_;clear hb ho9;obtain ⟨Ao10,co10,eo10⟩:=Kd.R_slice HO596.out;subst eo10)|(go_at_call 12;(with_reducible refine (garboardlaw01_long.calls k _ _ y594 t597 _ ?side1 ?side2 A6.out).mono ?_);(case side1=>repeat (first|exact (Kd.R_reads' HO596.out).2.2|(with_reducible refine Kd.C_alloc ?_ _)|(with_reducible refine Kd.C_drewN ?_ _)|(with_reducible refine Kd.C_drew ?_)));(case side2=>exact (Kd.R_reads' HO596.out).2.1);rintro e w' ⟨rfl,⟨nd,rfl⟩⟩))
   go_meet
   case rel=>exact ⟨_,(t597),(by first|rfl|(simp;done)|(simp [*];done)),H',⟨by first|omega|exact Nat.le_refl _⟩,⟨by repeat (first|(with_reducible first|exact HB.out|apply below_alloc|apply pw_below_drewN|apply below_drew1)|exact HB.out)⟩⟩
  ·replace c5:=Bool.eq_false_iff.mpr c5
   subst c5
   have H1:(garboardlaw01_NaturalUndoes.j0 k a0 a1 true) = some r:=by rw [if_neg (show ¬ (false = true) by decide)] at H;exact H
   clear H
   have H:=H1
   clear H1
   have H':=Aside0.mk H
   clear H
   go_wp2_with (first|((with_reducible refine gate_callee (f:=11) rfl ?_);refine goesL_ (some 22) rfl rfl Tryd.func11 (by kernel_rfl) rfl #[] rfl (by (try simp only [List.map_toArray,List.map_cons,List.map_nil]);first|done|rfl|(simp only [List.length_drop,List.length_take];rfl)) ?_;(with_reducible refine (garboardlaw01_awake.calls k  false _ ?side1 A4.out).mono ?_);(case side1=>exact HLW.out.below (by repeat (first|(with_reducible first|exact HB.out|apply below_alloc|apply pw_below_drewN|apply below_drew1)|exact HB.out)));rintro e w11 ⟨rfl,hb⟩;refine ⟨_,rfl,?_⟩;have n0_:=Aside0.mk (below_step (by repeat (first|(with_reducible first|exact HB.out|apply below_alloc|apply pw_below_drewN|apply below_drew1)|exact HB.out)) hb);clear HB;have HB:=n0_;clear n0_;(try clear hb);(try clear hb2);(try clear hk);(try clear hi)))
   go_meet
   case rel=>exact ⟨_,(true),(by first|rfl|(simp;done)|(simp [*];done)),H',⟨by first|omega|exact Nat.le_refl _⟩,⟨by repeat (first|(with_reducible first|exact HB.out|apply below_alloc|apply pw_below_drewN|apply below_drew1)|exact HB.out)⟩⟩
 case rest =>
  clear HC3
  try clear c1
  try clear p2
  try clear c5
  try clear c8
  try clear c11
  obtain ⟨kq,x29_2,rfl,HA,HJ2,HB⟩:=hcut
  cases kq with
  | zero=>exact absurd HA.out (by simp [garboardlaw01_NaturalUndoes.j0])
  | succ kj2 =>
   have H:=HA.out
   clear HA
   simp only [garboardlaw01_NaturalUndoes.j0] at H
   by_cases c12:x29_2 = true
   ·subst c12
    have H1:((garboardlaw01_awake.f kj2).bind fun t598=>(some t598)) = some r:=by rw [if_pos rfl] at H;exact H
    clear H
    have H:=H1
    clear H1
    replace H:=Option.bind_eq_some_iff.mp H
    obtain ⟨t598,A130,H⟩:=H
    replace H:(some t598) = some r:=H
    have A13:=Aside0.mk A130
    clear A130
    obtain rfl:=Option.some.inj H
    go_wp2_with (first|((with_reducible refine gate_callee (f:=11) rfl ?_);refine goesL_ (some 30) rfl rfl Tryd.func11 (by kernel_rfl) rfl #[] rfl (by (try simp only [List.map_toArray,List.map_cons,List.map_nil]);first|done|rfl|(simp only [List.length_drop,List.length_take];rfl)) ?_;(with_reducible refine (garboardlaw01_awake.calls kj2  t598 _ ?side1 A13.out).mono ?_);(case side1=>exact HLW.out.below (by repeat (first|(with_reducible first|exact HB.out|apply below_alloc|apply pw_below_drewN|apply below_drew1)|exact HB.out)));rintro e w14 ⟨rfl,hb⟩;refine ⟨_,rfl,?_⟩;have n0_:=Aside0.mk (below_step (by repeat (first|(with_reducible first|exact HB.out|apply below_alloc|apply pw_below_drewN|apply below_drew1)|exact HB.out)) hb);clear HB;have HB:=n0_;clear n0_;(try clear hb);(try clear hb2);(try clear hk);(try clear hi)))
    go_ret
    exact ⟨by first|rfl|(simp [errW_none,errW_some]<;>rfl)|(simp [*,errW_none,errW_some]<;>rfl),by repeat (first|(with_reducible first|exact HB.out|apply below_alloc|apply pw_below_drewN|apply below_drew1)|exact HB.out)⟩
   ·replace c12:=Bool.eq_false_iff.mpr c12
    subst c12
    have H1:((natural_Valid.f kj2 a0).bind fun t599=>(if t599 = true then ((natural_Valid.f kj2 a1).bind fun t600=>(garboardlaw01_NaturalUndoes.j1 kj2 a0 a1 (!t600))) else (garboardlaw01_NaturalUndoes.j1 kj2 a0 a1 true))) = some r:=by rw [if_neg (show ¬ (false = true) by decide)] at H;exact H
    clear H
    have H:=H1
    clear H1
    have HC15:=Aside0.mk H
    clear H
    go_upto_region 3 with (fail)
    go_cut [38] (fun v38 wc=>∃ (kq:Nat) (x38_14:Bool),v38 = .bool x38_14∧Aside0 (garboardlaw01_NaturalUndoes.j1 kq a0 a1 x38_14 = some r)∧Aside0 (kq≤kj2)∧Aside0 (Below w.heap.size w wc))
    case first =>
     have H:=HC15.out
     clear HC15
     replace H:=Option.bind_eq_some_iff.mp H
     obtain ⟨t599,A160,H⟩:=H
     replace H:(if t599 = true then ((natural_Valid.f kj2 a1).bind fun t600=>(garboardlaw01_NaturalUndoes.j1 kj2 a0 a1 (!t600))) else (garboardlaw01_NaturalUndoes.j1 kj2 a0 a1 true)) = some r:=H
     have A16:=Aside0.mk A160
     clear A160
     by_cases c17:t599 = true
     ·subst c17
      have H1:((natural_Valid.f kj2 a1).bind fun t600=>(garboardlaw01_NaturalUndoes.j1 kj2 a0 a1 (!t600))) = some r:=by rw [if_pos rfl] at H;exact H
      clear H
      have H:=H1
      clear H1
      replace H:=Option.bind_eq_some_iff.mp H
      obtain ⟨t600,A180,H⟩:=H
      replace H:(garboardlaw01_NaturalUndoes.j1 kj2 a0 a1 (!t600)) = some r:=H
      have A18:=Aside0.mk A180
      clear A180
      have H':=Aside0.mk H
      clear H
      go_wp2_with (first|((with_reducible refine gate_callee (f:=15) rfl ?_);refine goesL_ (some 32) rfl rfl Tryd.func15 (by kernel_rfl) rfl #[.string a0] rfl (by (try simp only [List.map_toArray,List.map_cons,List.map_nil]);first|done|rfl|(simp only [List.length_drop,List.length_take];rfl)) ?_;(with_reducible refine (natural_Valid.calls kj2 a0 true _ A16.out).mono ?_);rintro e w' ⟨rfl,⟨nd,rfl⟩⟩;refine ⟨_,rfl,?_⟩)|(go_at_call 15;(with_reducible refine (natural_Valid.calls kj2 a1 t600 _ A18.out).mono ?_);rintro e w' ⟨rfl,⟨nd,rfl⟩⟩))
      go_meet
      case rel=>exact ⟨_,(!t600),(by first|rfl|(simp;done)|(simp [*];done)),H',⟨by have:=HJ2.out;first|omega|exact Nat.le_refl _⟩,⟨by repeat (first|(with_reducible first|exact HB.out|apply below_alloc|apply pw_below_drewN|apply below_drew1)|exact HB.out)⟩⟩
     ·replace c17:=Bool.eq_false_iff.mpr c17
      subst c17
      have H1:(garboardlaw01_NaturalUndoes.j1 kj2 a0 a1 true) = some r:=by rw [if_neg (show ¬ (false = true) by decide)] at H;exact H
      clear H
      have H:=H1
      clear H1
      have H':=Aside0.mk H
      clear H
      go_wp2_with (first|((with_reducible refine gate_callee (f:=15) rfl ?_);refine goesL_ (some 32) rfl rfl Tryd.func15 (by kernel_rfl) rfl #[.string a0] rfl (by (try simp only [List.map_toArray,List.map_cons,List.map_nil]);first|done|rfl|(simp only [List.length_drop,List.length_take];rfl)) ?_;(with_reducible refine (natural_Valid.calls kj2 a0 false _ A16.out).mono ?_);rintro e w' ⟨rfl,⟨nd,rfl⟩⟩;refine ⟨_,rfl,?_⟩))
      go_meet
      case rel=>exact ⟨_,(true),(by first|rfl|(simp;done)|(simp [*];done)),H',⟨by have:=HJ2.out;first|omega|exact Nat.le_refl _⟩,⟨by repeat (first|(with_reducible first|exact HB.out|apply below_alloc|apply pw_below_drewN|apply below_drew1)|exact HB.out)⟩⟩
    case rest =>
     clear HC15
     try clear c1
     try clear p2
     try clear c5
     try clear c8
     try clear c11
     try clear c12
     try clear c15
     try clear c17
     try clear p2
     obtain ⟨kq,x38_14,rfl,HA,HJ14,HB⟩:=hcut
     cases kq with
     | zero=>exact absurd HA.out (by simp [garboardlaw01_NaturalUndoes.j1])
     | succ kj14 =>
      have H:=HA.out
      clear HA
      simp only [garboardlaw01_NaturalUndoes.j1] at H
      by_cases c19:x38_14 = true
      ·subst c19
       have H1:(some true) = some r:=by rw [if_pos rfl] at H;exact H
       clear H
       have H:=H1
       clear H1
       obtain rfl:=Option.some.inj H
       go_wp2
       go_ret
       exact ⟨by first|rfl|(simp [errW_none,errW_some]<;>rfl)|(simp [*,errW_none,errW_some]<;>rfl),by repeat (first|(with_reducible first|exact HB.out|apply below_alloc|apply pw_below_drewN|apply below_drew1)|exact HB.out)⟩
      ·replace c19:=Bool.eq_false_iff.mpr c19
       subst c19
       have H1:((natural_Add.f a0 a1).bind fun bt601=>((natural_Sub.f bt601.1 a1).bind fun bt603=>((natural_Compare.f kj14 a0 a1).bind fun bt605=>((natural_Sub.f a0 a1).bind fun bt607=>(if bt601.2 = 0 then (if bt603.2 = 0 then (if bt605.2 = 0 then (if bt603.1.toList = a0.toList then (if ((bt607.2 == 0) != (decide (bt605.1 ≥ 0))) = true then (garboardlaw01_NaturalUndoes.j2 kj14 a0 a1 true) else (garboardlaw01_NaturalUndoes.j2 kj14 a0 a1 ((bt605.1 == 0) != (a0.toList == a1.toList)))) else (garboardlaw01_NaturalUndoes.j2 kj14 a0 a1 true)) else (garboardlaw01_NaturalUndoes.j2 kj14 a0 a1 true)) else (garboardlaw01_NaturalUndoes.j2 kj14 a0 a1 true)) else (garboardlaw01_NaturalUndoes.j2 kj14 a0 a1 true)))))) = some r:=by rw [if_neg (show ¬ (false = true) by decide)] at H;exact H
       clear H
       have H:=H1
       clear H1
       replace H:=Option.bind_eq_some_iff.mp H
       obtain ⟨⟨t601,t602⟩,A200,H⟩:=H
       replace H:((natural_Sub.f t601 a1).bind fun bt603=>((natural_Compare.f kj14 a0 a1).bind fun bt605=>((natural_Sub.f a0 a1).bind fun bt607=>(if t602 = 0 then (if bt603.2 = 0 then (if bt605.2 = 0 then (if bt603.1.toList = a0.toList then (if ((bt607.2 == 0) != (decide (bt605.1 ≥ 0))) = true then (garboardlaw01_NaturalUndoes.j2 kj14 a0 a1 true) else (garboardlaw01_NaturalUndoes.j2 kj14 a0 a1 ((bt605.1 == 0) != (a0.toList == a1.toList)))) else (garboardlaw01_NaturalUndoes.j2 kj14 a0 a1 true)) else (garboardlaw01_NaturalUndoes.j2 kj14 a0 a1 true)) else (garboardlaw01_NaturalUndoes.j2 kj14 a0 a1 true)) else (garboardlaw01_NaturalUndoes.j2 kj14 a0 a1 true))))) = some r:=H
       have A20:=Aside0.mk A200
       clear A200
       replace H:=Option.bind_eq_some_iff.mp H
       obtain ⟨⟨t603,t604⟩,A210,H⟩:=H
       replace H:((natural_Compare.f kj14 a0 a1).bind fun bt605=>((natural_Sub.f a0 a1).bind fun bt607=>(if t602 = 0 then (if t604 = 0 then (if bt605.2 = 0 then (if t603.toList = a0.toList then (if ((bt607.2 == 0) != (decide (bt605.1 ≥ 0))) = true then (garboardlaw01_NaturalUndoes.j2 kj14 a0 a1 true) else (garboardlaw01_NaturalUndoes.j2 kj14 a0 a1 ((bt605.1 == 0) != (a0.toList == a1.toList)))) else (garboardlaw01_NaturalUndoes.j2 kj14 a0 a1 true)) else (garboardlaw01_NaturalUndoes.j2 kj14 a0 a1 true)) else (garboardlaw01_NaturalUndoes.j2 kj14 a0 a1 true)) else (garboardlaw01_NaturalUndoes.j2 kj14 a0 a1 true)))) = some r:=H
       have A21:=Aside0.mk A210
       clear A210
       replace H:=Option.bind_eq_some_iff.mp H
       obtain ⟨⟨t605,t606⟩,A220,H⟩:=H
       replace H:((natural_Sub.f a0 a1).bind fun bt607=>(if t602 = 0 then (if t604 = 0 then (if t606 = 0 then (if t603.toList = a0.toList then (if ((bt607.2 == 0) != (decide (t605 ≥ 0))) = true then (garboardlaw01_NaturalUndoes.j2 kj14 a0 a1 true) else (garboardlaw01_NaturalUndoes.j2 kj14 a0 a1 ((t605 == 0) != (a0.toList == a1.toList)))) else (garboardlaw01_NaturalUndoes.j2 kj14 a0 a1 true)) else (garboardlaw01_NaturalUndoes.j2 kj14 a0 a1 true)) else (garboardlaw01_NaturalUndoes.j2 kj14 a0 a1 true)) else (garboardlaw01_NaturalUndoes.j2 kj14 a0 a1 true))) = some r:=H
       have A22:=Aside0.mk A220
       clear A220
       replace H:=Option.bind_eq_some_iff.mp H
       obtain ⟨⟨t607,t608⟩,A230,H⟩:=H
       replace H:(if t602 = 0 then (if t604 = 0 then (if t606 = 0 then (if t603.toList = a0.toList then (if ((t608 == 0) != (decide (t605 ≥ 0))) = true then (garboardlaw01_NaturalUndoes.j2 kj14 a0 a1 true) else (garboardlaw01_NaturalUndoes.j2 kj14 a0 a1 ((t605 == 0) != (a0.toList == a1.toList)))) else (garboardlaw01_NaturalUndoes.j2 kj14 a0 a1 true)) else (garboardlaw01_NaturalUndoes.j2 kj14 a0 a1 true)) else (garboardlaw01_NaturalUndoes.j2 kj14 a0 a1 true)) else (garboardlaw01_NaturalUndoes.j2 kj14 a0 a1 true)) = some r:=H
       have A23:=Aside0.mk A230
       clear A230
       have HC24:=Aside0.mk H
       clear H
       go_upto_region 9 with (first|((with_reducible refine gate_callee (f:=17) rfl ?_);refine goesL_ (some 42) rfl rfl Tryd.func17 (by kernel_rfl) rfl #[.string a0,.string a1] rfl (by (try simp only [List.map_toArray,List.map_cons,List.map_nil]);first|done|rfl|(simp only [List.length_drop,List.length_take];rfl)) ?_;(with_reducible refine (natural_Add.calls a0 a1 t601 t602 _ ?side1 A20.out).mono ?_);(case side1=>exact HLW.out.below (by repeat (first|(with_reducible first|exact HB.out|apply below_alloc|apply pw_below_drewN|apply below_drew1)|exact HB.out)));rintro e w25 ⟨rfl,hb⟩;refine ⟨_,rfl,?_⟩;have n0_:=Aside0.mk (below_step (by repeat (first|(with_reducible first|exact HB.out|apply below_alloc|apply pw_below_drewN|apply below_drew1)|exact HB.out)) hb);clear HB;have HB:=n0_;clear n0_;(try clear hb);(try clear hb2);(try clear hk);(try clear hi))|((with_reducible refine gate_callee (f:=19) rfl ?_);refine goesL_ (some 48) rfl rfl Tryd.func19 (by kernel_rfl) rfl #[.string t601,.string a1] rfl (by (try simp only [List.map_toArray,List.map_cons,List.map_nil]);first|done|rfl|(simp only [List.length_drop,List.length_take];rfl)) ?_;(with_reducible refine (natural_Sub.calls t601 a1 t603 t604 _ ?side1 A21.out).mono ?_);(case side1=>exact HLW.out.below (by repeat (first|(with_reducible first|exact HB.out|apply below_alloc|apply pw_below_drewN|apply below_drew1)|exact HB.out)));rintro e w26 ⟨rfl,hb⟩;refine ⟨_,rfl,?_⟩;have n0_:=Aside0.mk (below_step (by repeat (first|(with_reducible first|exact HB.out|apply below_alloc|apply pw_below_drewN|apply below_drew1)|exact HB.out)) hb);clear HB;have HB:=n0_;clear n0_;(try clear hb);(try clear hb2);(try clear hk);(try clear hi))|((with_reducible refine gate_callee (f:=13) rfl ?_);refine goesL_ (some 54) rfl rfl Tryd.func13 (by kernel_rfl) rfl #[.string a0,.string a1] rfl (by (try simp only [List.map_toArray,List.map_cons,List.map_nil]);first|done|rfl|(simp only [List.length_drop,List.length_take];rfl)) ?_;(with_reducible refine (natural_Compare.calls kj14 a0 a1 t605 t606 _ A22.out).mono ?_);rintro e w27 ⟨rfl,hb⟩;refine ⟨_,rfl,?_⟩;have n0_:=Aside0.mk (below_step (by repeat (first|(with_reducible first|exact HB.out|apply below_alloc|apply pw_below_drewN|apply below_drew1)|exact HB.out)) hb);clear HB;have HB:=n0_;clear n0_;(try clear hb);(try clear hb2);(try clear hk);(try clear hi))|((with_reducible refine gate_callee (f:=19) rfl ?_);refine goesL_ (some 60) rfl rfl Tryd.func19 (by kernel_rfl) rfl #[.string a0,.string a1] rfl (by (try simp only [List.map_toArray,List.map_cons,List.map_nil]);first|done|rfl|(simp only [List.length_drop,List.length_take];rfl)) ?_;(with_reducible refine (natural_Sub.calls a0 a1 t607 t608 _ ?side1 A23.out).mono ?_);(case side1=>exact HLW.out.below (by repeat (first|(with_reducible first|exact HB.out|apply below_alloc|apply pw_below_drewN|apply below_drew1)|exact HB.out)));rintro e w28 ⟨rfl,hb⟩;refine ⟨_,rfl,?_⟩;have n0_:=Aside0.mk (below_step (by repeat (first|(with_reducible first|exact HB.out|apply below_alloc|apply pw_below_drewN|apply below_drew1)|exact HB.out)) hb);clear HB;have HB:=n0_;clear n0_;(try clear hb);(try clear hb2);(try clear hk);(try clear hi)))
       (try simp only [Act.put,List.setIfInBounds_toArray,List.set_cons_zero,List.set_cons_succ])
       go_cut [92] (fun v92 wc=>∃ (kq:Nat) (x92_23:Bool),v92 = .bool x92_23∧Aside0 (garboardlaw01_NaturalUndoes.j2 kq a0 a1 x92_23 = some r)∧Aside0 (kq≤kj14)∧Aside0 (Below w.heap.size w wc))
       case first =>
        have H:=HC24.out
        clear HC24
        by_cases c29:t602 = 0
        ·rw [if_pos c29] at H
         have c29b0:(t602 == 0) = true:=beq_iff_eq.mpr c29
         have c29b1:(t602 != 0) = false:=bne_eq_false_iff_eq.mpr c29
         clear c29
         (first|rw [c29b0]|(simp only [i64_w,i32_w];rw [c29b0])|skip)
         by_cases c30:t604 = 0
         ·rw [if_pos c30] at H
          have c30b0:(t604 == 0) = true:=beq_iff_eq.mpr c30
          have c30b1:(t604 != 0) = false:=bne_eq_false_iff_eq.mpr c30
          clear c30
          by_cases c31:t606 = 0
          ·rw [if_pos c31] at H
           have c31b0:(t606 == 0) = true:=beq_iff_eq.mpr c31
           have c31b1:(t606 != 0) = false:=bne_eq_false_iff_eq.mpr c31
           clear c31
           by_cases c32:t603.toList = a0.toList
           ·rw [if_pos c32] at H
            have c32b0:(t603.toList == a0.toList) = true:=beq_iff_eq.mpr c32
            have c32b1:(t603.toList != a0.toList) = false:=bne_eq_false_iff_eq.mpr c32
            clear c32
            by_cases c33:((t608 == 0) != (decide (t605 ≥ 0))) = true
            ·rw [if_pos c33] at H
             have c33b0:((t608 == 0) != (decide (t605 ≥ 0))) = true:=c33
             (try (have c33b1:decide ((t608 == 0) = (decide (t605 ≥ 0))) = false:=by simpa using c33))
             (try (have c33b2:((t608 == 0) == (decide (t605 ≥ 0))) = false:=by simpa using c33))
             (try (have c33b3:¬ ((t608 == 0) = (decide (t605 ≥ 0))):=by simpa using c33))
             clear c33
             have H':=Aside0.mk H
             clear H
             go_wp2
             go_meet
             case rel=>exact ⟨_,(true),(by first|rfl|(simp;done)|(simp [*];done)),H',⟨by have:=HJ2.out;have:=HJ14.out;first|omega|exact Nat.le_refl _⟩,⟨by repeat (first|(with_reducible first|exact HB.out|apply below_alloc|apply pw_below_drewN|apply below_drew1)|exact HB.out)⟩⟩
            ·rw [if_neg c33] at H
             have c33b0:((t608 == 0) != (decide (t605 ≥ 0))) = false:=by simpa using c33
             (try (have c33b1:decide ((t608 == 0) = (decide (t605 ≥ 0))) = true:=by simpa using c33))
             (try (have c33b2:((t608 == 0) == (decide (t605 ≥ 0))) = true:=by simpa using c33))
             clear c33
             have H':=Aside0.mk H
             clear H
             go_wp2
             go_meet
             case rel=>exact ⟨_,(((t605 == 0) != (a0.toList == a1.toList))),(by first|rfl|(simp;done)|(simp [*];done)),H',⟨by have:=HJ2.out;have:=HJ14.out;first|omega|exact Nat.le_refl _⟩,⟨by repeat (first|(with_reducible first|exact HB.out|apply below_alloc|apply pw_below_drewN|apply below_drew1)|exact HB.out)⟩⟩
           ·rw [if_neg c32] at H
            have c32b0:(t603.toList == a0.toList) = false:=beq_eq_false_iff_ne.mpr c32
            have c32b1:(t603.toList != a0.toList) = true:=bne_iff_ne.mpr c32
            have H':=Aside0.mk H
            clear H
            go_wp2
            go_meet
            case rel=>exact ⟨_,(true),(by first|rfl|(simp;done)|(simp [*];done)),H',⟨by have:=HJ2.out;have:=HJ14.out;first|omega|exact Nat.le_refl _⟩,⟨by repeat (first|(with_reducible first|exact HB.out|apply below_alloc|apply pw_below_drewN|apply below_drew1)|exact HB.out)⟩⟩
          ·rw [if_neg c31] at H
           have c31b0:(t606 == 0) = false:=beq_eq_false_iff_ne.mpr c31
           have c31b1:(t606 != 0) = true:=bne_iff_ne.mpr c31
           have H':=Aside0.mk H
           clear H
           go_wp2
           go_meet
           case rel=>exact ⟨_,(true),(by first|rfl|(simp;done)|(simp [*];done)),H',⟨by have:=HJ2.out;have:=HJ14.out;first|omega|exact Nat.le_refl _⟩,⟨by repeat (first|(with_reducible first|exact HB.out|apply below_alloc|apply pw_below_drewN|apply below_drew1)|exact HB.out)⟩⟩
         ·rw [if_neg c30] at H
          have c30b0:(t604 == 0) = false:=beq_eq_false_iff_ne.mpr c30
          have c30b1:(t604 != 0) = true:=bne_iff_ne.mpr c30
          have H':=Aside0.mk H
          clear H
          go_wp2
          go_meet
          case rel=>exact ⟨_,(true),(by first|rfl|(simp;done)|(simp [*];done)),H',⟨by have:=HJ2.out;have:=HJ14.out;first|omega|exact Nat.le_refl _⟩,⟨by repeat (first|(with_reducible first|exact HB.out|apply below_alloc|apply pw_below_drewN|apply below_drew1)|exact HB.out)⟩⟩
        ·rw [if_neg c29] at H
         have c29b0:(t602 == 0) = false:=beq_eq_false_iff_ne.mpr c29
         have c29b1:(t602 != 0) = true:=bne_iff_ne.mpr c29
         (first|rw [c29b0]|(simp only [i64_w,i32_w];rw [c29b0])|skip)
         have H':=Aside0.mk H
         clear H
         go_wp2
         go_meet
         case rel=>exact ⟨_,(true),(by first|rfl|(simp;done)|(simp [*];done)),H',⟨by have:=HJ2.out;have:=HJ14.out;first|omega|exact Nat.le_refl _⟩,⟨by repeat (first|(with_reducible first|exact HB.out|apply below_alloc|apply pw_below_drewN|apply below_drew1)|exact HB.out)⟩⟩
       case rest =>
        clear HC24
        try clear c1
        try clear c2
        try clear p2
        try clear c3
        try clear c5
        try clear c8
        try clear c11
        try clear c12
        try clear c13
        try clear c15
        try clear c17
        try clear c19
        try clear c29
        try clear c29b0
        try clear c29b1
        try clear c30
        try clear c30b0
        try clear c30b1
        try clear c31
        try clear c31b0
        try clear c31b1
        try clear c32
        try clear c32b0
        try clear c32b1
        try clear c33
        try clear c33b0
        try clear c33b1
        try clear c33b2
        try clear p2
        obtain ⟨kq,x92_23,rfl,HA,HJ23,HB⟩:=hcut
        cases kq with
        | zero=>exact absurd HA.out (by simp [garboardlaw01_NaturalUndoes.j2])
        | succ kj23 =>
         have H:=HA.out
         clear HA
         simp only [garboardlaw01_NaturalUndoes.j2] at H
         by_cases c34:x92_23 = true
         ·subst c34
          have H1:(some false) = some r:=by rw [if_pos rfl] at H;exact H
          clear H
          have H:=H1
          clear H1
          obtain rfl:=Option.some.inj H
          go_wp2
          go_ret
          exact ⟨by first|rfl|(simp [errW_none,errW_some]<;>rfl)|(simp [*,errW_none,errW_some]<;>rfl),by repeat (first|(with_reducible first|exact HB.out|apply below_alloc|apply pw_below_drewN|apply below_drew1)|exact HB.out)⟩
         ·replace c34:=Bool.eq_false_iff.mpr c34
          subst c34
          have H1:((natural_DivMod.f kj23 a0 a1).bind fun bt609=>(if a1.toList = ([48]:List UInt8) then (if bt609.2.2 = 16 then (if bt609.1.toList = ([]:List UInt8) then (some (bt609.2.1.toList == ([]:List UInt8))) else (some false)) else (some false)) else ((natural_Mul.f bt609.1 a1).bind fun bt612=>((natural_Add.f bt612.1 bt609.2.1).bind fun bt614=>((natural_Compare.f kj23 bt609.2.1 a1).bind fun bt616=>(if bt609.2.2 = 0 then (if bt612.2 = 0 then (if bt614.2 = 0 then (if bt616.2 = 0 then (if bt614.1.toList = a0.toList then (some (bt616.1 == (-1))) else (some false)) else (some false)) else (some false)) else (some false)) else (some false))))))) = some r:=by rw [if_neg (show ¬ (false = true) by decide)] at H;exact H
          clear H
          have H:=H1
          clear H1
          replace H:=Option.bind_eq_some_iff.mp H
          obtain ⟨⟨t609,t610,t611⟩,A350,H⟩:=H
          replace H:(if a1.toList = ([48]:List UInt8) then (if t611 = 16 then (if t609.toList = ([]:List UInt8) then (some (t610.toList == ([]:List UInt8))) else (some false)) else (some false)) else ((natural_Mul.f t609 a1).bind fun bt612=>((natural_Add.f bt612.1 t610).bind fun bt614=>((natural_Compare.f kj23 t610 a1).bind fun bt616=>(if t611 = 0 then (if bt612.2 = 0 then (if bt614.2 = 0 then (if bt616.2 = 0 then (if bt614.1.toList = a0.toList then (some (bt616.1 == (-1))) else (some false)) else (some false)) else (some false)) else (some false)) else (some false)))))) = some r:=H
          have A35:=Aside0.mk A350
          clear A350
          by_cases c36:a1.toList = ([48]:List UInt8)
          ·rw [if_pos c36] at H
           have c36b0:(a1.toList == ([48]:List UInt8)) = true:=beq_iff_eq.mpr c36
           have c36b1:(a1.toList != ([48]:List UInt8)) = false:=bne_eq_false_iff_eq.mpr c36
           clear c36
           by_cases c37:t611 = 16
           ·rw [if_pos c37] at H
            have c37b0:(t611 == 16) = true:=beq_iff_eq.mpr c37
            have c37b1:(t611 != 16) = false:=bne_eq_false_iff_eq.mpr c37
            clear c37
            by_cases c38:t609.toList = ([]:List UInt8)
            ·rw [if_pos c38] at H
             have c38b0:(t609.toList == ([]:List UInt8)) = true:=beq_iff_eq.mpr c38
             have c38b1:(t609.toList != ([]:List UInt8)) = false:=bne_eq_false_iff_eq.mpr c38
             clear c38
             obtain rfl:=Option.some.inj H
             go_wp2_with (first|((with_reducible refine gate_callee (f:=23) rfl ?_);refine goesL_ (some 96) rfl rfl Tryd.func23 (by kernel_rfl) rfl #[.string a0,.string a1] rfl (by (try simp only [List.map_toArray,List.map_cons,List.map_nil]);first|done|rfl|(simp only [List.length_drop,List.length_take];rfl)) ?_;(with_reducible refine (natural_DivMod.calls kj23 a0 a1 t609 t610 t611 _ ?side1 A35.out).mono ?_);(case side1=>exact HLW.out.below (by repeat (first|(with_reducible first|exact HB.out|apply below_alloc|apply pw_below_drewN|apply below_drew1)|exact HB.out)));rintro e w39 ⟨rfl,hb⟩;refine ⟨_,rfl,?_⟩;have n0_:=Aside0.mk (below_step (by repeat (first|(with_reducible first|exact HB.out|apply below_alloc|apply pw_below_drewN|apply below_drew1)|exact HB.out)) hb);clear HB;have HB:=n0_;clear n0_;(try clear hb);(try clear hb2);(try clear hk);(try clear hi)))
             go_ret
             exact ⟨by first|rfl|(simp [errW_none,errW_some]<;>rfl)|(simp [*,errW_none,errW_some]<;>rfl),by repeat (first|(with_reducible first|exact HB.out|apply below_alloc|apply pw_below_drewN|apply below_drew1)|exact HB.out)⟩
            ·rw [if_neg c38] at H
             have c38b0:(t609.toList == ([]:List UInt8)) = false:=beq_eq_false_iff_ne.mpr c38
             have c38b1:(t609.toList != ([]:List UInt8)) = true:=bne_iff_ne.mpr c38
             obtain rfl:=Option.some.inj H
             go_wp2_with (first|((with_reducible refine gate_callee (f:=23) rfl ?_);refine goesL_ (some 96) rfl rfl Tryd.func23 (by kernel_rfl) rfl #[.string a0,.string a1] rfl (by (try simp only [List.map_toArray,List.map_cons,List.map_nil]);first|done|rfl|(simp only [List.length_drop,List.length_take];rfl)) ?_;(with_reducible refine (natural_DivMod.calls kj23 a0 a1 t609 t610 t611 _ ?side1 A35.out).mono ?_);(case side1=>exact HLW.out.below (by repeat (first|(with_reducible first|exact HB.out|apply below_alloc|apply pw_below_drewN|apply below_drew1)|exact HB.out)));rintro e w40 ⟨rfl,hb⟩;refine ⟨_,rfl,?_⟩;have n0_:=Aside0.mk (below_step (by repeat (first|(with_reducible first|exact HB.out|apply below_alloc|apply pw_below_drewN|apply below_drew1)|exact HB.out)) hb);clear HB;have HB:=n0_;clear n0_;(try clear hb);(try clear hb2);(try clear hk);(try clear hi)))
             go_ret
             exact ⟨by first|rfl|(simp [errW_none,errW_some]<;>rfl)|(simp [*,errW_none,errW_some]<;>rfl),by repeat (first|(with_reducible first|exact HB.out|apply below_alloc|apply pw_below_drewN|apply below_drew1)|exact HB.out)⟩
           ·rw [if_neg c37] at H
            have c37b0:(t611 == 16) = false:=beq_eq_false_iff_ne.mpr c37
            have c37b1:(t611 != 16) = true:=bne_iff_ne.mpr c37
            obtain rfl:=Option.some.inj H
            go_wp2_with (first|((with_reducible refine gate_callee (f:=23) rfl ?_);refine goesL_ (some 96) rfl rfl Tryd.func23 (by kernel_rfl) rfl #[.string a0,.string a1] rfl (by (try simp only [List.map_toArray,List.map_cons,List.map_nil]);first|done|rfl|(simp only [List.length_drop,List.length_take];rfl)) ?_;(with_reducible refine (natural_DivMod.calls kj23 a0 a1 t609 t610 t611 _ ?side1 A35.out).mono ?_);(case side1=>exact HLW.out.below (by repeat (first|(with_reducible first|exact HB.out|apply below_alloc|apply pw_below_drewN|apply below_drew1)|exact HB.out)));rintro e w41 ⟨rfl,hb⟩;refine ⟨_,rfl,?_⟩;have n0_:=Aside0.mk (below_step (by repeat (first|(with_reducible first|exact HB.out|apply below_alloc|apply pw_below_drewN|apply below_drew1)|exact HB.out)) hb);clear HB;have HB:=n0_;clear n0_;(try clear hb);(try clear hb2);(try clear hk);(try clear hi)))
            go_ret
            exact ⟨by first|rfl|(simp [errW_none,errW_some]<;>rfl)|(simp [*,errW_none,errW_some]<;>rfl),by repeat (first|(with_reducible first|exact HB.out|apply below_alloc|apply pw_below_drewN|apply below_drew1)|exact HB.out)⟩
          ·rw [if_neg c36] at H
           have c36b0:(a1.toList == ([48]:List UInt8)) = false:=beq_eq_false_iff_ne.mpr c36
           have c36b1:(a1.toList != ([48]:List UInt8)) = true:=bne_iff_ne.mpr c36
           replace H:=Option.bind_eq_some_iff.mp H
           obtain ⟨⟨t612,t613⟩,A420,H⟩:=H
           replace H:((natural_Add.f t612 t610).bind fun bt614=>((natural_Compare.f kj23 t610 a1).bind fun bt616=>(if t611 = 0 then (if t613 = 0 then (if bt614.2 = 0 then (if bt616.2 = 0 then (if bt614.1.toList = a0.toList then (some (bt616.1 == (-1))) else (some false)) else (some false)) else (some false)) else (some false)) else (some false)))) = some r:=H
           have A42:=Aside0.mk A420
           clear A420
           replace H:=Option.bind_eq_some_iff.mp H
           obtain ⟨⟨t614,t615⟩,A430,H⟩:=H
           replace H:((natural_Compare.f kj23 t610 a1).bind fun bt616=>(if t611 = 0 then (if t613 = 0 then (if t615 = 0 then (if bt616.2 = 0 then (if t614.toList = a0.toList then (some (bt616.1 == (-1))) else (some false)) else (some false)) else (some false)) else (some false)) else (some false))) = some r:=H
           have A43:=Aside0.mk A430
           clear A430
           replace H:=Option.bind_eq_some_iff.mp H
           obtain ⟨⟨t616,t617⟩,A440,H⟩:=H
           replace H:(if t611 = 0 then (if t613 = 0 then (if t615 = 0 then (if t617 = 0 then (if t614.toList = a0.toList then (some (t616 == (-1))) else (some false)) else (some false)) else (some false)) else (some false)) else (some false)) = some r:=H
           have A44:=Aside0.mk A440
           clear A440
           by_cases c45:t611 = 0
           ·rw [if_pos c45] at H
            have c45b0:(t611 == 0) = true:=beq_iff_eq.mpr c45
            have c45b1:(t611 != 0) = false:=bne_eq_false_iff_eq.mpr c45
            clear c45
            by_cases c46:t613 = 0
            ·rw [if_pos c46] at H
             have c46b0:(t613 == 0) = true:=beq_iff_eq.mpr c46
             have c46b1:(t613 != 0) = false:=bne_eq_false_iff_eq.mpr c46
             clear c46
             by_cases c47:t615 = 0
             ·rw [if_pos c47] at H
              have c47b0:(t615 == 0) = true:=beq_iff_eq.mpr c47
              have c47b1:(t615 != 0) = false:=bne_eq_false_iff_eq.mpr c47
              clear c47
              by_cases c48:t617 = 0
              ·rw [if_pos c48] at H
               have c48b0:(t617 == 0) = true:=beq_iff_eq.mpr c48
               have c48b1:(t617 != 0) = false:=bne_eq_false_iff_eq.mpr c48
               clear c48
               by_cases c49:t614.toList = a0.toList
               ·rw [if_pos c49] at H
                have c49b0:(t614.toList == a0.toList) = true:=beq_iff_eq.mpr c49
                have c49b1:(t614.toList != a0.toList) = false:=bne_eq_false_iff_eq.mpr c49
                clear c49
                obtain rfl:=Option.some.inj H
                go_wp2_with (first|((with_reducible refine gate_callee (f:=23) rfl ?_);refine goesL_ (some 96) rfl rfl Tryd.func23 (by kernel_rfl) rfl #[.string a0,.string a1] rfl (by (try simp only [List.map_toArray,List.map_cons,List.map_nil]);first|done|rfl|(simp only [List.length_drop,List.length_take];rfl)) ?_;(with_reducible refine (natural_DivMod.calls kj23 a0 a1 t609 t610 t611 _ ?side1 A35.out).mono ?_);(case side1=>exact HLW.out.below (by repeat (first|(with_reducible first|exact HB.out|apply below_alloc|apply pw_below_drewN|apply below_drew1)|exact HB.out)));rintro e w50 ⟨rfl,hb⟩;refine ⟨_,rfl,?_⟩;have n0_:=Aside0.mk (below_step (by repeat (first|(with_reducible first|exact HB.out|apply below_alloc|apply pw_below_drewN|apply below_drew1)|exact HB.out)) hb);clear HB;have HB:=n0_;clear n0_;(try clear hb);(try clear hb2);(try clear hk);(try clear hi))|((with_reducible refine gate_callee (f:=21) rfl ?_);refine goesL_ (some 115) rfl rfl Tryd.func21 (by kernel_rfl) rfl #[.string t609,.string a1] rfl (by (try simp only [List.map_toArray,List.map_cons,List.map_nil]);first|done|rfl|(simp only [List.length_drop,List.length_take];rfl)) ?_;(with_reducible refine (natural_Mul.calls t609 a1 t612 t613 _ ?side1 A42.out).mono ?_);(case side1=>exact HLW.out.below (by repeat (first|(with_reducible first|exact HB.out|apply below_alloc|apply pw_below_drewN|apply below_drew1)|exact HB.out)));rintro e w51 ⟨rfl,hb⟩;refine ⟨_,rfl,?_⟩;have n0_:=Aside0.mk (below_step (by repeat (first|(with_reducible first|exact HB.out|apply below_alloc|apply pw_below_drewN|apply below_drew1)|exact HB.out)) hb);clear HB;have HB:=n0_;clear n0_;(try clear hb);(try clear hb2);(try clear hk);(try clear hi))|((with_reducible refine gate_callee (f:=17) rfl ?_);refine goesL_ (some 121) rfl rfl Tryd.func17 (by kernel_rfl) rfl #[.string t612,.string t610] rfl (by (try simp only [List.map_toArray,List.map_cons,List.map_nil]);first|done|rfl|(simp only [List.length_drop,List.length_take];rfl)) ?_;(with_reducible refine (natural_Add.calls t612 t610 t614 t615 _ ?side1 A43.out).mono ?_);(case side1=>exact HLW.out.below (by repeat (first|(with_reducible first|exact HB.out|apply below_alloc|apply pw_below_drewN|apply below_drew1)|exact HB.out)));rintro e w52 ⟨rfl,hb⟩;refine ⟨_,rfl,?_⟩;have n0_:=Aside0.mk (below_step (by repeat (first|(with_reducible first|exact HB.out|apply below_alloc|apply pw_below_drewN|apply below_drew1)|exact HB.out)) hb);clear HB;have HB:=n0_;clear n0_;(try clear hb);(try clear hb2);(try clear hk);(try clear hi))|((with_reducible refine gate_callee (f:=13) rfl ?_);refine goesL_ (some 127) rfl rfl Tryd.func13 (by kernel_rfl) rfl #[.string t610,.string a1] rfl (by (try simp only [List.map_toArray,List.map_cons,List.map_nil]);first|done|rfl|(simp only [List.length_drop,List.length_take];rfl)) ?_;(with_reducible refine (natural_Compare.calls kj23 t610 a1 t616 t617 _ A44.out).mono ?_);rintro e w53 ⟨rfl,hb⟩;refine ⟨_,rfl,?_⟩;have n0_:=Aside0.mk (below_step (by repeat (first|(with_reducible first|exact HB.out|apply below_alloc|apply pw_below_drewN|apply below_drew1)|exact HB.out)) hb);clear HB;have HB:=n0_;clear n0_;(try clear hb);(try clear hb2);(try clear hk);(try clear hi)))
                go_ret
                exact ⟨by first|rfl|(simp [errW_none,errW_some]<;>rfl)|(simp [*,errW_none,errW_some]<;>rfl),by repeat (first|(with_reducible first|exact HB.out|apply below_alloc|apply pw_below_drewN|apply below_drew1)|exact HB.out)⟩
               ·rw [if_neg c49] at H
                have c49b0:(t614.toList == a0.toList) = false:=beq_eq_false_iff_ne.mpr c49
                have c49b1:(t614.toList != a0.toList) = true:=bne_iff_ne.mpr c49
                obtain rfl:=Option.some.inj H
                go_wp2_with (first|((with_reducible refine gate_callee (f:=23) rfl ?_);refine goesL_ (some 96) rfl rfl Tryd.func23 (by kernel_rfl) rfl #[.string a0,.string a1] rfl (by (try simp only [List.map_toArray,List.map_cons,List.map_nil]);first|done|rfl|(simp only [List.length_drop,List.length_take];rfl)) ?_;(with_reducible refine (natural_DivMod.calls kj23 a0 a1 t609 t610 t611 _ ?side1 A35.out).mono ?_);(case side1=>exact HLW.out.below (by repeat (first|(with_reducible first|exact HB.out|apply below_alloc|apply pw_below_drewN|apply below_drew1)|exact HB.out)));rintro e w54 ⟨rfl,hb⟩;refine ⟨_,rfl,?_⟩;have n0_:=Aside0.mk (below_step (by repeat (first|(with_reducible first|exact HB.out|apply below_alloc|apply pw_below_drewN|apply below_drew1)|exact HB.out)) hb);clear HB;have HB:=n0_;clear n0_;(try clear hb);(try clear hb2);(try clear hk);(try clear hi))|((with_reducible refine gate_callee (f:=21) rfl ?_);refine goesL_ (some 115) rfl rfl Tryd.func21 (by kernel_rfl) rfl #[.string t609,.string a1] rfl (by (try simp only [List.map_toArray,List.map_cons,List.map_nil]);first|done|rfl|(simp only [List.length_drop,List.length_take];rfl)) ?_;(with_reducible refine (natural_Mul.calls t609 a1 t612 t613 _ ?side1 A42.out).mono ?_);(case side1=>exact HLW.out.below (by repeat (first|(with_reducible first|exact HB.out|apply below_alloc|apply pw_below_drewN|apply below_drew1)|exact HB.out)));rintro e w55 ⟨rfl,hb⟩;refine ⟨_,rfl,?_⟩;have n0_:=Aside0.mk (below_step (by repeat (first|(with_reducible first|exact HB.out|apply below_alloc|apply pw_below_drewN|apply below_drew1)|exact HB.out)) hb);clear HB;have HB:=n0_;clear n0_;(try clear hb);(try clear hb2);(try clear hk);(try clear hi))|((with_reducible refine gate_callee (f:=17) rfl ?_);refine goesL_ (some 121) rfl rfl Tryd.func17 (by kernel_rfl) rfl #[.string t612,.string t610] rfl (by (try simp only [List.map_toArray,List.map_cons,List.map_nil]);first|done|rfl|(simp only [List.length_drop,List.length_take];rfl)) ?_;(with_reducible refine (natural_Add.calls t612 t610 t614 t615 _ ?side1 A43.out).mono ?_);(case side1=>exact HLW.out.below (by repeat (first|(with_reducible first|exact HB.out|apply below_alloc|apply pw_below_drewN|apply below_drew1)|exact HB.out)));rintro e w56 ⟨rfl,hb⟩;refine ⟨_,rfl,?_⟩;have n0_:=Aside0.mk (below_step (by repeat (first|(with_reducible first|exact HB.out|apply below_alloc|apply pw_below_drewN|apply below_drew1)|exact HB.out)) hb);clear HB;have HB:=n0_;clear n0_;(try clear hb);(try clear hb2);(try clear hk);(try clear hi))|((with_reducible refine gate_callee (f:=13) rfl ?_);refine goesL_ (some 127) rfl rfl Tryd.func13 (by kernel_rfl) rfl #[.string t610,.string a1] rfl (by (try simp only [List.map_toArray,List.map_cons,List.map_nil]);first|done|rfl|(simp only [List.length_drop,List.length_take];rfl)) ?_;(with_reducible refine (natural_Compare.calls kj23 t610 a1 t616 t617 _ A44.out).mono ?_);rintro e w57 ⟨rfl,hb⟩;refine ⟨_,rfl,?_⟩;have n0_:=Aside0.mk (below_step (by repeat (first|(with_reducible first|exact HB.out|apply below_alloc|apply pw_below_drewN|apply below_drew1)|exact HB.out)) hb);clear HB;have HB:=n0_;clear n0_;(try clear hb);(try clear hb2);(try clear hk);(try clear hi)))
                go_ret
                exact ⟨by first|rfl|(simp [errW_none,errW_some]<;>rfl)|(simp [*,errW_none,errW_some]<;>rfl),by repeat (first|(with_reducible first|exact HB.out|apply below_alloc|apply pw_below_drewN|apply below_drew1)|exact HB.out)⟩
              ·rw [if_neg c48] at H
               have c48b0:(t617 == 0) = false:=beq_eq_false_iff_ne.mpr c48
               have c48b1:(t617 != 0) = true:=bne_iff_ne.mpr c48
               obtain rfl:=Option.some.inj H
               go_wp2_with (first|((with_reducible refine gate_callee (f:=23) rfl ?_);refine goesL_ (some 96) rfl rfl Tryd.func23 (by kernel_rfl) rfl #[.string a0,.string a1] rfl (by (try simp only [List.map_toArray,List.map_cons,List.map_nil]);first|done|rfl|(simp only [List.length_drop,List.length_take];rfl)) ?_;(with_reducible refine (natural_DivMod.calls kj23 a0 a1 t609 t610 t611 _ ?side1 A35.out).mono ?_);(case side1=>exact HLW.out.below (by repeat (first|(with_reducible first|exact HB.out|apply below_alloc|apply pw_below_drewN|apply below_drew1)|exact HB.out)));rintro e w58 ⟨rfl,hb⟩;refine ⟨_,rfl,?_⟩;have n0_:=Aside0.mk (below_step (by repeat (first|(with_reducible first|exact HB.out|apply below_alloc|apply pw_below_drewN|apply below_drew1)|exact HB.out)) hb);clear HB;have HB:=n0_;clear n0_;(try clear hb);(try clear hb2);(try clear hk);(try clear hi))|((with_reducible refine gate_callee (f:=21) rfl ?_);refine goesL_ (some 115) rfl rfl Tryd.func21 (by kernel_rfl) rfl #[.string t609,.string a1] rfl (by (try simp only [List.map_toArray,List.map_cons,List.map_nil]);first|done|rfl|(simp only [List.length_drop,List.length_take];rfl)) ?_;(with_reducible refine (natural_Mul.calls t609 a1 t612 t613 _ ?side1 A42.out).mono ?_);(case side1=>exact HLW.out.below (by repeat (first|(with_reducible first|exact HB.out|apply below_alloc|apply pw_below_drewN|apply below_drew1)|exact HB.out)));rintro e w59 ⟨rfl,hb⟩;refine ⟨_,rfl,?_⟩;have n0_:=Aside0.mk (below_step (by repeat (first|(with_reducible first|exact HB.out|apply below_alloc|apply pw_below_drewN|apply below_drew1)|exact HB.out)) hb);clear HB;have HB:=n0_;clear n0_;(try clear hb);(try clear hb2);(try clear hk);(try clear hi))|((with_reducible refine gate_callee (f:=17) rfl ?_);refine goesL_ (some 121) rfl rfl Tryd.func17 (by kernel_rfl) rfl #[.string t612,.string t610] rfl (by (try simp only [List.map_toArray,List.map_cons,List.map_nil]);first|done|rfl|(simp only [List.length_drop,List.length_take];rfl)) ?_;(with_reducible refine (natural_Add.calls t612 t610 t614 t615 _ ?side1 A43.out).mono ?_);(case side1=>exact HLW.out.below (by repeat (first|(with_reducible first|exact HB.out|apply below_alloc|apply pw_below_drewN|apply below_drew1)|exact HB.out)));rintro e w60 ⟨rfl,hb⟩;refine ⟨_,rfl,?_⟩;have n0_:=Aside0.mk (below_step (by repeat (first|(with_reducible first|exact HB.out|apply below_alloc|apply pw_below_drewN|apply below_drew1)|exact HB.out)) hb);clear HB;have HB:=n0_;clear n0_;(try clear hb);(try clear hb2);(try clear hk);(try clear hi))|((with_reducible refine gate_callee (f:=13) rfl ?_);refine goesL_ (some 127) rfl rfl Tryd.func13 (by kernel_rfl) rfl #[.string t610,.string a1] rfl (by (try simp only [List.map_toArray,List.map_cons,List.map_nil]);first|done|rfl|(simp only [List.length_drop,List.length_take];rfl)) ?_;(with_reducible refine (natural_Compare.calls kj23 t610 a1 t616 t617 _ A44.out).mono ?_);rintro e w61 ⟨rfl,hb⟩;refine ⟨_,rfl,?_⟩;have n0_:=Aside0.mk (below_step (by repeat (first|(with_reducible first|exact HB.out|apply below_alloc|apply pw_below_drewN|apply below_drew1)|exact HB.out)) hb);clear HB;have HB:=n0_;clear n0_;(try clear hb);(try clear hb2);(try clear hk);(try clear hi)))
               go_ret
               exact ⟨by first|rfl|(simp [errW_none,errW_some]<;>rfl)|(simp [*,errW_none,errW_some]<;>rfl),by repeat (first|(with_reducible first|exact HB.out|apply below_alloc|apply pw_below_drewN|apply below_drew1)|exact HB.out)⟩
             ·rw [if_neg c47] at H
              have c47b0:(t615 == 0) = false:=beq_eq_false_iff_ne.mpr c47
              have c47b1:(t615 != 0) = true:=bne_iff_ne.mpr c47
              obtain rfl:=Option.some.inj H
              go_wp2_with (first|((with_reducible refine gate_callee (f:=23) rfl ?_);refine goesL_ (some 96) rfl rfl Tryd.func23 (by kernel_rfl) rfl #[.string a0,.string a1] rfl (by (try simp only [List.map_toArray,List.map_cons,List.map_nil]);first|done|rfl|(simp only [List.length_drop,List.length_take];rfl)) ?_;(with_reducible refine (natural_DivMod.calls kj23 a0 a1 t609 t610 t611 _ ?side1 A35.out).mono ?_);(case side1=>exact HLW.out.below (by repeat (first|(with_reducible first|exact HB.out|apply below_alloc|apply pw_below_drewN|apply below_drew1)|exact HB.out)));rintro e w62 ⟨rfl,hb⟩;refine ⟨_,rfl,?_⟩;have n0_:=Aside0.mk (below_step (by repeat (first|(with_reducible first|exact HB.out|apply below_alloc|apply pw_below_drewN|apply below_drew1)|exact HB.out)) hb);clear HB;have HB:=n0_;clear n0_;(try clear hb);(try clear hb2);(try clear hk);(try clear hi))|((with_reducible refine gate_callee (f:=21) rfl ?_);refine goesL_ (some 115) rfl rfl Tryd.func21 (by kernel_rfl) rfl #[.string t609,.string a1] rfl (by (try simp only [List.map_toArray,List.map_cons,List.map_nil]);first|done|rfl|(simp only [List.length_drop,List.length_take];rfl)) ?_;(with_reducible refine (natural_Mul.calls t609 a1 t612 t613 _ ?side1 A42.out).mono ?_);(case side1=>exact HLW.out.below (by repeat (first|(with_reducible first|exact HB.out|apply below_alloc|apply pw_below_drewN|apply below_drew1)|exact HB.out)));rintro e w63 ⟨rfl,hb⟩;refine ⟨_,rfl,?_⟩;have n0_:=Aside0.mk (below_step (by repeat (first|(with_reducible first|exact HB.out|apply below_alloc|apply pw_below_drewN|apply below_drew1)|exact HB.out)) hb);clear HB;have HB:=n0_;clear n0_;(try clear hb);(try clear hb2);(try clear hk);(try clear hi))|((with_reducible refine gate_callee (f:=17) rfl ?_);refine goesL_ (some 121) rfl rfl Tryd.func17 (by kernel_rfl) rfl #[.string t612,.string t610] rfl (by (try simp only [List.map_toArray,List.map_cons,List.map_nil]);first|done|rfl|(simp only [List.length_drop,List.length_take];rfl)) ?_;(with_reducible refine (natural_Add.calls t612 t610 t614 t615 _ ?side1 A43.out).mono ?_);(case side1=>exact HLW.out.below (by repeat (first|(with_reducible first|exact HB.out|apply below_alloc|apply pw_below_drewN|apply below_drew1)|exact HB.out)));rintro e w64 ⟨rfl,hb⟩;refine ⟨_,rfl,?_⟩;have n0_:=Aside0.mk (below_step (by repeat (first|(with_reducible first|exact HB.out|apply below_alloc|apply pw_below_drewN|apply below_drew1)|exact HB.out)) hb);clear HB;have HB:=n0_;clear n0_;(try clear hb);(try clear hb2);(try clear hk);(try clear hi))|((with_reducible refine gate_callee (f:=13) rfl ?_);refine goesL_ (some 127) rfl rfl Tryd.func13 (by kernel_rfl) rfl #[.string t610,.string a1] rfl (by (try simp only [List.map_toArray,List.map_cons,List.map_nil]);first|done|rfl|(simp only [List.length_drop,List.length_take];rfl)) ?_;(with_reducible refine (natural_Compare.calls kj23 t610 a1 t616 t617 _ A44.out).mono ?_);rintro e w65 ⟨rfl,hb⟩;refine ⟨_,rfl,?_⟩;have n0_:=Aside0.mk (below_step (by repeat (first|(with_reducible first|exact HB.out|apply below_alloc|apply pw_below_drewN|apply below_drew1)|exact HB.out)) hb);clear HB;have HB:=n0_;clear n0_;(try clear hb);(try clear hb2);(try clear hk);(try clear hi)))
              go_ret
              exact ⟨by first|rfl|(simp [errW_none,errW_some]<;>rfl)|(simp [*,errW_none,errW_some]<;>rfl),by repeat (first|(with_reducible first|exact HB.out|apply below_alloc|apply pw_below_drewN|apply below_drew1)|exact HB.out)⟩
            ·rw [if_neg c46] at H
             have c46b0:(t613 == 0) = false:=beq_eq_false_iff_ne.mpr c46
             have c46b1:(t613 != 0) = true:=bne_iff_ne.mpr c46
             obtain rfl:=Option.some.inj H
             go_wp2_with (first|((with_reducible refine gate_callee (f:=23) rfl ?_);refine goesL_ (some 96) rfl rfl Tryd.func23 (by kernel_rfl) rfl #[.string a0,.string a1] rfl (by (try simp only [List.map_toArray,List.map_cons,List.map_nil]);first|done|rfl|(simp only [List.length_drop,List.length_take];rfl)) ?_;(with_reducible refine (natural_DivMod.calls kj23 a0 a1 t609 t610 t611 _ ?side1 A35.out).mono ?_);(case side1=>exact HLW.out.below (by repeat (first|(with_reducible first|exact HB.out|apply below_alloc|apply pw_below_drewN|apply below_drew1)|exact HB.out)));rintro e w66 ⟨rfl,hb⟩;refine ⟨_,rfl,?_⟩;have n0_:=Aside0.mk (below_step (by repeat (first|(with_reducible first|exact HB.out|apply below_alloc|apply pw_below_drewN|apply below_drew1)|exact HB.out)) hb);clear HB;have HB:=n0_;clear n0_;(try clear hb);(try clear hb2);(try clear hk);(try clear hi))|((with_reducible refine gate_callee (f:=21) rfl ?_);refine goesL_ (some 115) rfl rfl Tryd.func21 (by kernel_rfl) rfl #[.string t609,.string a1] rfl (by (try simp only [List.map_toArray,List.map_cons,List.map_nil]);first|done|rfl|(simp only [List.length_drop,List.length_take];rfl)) ?_;(with_reducible refine (natural_Mul.calls t609 a1 t612 t613 _ ?side1 A42.out).mono ?_);(case side1=>exact HLW.out.below (by repeat (first|(with_reducible first|exact HB.out|apply below_alloc|apply pw_below_drewN|apply below_drew1)|exact HB.out)));rintro e w67 ⟨rfl,hb⟩;refine ⟨_,rfl,?_⟩;have n0_:=Aside0.mk (below_step (by repeat (first|(with_reducible first|exact HB.out|apply below_alloc|apply pw_below_drewN|apply below_drew1)|exact HB.out)) hb);clear HB;have HB:=n0_;clear n0_;(try clear hb);(try clear hb2);(try clear hk);(try clear hi))|((with_reducible refine gate_callee (f:=17) rfl ?_);refine goesL_ (some 121) rfl rfl Tryd.func17 (by kernel_rfl) rfl #[.string t612,.string t610] rfl (by (try simp only [List.map_toArray,List.map_cons,List.map_nil]);first|done|rfl|(simp only [List.length_drop,List.length_take];rfl)) ?_;(with_reducible refine (natural_Add.calls t612 t610 t614 t615 _ ?side1 A43.out).mono ?_);(case side1=>exact HLW.out.below (by repeat (first|(with_reducible first|exact HB.out|apply below_alloc|apply pw_below_drewN|apply below_drew1)|exact HB.out)));rintro e w68 ⟨rfl,hb⟩;refine ⟨_,rfl,?_⟩;have n0_:=Aside0.mk (below_step (by repeat (first|(with_reducible first|exact HB.out|apply below_alloc|apply pw_below_drewN|apply below_drew1)|exact HB.out)) hb);clear HB;have HB:=n0_;clear n0_;(try clear hb);(try clear hb2);(try clear hk);(try clear hi))|((with_reducible refine gate_callee (f:=13) rfl ?_);refine goesL_ (some 127) rfl rfl Tryd.func13 (by kernel_rfl) rfl #[.string t610,.string a1] rfl (by (try simp only [List.map_toArray,List.map_cons,List.map_nil]);first|done|rfl|(simp only [List.length_drop,List.length_take];rfl)) ?_;(with_reducible refine (natural_Compare.calls kj23 t610 a1 t616 t617 _ A44.out).mono ?_);rintro e w69 ⟨rfl,hb⟩;refine ⟨_,rfl,?_⟩;have n0_:=Aside0.mk (below_step (by repeat (first|(with_reducible first|exact HB.out|apply below_alloc|apply pw_below_drewN|apply below_drew1)|exact HB.out)) hb);clear HB;have HB:=n0_;clear n0_;(try clear hb);(try clear hb2);(try clear hk);(try clear hi)))
             go_ret
             exact ⟨by first|rfl|(simp [errW_none,errW_some]<;>rfl)|(simp [*,errW_none,errW_some]<;>rfl),by repeat (first|(with_reducible first|exact HB.out|apply below_alloc|apply pw_below_drewN|apply below_drew1)|exact HB.out)⟩
           ·rw [if_neg c45] at H
            have c45b0:(t611 == 0) = false:=beq_eq_false_iff_ne.mpr c45
            have c45b1:(t611 != 0) = true:=bne_iff_ne.mpr c45
            obtain rfl:=Option.some.inj H
            go_wp2_with (first|((with_reducible refine gate_callee (f:=23) rfl ?_);refine goesL_ (some 96) rfl rfl Tryd.func23 (by kernel_rfl) rfl #[.string a0,.string a1] rfl (by (try simp only [List.map_toArray,List.map_cons,List.map_nil]);first|done|rfl|(simp only [List.length_drop,List.length_take];rfl)) ?_;(with_reducible refine (natural_DivMod.calls kj23 a0 a1 t609 t610 t611 _ ?side1 A35.out).mono ?_);(case side1=>exact HLW.out.below (by repeat (first|(with_reducible first|exact HB.out|apply below_alloc|apply pw_below_drewN|apply below_drew1)|exact HB.out)));rintro e w70 ⟨rfl,hb⟩;refine ⟨_,rfl,?_⟩;have n0_:=Aside0.mk (below_step (by repeat (first|(with_reducible first|exact HB.out|apply below_alloc|apply pw_below_drewN|apply below_drew1)|exact HB.out)) hb);clear HB;have HB:=n0_;clear n0_;(try clear hb);(try clear hb2);(try clear hk);(try clear hi))|((with_reducible refine gate_callee (f:=21) rfl ?_);refine goesL_ (some 115) rfl rfl Tryd.func21 (by kernel_rfl) rfl #[.string t609,.string a1] rfl (by (try simp only [List.map_toArray,List.map_cons,List.map_nil]);first|done|rfl|(simp only [List.length_drop,List.length_take];rfl)) ?_;(with_reducible refine (natural_Mul.calls t609 a1 t612 t613 _ ?side1 A42.out).mono ?_);(case side1=>exact HLW.out.below (by repeat (first|(with_reducible first|exact HB.out|apply below_alloc|apply pw_below_drewN|apply below_drew1)|exact HB.out)));rintro e w71 ⟨rfl,hb⟩;refine ⟨_,rfl,?_⟩;have n0_:=Aside0.mk (below_step (by repeat (first|(with_reducible first|exact HB.out|apply below_alloc|apply pw_below_drewN|apply below_drew1)|exact HB.out)) hb);clear HB;have HB:=n0_;clear n0_;(try clear hb);(try clear hb2);(try clear hk);(try clear hi))|((with_reducible refine gate_callee (f:=17) rfl ?_);refine goesL_ (some 121) rfl rfl Tryd.func17 (by kernel_rfl) rfl #[.string t612,.string t610] rfl (by (try simp only [List.map_toArray,List.map_cons,List.map_nil]);first|done|rfl|(simp only [List.length_drop,List.length_take];rfl)) ?_;(with_reducible refine (natural_Add.calls t612 t610 t614 t615 _ ?side1 A43.out).mono ?_);(case side1=>exact HLW.out.below (by repeat (first|(with_reducible first|exact HB.out|apply below_alloc|apply pw_below_drewN|apply below_drew1)|exact HB.out)));rintro e w72 ⟨rfl,hb⟩;refine ⟨_,rfl,?_⟩;have n0_:=Aside0.mk (below_step (by repeat (first|(with_reducible first|exact HB.out|apply below_alloc|apply pw_below_drewN|apply below_drew1)|exact HB.out)) hb);clear HB;have HB:=n0_;clear n0_;(try clear hb);(try clear hb2);(try clear hk);(try clear hi))|((with_reducible refine gate_callee (f:=13) rfl ?_);refine goesL_ (some 127) rfl rfl Tryd.func13 (by kernel_rfl) rfl #[.string t610,.string a1] rfl (by (try simp only [List.map_toArray,List.map_cons,List.map_nil]);first|done|rfl|(simp only [List.length_drop,List.length_take];rfl)) ?_;(with_reducible refine (natural_Compare.calls kj23 t610 a1 t616 t617 _ A44.out).mono ?_);rintro e w73 ⟨rfl,hb⟩;refine ⟨_,rfl,?_⟩;have n0_:=Aside0.mk (below_step (by repeat (first|(with_reducible first|exact HB.out|apply below_alloc|apply pw_below_drewN|apply below_drew1)|exact HB.out)) hb);clear HB;have HB:=n0_;clear n0_;(try clear hb);(try clear hb2);(try clear hk);(try clear hi)))
            go_ret
            exact ⟨by first|rfl|(simp [errW_none,errW_some]<;>rfl)|(simp [*,errW_none,errW_some]<;>rfl),by repeat (first|(with_reducible first|exact HB.out|apply below_alloc|apply pw_below_drewN|apply below_drew1)|exact HB.out)⟩
end Go.Proofs.YtaopmkcghancmaaDoor.Pr
set_option linter.unusedVariables false
set_option linter.unusedSimpArgs false
namespace Go.Proofs.YtaopmkcghancmaaDoor.Pr
open Go.RowKit Go.Lib Go.Proofs.YtaopmkcghancmaaDoorW.PrintWords Go.Proofs.YtaopmkcghancmaaDoorW.PrintLast Go.Proofs.YtaopmkcghancmaaDoorW.PrintMore Go.Proofs.YtaopmkcghancmaaDoor.NatTh
theorem ord_zero (m n:Nat):(ord m n == 0) = ((num m).toList == (num n).toList):=by
 rw [num_beq]
 rcases Nat.lt_trichotomy m n with h|h|h
 ·rw [ord_lt h,decide_eq_false (by omega)];rfl
 ·rw [h,ord_self,decide_eq_true rfl];rfl
 ·rw [ord_gt h,decide_eq_false (by omega)];rfl
theorem sub_ok (m n:Nat):((if m < n then ((⟨#[]⟩:ByteArray),(2:Int)) else (num (m - n),0)).2 == 0) = decide (ord m n ≥ 0):=by
 by_cases h:m < n
 ·rw [if_pos h,ord_lt h];rfl
 ·rw [if_neg h,decide_eq_true ((ord_ge m n).2 (by omega))];rfl
theorem Undoes_j2 (m n:Nat) (hm:Sz 120 m) (hn:Sz 120 n):Ev (fun k=>garboardlaw01_NaturalUndoes.j2 k (num m) (num n) false) true:=by
 have sm:=hm.sh (by omega) (by omega)
 have sn:=hn.sh (by omega) (by omega)
 refine Ev.step (fun k=>by rw [garboardlaw01_NaturalUndoes.j2,if_neg (by simp)]) (Ev.bind (div_e sm sn) ?_)
 by_cases h0:n = 0
 ·rw [if_pos h0]
  refine Ev.congr (fun k=>?_) (Ev.now _)
  rw [if_pos ((is0 n).2 h0),if_pos rfl,if_pos nil_toList,nil_toList]
  rfl
 ·rw [if_neg h0]
  have hq:Sz 120 (m / n):=hm.le (Nat.div_le_self m n)
  have hp:Sz 240 (m / n * n):=hq.mul hn
  have hr:Sz 120 (m % n):=hm.le (Nat.mod_le m n)
  refine Ev.congr (fun k=>if_neg (fun e=>h0 ((is0 n).1 e))) ?_
  dsimp only
  rw [mul_f (hq.sh (by omega) (by omega)) sn]
  refine Ev.congr (fun k=>Option.bind_some _ _) ?_
  dsimp only
  rw [add_f (hp.sh (by omega) (by omega)) (hr.sh (by omega) (by omega))]
  refine Ev.congr (fun k=>Option.bind_some _ _) (Ev.bind (cmp_e (hr.sh (by omega) (by omega)) sn) (Ev.congr (fun k=>?_) (Ev.now _)))
  dsimp only
  have e:m / n * n + m % n = m:=by rw [Nat.mul_comm];exact Nat.div_add_mod m n
  rw [if_pos rfl,if_pos rfl,if_pos rfl,if_pos rfl,e,if_pos rfl,ord_lt (Nat.mod_lt m (by omega))]
  rfl
theorem Undoes_law (a b:ByteArray):Ev (fun k=>garboardlaw01_NaturalUndoes.f k a b) true:=by
 refine law_head [a,b] (by simp) (fun k t=>garboardlaw01_NaturalUndoes.j0 k a b t) _ (fun k=>rfl) (fun k=>by rw [garboardlaw01_NaturalUndoes.j0,if_pos rfl]) (fun hs=>?_)
 have ha:=hs a (by simp)
 have hb:=hs b (by simp)
 have va:=Valid_ev a (by omega)
 have vb:=Valid_ev b (by omega)
 refine Ev.step (fun k=>by rw [garboardlaw01_NaturalUndoes.j0,if_neg (by simp)]) (Ev.bind va ?_)
 cases h1:nv a with
 | false=>exact Ev.congr (fun k=>if_neg (by simp)) (Ev.step (fun k=>by rw [garboardlaw01_NaturalUndoes.j1,if_pos (by simp)]) (Ev.now _))
 | true =>
  refine Ev.congr (fun k=>if_pos rfl) (Ev.bind vb ?_)
  cases h2:nv b with
  | false=>exact Ev.step (fun k=>by rw [garboardlaw01_NaturalUndoes.j1,if_pos (by simp)]) (Ev.now _)
  | true =>
   obtain ⟨m,rfl,hm⟩:=is_num h1 ha
   obtain ⟨n,rfl,hn⟩:=is_num h2 hb
   have sm:=hm.sh (by omega) (by omega)
   have sn:=hn.sh (by omega) (by omega)
   refine Ev.step (fun k=>by rw [garboardlaw01_NaturalUndoes.j1,if_neg (by simp),add_f sm sn,Option.bind_some]) ?_
   dsimp only
   rw [sub_f ((hm.add hn).sh (by omega) (by omega)) sn,if_neg (by omega),Nat.add_sub_cancel,sub_f sm sn]
   refine Ev.congr (fun k=>Option.bind_some _ _) (Ev.bind (cmp_e sm sn) ?_)
   refine Ev.congr (fun k=>?_) (Undoes_j2 m n hm hn)
   dsimp only
   rw [Option.bind_some,if_pos rfl,if_pos rfl,if_pos rfl,if_pos rfl,sub_ok,ord_zero,bne_self_eq_false,bne_self_eq_false]
   rfl
end Go.Proofs.YtaopmkcghancmaaDoor.Pr
namespace Go.Proofs.YtaopmkcghancmaaDoor.Pr
set_option linter.unusedVariables false
set_option linter.unusedSimpArgs false
open Go.ChangeShapes Go.WideShapes Go.ChangeAt Go.RowKit Go.Proofs.YtaopmkcghancmaaDoorW.PrintWords
set_option maxRecDepth 100000 in
theorem naturalUndoes_lifted (os:Os) (started:os.Started) (H:Type) (enc:TypeId × Value→H) :
  ReturnsInHanded {} Tryd.checked os 8 .any (fun w args=>(Rows.naturalUndoesSpec.pre enc Tryd.prog Tryd.f8 [] false w args∧laidMetH Tryd.prog laid5 w)∧sizedMet enc Tryd.prog Tryd.f8 (OpenSpec.ofChange Rows.naturalUndoesSpec) false w args)
   (Rows.naturalUndoesSpec.post enc Tryd.prog Tryd.f8 false true false false):=by
 refine returnsInHanded_of_change_and (C:=Tryd.checked) (X:=fun w _=>laidMetH Tryd.prog laid5 w) (fun _ _ _ hh h=>h.of_heap hh) own started (by kernel_rfl) Tryd.func8
  (ChangeSpec.witness_shaped (enc:=enc) (C:=Tryd.checked) (os:=os) (X:=fun w _=>laidMetH Tryd.prog laid5 w) false (World.doorLaid Tryd.prog 400 os) #[.string ⟨#[]⟩,.string ⟨#[]⟩] 8 rfl (World.shaped_of_RefB (by kernel_rfl) (by kernel_rfl)) (by kernel_rfl) (by kernel_rfl) (by kernel_rfl) (door_met os _)) ?_
 intro W base args ds gs before hval0 hW _ _ hL _
 have hval:∀ (j:Nat) t v,Tryd.f8.params[j]? = some t→args[j]? = some v→Value.okWide Tryd.prog W .any base t v:=hval0
 have hW':=hW
 obtain ⟨p,q,hA0,hV,rfl,hfz,hnd⟩:=hW
 have hA:DataW.TrodAll enc Tryd.prog W 0 (fun _=>true) true Tryd.f8.params.toList args.toList ds p:=hA0
 rw [Tryd.params8] at hA hval
 obtain ⟨v0,vs0,d0,ds0,p0,q0,hargs,rfl,rfl,h0,r0⟩:=trodAll_cons hA
 obtain ⟨v1,vs1,d1,ds1,p1,q1,rfl,rfl,rfl,h1,r1⟩:=trodAll_cons r0
 obtain ⟨rfl,rfl,rfl⟩:=trodAll_nil r1
 obtain rfl:args = #[v0,v1]:=by cases args;simp_all
 obtain ⟨rfl,rfl⟩:=trodVars_none hV
 have lt0:∀ x ∈ p0,x.block < W.heap.size:=by obtain ⟨m,hm⟩:=h0;exact DataW.trod_lt m _ _ _ hm
 have lt1:∀ x ∈ p1,x.block < W.heap.size:=by obtain ⟨m,hm⟩:=h1;exact DataW.trod_lt m _ _ _ hm
 have k0:=h0
 have k1:=h1
 obtain ⟨a0,rfl⟩:=openS (hval 0 9 v0 rfl rfl) h0
 obtain ⟨a1,rfl⟩:=openS (hval 1 9 v1 rfl rfl) h1
 have hT:=laid_tab hL
 clear hA0 hval0 hval
 obtain ⟨k,hk⟩:=(Undoes_law a0 a1).rounds
 refine (garboardlaw01_NaturalUndoes.calls k a0 a1 true W hT hk).mono fun e W' ⟨he,bel⟩=>?_
 subst he
 exact ⟨_,rfl,_,_,_,[],_,[],hW',trodAll_mk1 (shut_bool Tryd.underlying4 _),(trodAll_cons_mk (Below.trod laidOut (by kernel_rfl) (of_decide_eq_true (by kernel_rfl)) k0 bel lt0) (trodAll_cons_mk (Below.trod laidOut (by kernel_rfl) (of_decide_eq_true (by kernel_rfl)) k1 bel lt1) trodAll_mk0)),rfl,bel.frame _,fun h=>by cases h⟩
theorem naturalUndoes_row:Rows.NaturalUndoesSaid :=
 OpenClaim.holds_of_wide 8 Tryd.f8 rfl rfl rfl rfl rfl rfl rfl ⟨rfl,rfl,rfl,rfl,rfl⟩ rfl rfl rfl rfl rfl (by kernel_rfl) Tryd.func8 (by kernel_rfl)
  (of_decide_eq_true (by kernel_rfl)) (by unfold Func.isWrapper;first|(rw [if_pos (by decide +kernel)];kernel_rfl)|(rw [if_neg (by decide +kernel)];exact ⟨rfl,rfl⟩))
  (fun os started H enc _=>naturalUndoes_lifted os started H enc)
end Go.Proofs.YtaopmkcghancmaaDoor.Pr
namespace Go.Proofs.YtaopmkcghancmaaDoor
open Go
theorem naturalUndoes_card_holds:Rows.NaturalUndoesCardSaid :=
 Claim7.holds_tied_plain_at .later [] [.data,.data,.data,.sentinel,.sentinel] true (true, "15e2bb534210d3ebfac1118a7fbd3a9c70502882d4f4aec048f40a6a26db7ede") true
  Pr.naturalUndoes_row (fun _ h=>by cases h) (by kernel_rfl) (fun _ h=>by cases h) naturalUndoes_row_tie rfl ⟨rfl,rfl⟩ (by kernel_rfl) rfl
  (fun f fn hf hfn=>by
   obtain rfl:f = 8:=Option.some.inj ((show Tryd.prog.funcNamed "garboard/garboardlaw01.NaturalUndoes" = some 8 by kernel_rfl).symm.trans hf) |>.symm
   obtain rfl:fn = Tryd.f8:=(Option.some.inj (Tryd.func8.symm.trans hfn)).symm
   exact ⟨by kernel_rfl,fun j t ht=>by
    rw [Tryd.params8] at ht
    have hm:t ∈ [9,9]:=by simpa using Array.mem_of_getElem? ht
    have hall:([9,9].all fun u=>!Tryd.prog.wantsStandIn u) = true:=by kernel_rfl
    exact (show Tryd.prog.wantsStandIn t = false by simpa using List.all_eq_true.1 hall t hm)⟩)
  (by kernel_rfl)
end Go.Proofs.YtaopmkcghancmaaDoor
