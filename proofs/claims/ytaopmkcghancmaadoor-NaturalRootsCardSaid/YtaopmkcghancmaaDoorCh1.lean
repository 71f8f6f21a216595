/- Part 1 of 1: garboardlaw01.NaturalRoots (the square of a root is at most the number, that of the next is greater; a power is the product of powers; at most 120 bytes) answers true for every input, and each argument reads behind the call as before. The library's tables are tied to the program's text by the card. -/
import Derived.Below
import Derived.Deep.Draws
import Derived.Deep.AppendLies
import Derived.Maps.AppendAt
import Derived.OwnWalk
import Derived.Laws.BytesArg
import Derived.Laws.MakeOwn
import Derived.Laws.OwnMore
import Derived.Deep.OwnRows
import Derived.Tactics
import Derived.Lib.ConvBytes
import Derived.Laws.Slices
import Derived.WalkKit
import Derived.KernelRfl
import Derived.RowKit3
import Derived.Deep.LoopGhost
import Derived.Deep.QuietTactic
import Derived.BigQuiet
import Derived.WideLaws
import Derived.Deep.DeepCutAuto
import Derived.Deep.CutBlock
import Derived.Deep.RegionHeld3
import Derived.Laws.Rows
import Derived.Lib.AppendStr
import Derived.ArgAppend
import Derived.Laws.IdiomCopy
import Derived.RowKit
import Derived.OrdersHeld
import Derived.Laws.BitsLemmas
import Derived.Laws.StructEq
import Derived.Test.YtaopmkcghancmaaDoorProg
import Derived.Shelf.Strings.Builder1
import Derived.Shelf.Strings.Builder2
import Derived.Shelf.Small.Wraps
import Derived.Shelf.Strings.BuilderF
import Derived.Shelf.Strings.BuilderK
import Derived.Shelf.Strings.Builder2Cap
import Derived.Shelf.Strconv.Itoa0
import Derived.Shelf.Strconv.Itoa1
import Derived.Shelf.LaysM
import Derived.Shelf.Strconv.Itoa2
import Derived.Shelf.Strconv.Itoa3
import Derived.Shelf.Strconv.Clone
import Derived.Shelf.Strconv.SyntaxError
import Derived.Shelf.Strconv.Lower
import Derived.Shelf.Strconv.ParseUint10
import Derived.Shelf.Strconv.ParseUint10Empty
import Derived.Shelf.Strconv.RangeError
import Derived.Shelf.Strconv.ParseUintEmpty
import Derived.Shelf.Strconv.ParseUint10b64
import Derived.Shelf.Strconv.ParseUint10b32
import Derived.Shelf.Strconv.ParseUint10b16
import Derived.Shelf.Strconv.ParseUint10b8
import Derived.Ground.MpProg
import Derived.Shelf.Pu.ParseUintPublic10
import Derived.Shelf.Strings.Prefix
import Derived.Shelf.Bits.Mul64
import Derived.Shelf.Strings.Repeat
import Derived.Ground.Names2Prog
import Derived.Shelf.Slices.SearchI
import Derived.Lib.AtoiErrMem
import Derived.Lib.ItoaNum
import Derived.Lib.ParseIntB
import Derived.RangeFuncFrom
import Derived.RangeFuncBox
import Derived.RangeFuncLeaves
import Derived.RangeFuncCalls
import Derived.RangeFuncBound
import Derived.Shelf.Abstract
import Derived.OwnWalkIn
import Derived.TacticsInMore
import Derived.LoopNIn
import Derived.LoopIn
import Derived.Lib.Hide
import Derived.Lib.FrozenHead
import Derived.Lib.AppendIntMem
import Derived.Lib.Walk
import Derived.Lib.ItoaMem
import Derived.BigCall
import Derived.BigGuard
import Derived.Lib.SmallJoins
import Derived.LaidMore
import Derived.ProofKit
import Derived.Stop.Joined
import Derived.SizedLaws
import Derived.DataShut
import Derived.SevenTiedAt
import Derived.Test.YtaopmkcghancmaaDoorCz4
set_option linter.unusedVariables false
set_option linter.unusedSimpArgs false
namespace Go.Proofs.YtaopmkcghancmaaDoor.Pr
open Go.RowKit Go.Lib Go.Proofs.YtaopmkcghancmaaDoorW.PrintWords Go.Proofs.YtaopmkcghancmaaDoorW.PrintLast Go.Proofs.YtaopmkcghancmaaDoorW.PrintMore Go.Proofs.YtaopmkcghancmaaDoor.NatTh
theorem sm120 {a:ByteArray} (h:a.size≤120):Sm a:=(Nat.le_trans h (by omega):a.size≤1000)
end Go.Proofs.YtaopmkcghancmaaDoor.Pr
set_option linter.unusedVariables false
set_option linter.unusedSimpArgs false
namespace Go.Proofs.YtaopmkcghancmaaDoor.Pr
open Go.RowKit Go.Lib Go.Proofs.YtaopmkcghancmaaDoorW.PrintWords Go.Proofs.YtaopmkcghancmaaDoorW.PrintLast Go.Proofs.YtaopmkcghancmaaDoorW.PrintMore Go.Proofs.YtaopmkcghancmaaDoor.NatTh
theorem nv_num (n:Nat):nv (num n) = true:=(nv_iff _).2 (nml_dec n)
theorem nat_num (n:Nat):nat (num n) = n:=pv_dec n
theorem bs_inj {a b:ByteArray} (h:bs a = bs b):a = b:=by
 cases a
 cases b
 exact congrArg _ (Array.toList_inj.1 h)
theorem num_nat {a:ByteArray} (h:nv a = true):num (nat a) = a:=bs_inj (dec_pv (bs a) ((nv_iff a).1 h))
theorem num1:(num 1).toList = ([49]:List UInt8):=num_list _ _ (by decide +kernel) (by decide +kernel)
theorem str1:(⟨#[49]⟩:ByteArray) = num 1:=bs_inj (by rw [← toL (num 1),num1])
theorem nil_toList:(⟨#[]⟩:ByteArray).toList = ([]:List UInt8):=toL _
def Sz (e n:Nat):Prop:=n < 10 ^ e
theorem sz_size {e n:Nat} (he:1≤e) (h:Sz e n):(num n).size≤e:=by
 have h1:(num n).size = nDigits n:=by
  rw [← bs_length,show bs (num n) = decDigits n from rfl,decDigits_length]
 rw [h1]
 exact nDigits_le e n he h
theorem Sz.mono {e f n:Nat} (h:Sz e n) (hf:e≤f):Sz f n:=Nat.lt_of_lt_of_le h (Nat.pow_le_pow_right (by omega) hf)
theorem Sz.le {e m n:Nat} (h:Sz e n) (hm:m≤n):Sz e m:=Nat.lt_of_le_of_lt hm h
theorem Sz.add {e m n:Nat} (hm:Sz e m) (hn:Sz e n):Sz (e + 1) (m + n):=by
 unfold Sz at *
 have:10 ^ (e + 1) = 10 ^ e * 10:=Nat.pow_succ 10 e
 omega
theorem Sz.mul {e f m n:Nat} (hm:Sz e m) (hn:Sz f n):Sz (e + f) (m * n):=by
 unfold Sz at *
 rw [Nat.pow_add]
 exact Nat.mul_lt_mul'' hm hn
theorem Sz.pow {e m:Nat} (hm:Sz e m) (k:Nat) (he:1≤e):Sz (e * k + 1) (m ^ k):=by
 induction k with
 | zero=>unfold Sz;simp
 | succ k ih =>
  have:=Sz.mul ih hm
  rw [Nat.pow_succ,show e * (k + 1) + 1 = e * k + 1 + e by rw [Nat.mul_succ];omega]
  exact this
theorem Sz.sh {e n:Nat} (h:Sz e n) (he:1≤e) (h2:e≤100000):Sh (num n):=Nat.le_trans (sz_size he h) (by omega)
theorem Sz.sm {e n:Nat} (h:Sz e n) (he:1≤e) (h2:e≤1000):Sm (num n):=Nat.le_trans (sz_size he h) h2
theorem is_num {a:ByteArray} (h:nv a = true) (hs:a.size≤120):∃ n,a = num n∧Sz 120 n:=by
 refine ⟨nat a,(num_nat h).symm,?_⟩
 have h1:=pv_lt (bs a) ((nv_iff a).1 h).1
 rw [bs_length] at h1
 exact Nat.lt_of_lt_of_le h1 (Nat.pow_le_pow_right (by omega) hs)
theorem both_num (m n:Nat):(nv (num m) && nv (num n)) = true:=by rw [nv_num,nv_num];rfl
theorem add_f {m n:Nat} (hm:Sh (num m)) (hn:Sh (num n)):natural_Add.f (num m) (num n) = some (num (m + n),0):=by
 unfold natural_Add.f addV
 rw [if_pos ⟨hm,hn⟩,if_pos (both_num m n),nat_num,nat_num]
theorem mul_f {m n:Nat} (hm:Sh (num m)) (hn:Sh (num n)):natural_Mul.f (num m) (num n) = some (num (m * n),0):=by
 unfold natural_Mul.f mulV
 rw [if_pos ⟨hm,hn⟩,if_pos (both_num m n),nat_num,nat_num]
theorem cmp_e {m n:Nat} (hm:Sh (num m)) (hn:Sh (num n)):Ev (fun k=>natural_Compare.f k (num m) (num n)) (ord m n,0):=by
 have h:=Compare_ev (num m) (num n) hm hn
 unfold cmpSV at h
 rw [if_pos (both_num m n),nat_num,nat_num] at h
 exact h
theorem pow_e {m:Nat} (e:Nat) (he:e≤64) (hm:Sm (num m)):Ev (fun k=>natural_Pow.f k (num m) e) (num (m ^ e),0):=by
 have h:=Pow_ev (num m) e hm
 unfold powV at h
 rw [if_pos (nv_num m),if_neg (by omega),if_neg (by omega),nat_num,Int.toNat_natCast] at h
 exact h
theorem w00:wrap64 (0 + 0) = 0:=by
 unfold wrap64
 rfl
theorem ord_gt {m n:Nat} (h:n < m):ord m n = 1:=by unfold ord;rw [if_neg (by omega),if_pos h]
end Go.Proofs.YtaopmkcghancmaaDoor.Pr
namespace Go.Proofs.YtaopmkcghancmaaDoor.Pr
set_option linter.unusedVariables false
set_option linter.unusedSimpArgs false
open Go.ChangeShapes Go.WideShapes Go.ChangeAt Go.Deep Go.Joins Go.RowKit Go.Proofs.YtaopmkcghancmaaDoorW.PrintWords
theorem own:ownKnob Tryd.prog.godebug = none:=by kernel_rfl
theorem laidOut:laidOutB Tryd.prog = true:=by kernel_rfl
set_option maxRecDepth 100000 in
theorem openS {H:Type} {enc:TypeId × Value→H} {W:World} {r:Reach} {b0:Nat} {v:Value} {d:DataW H} {p:List MemPlace} (hv:Value.okWide Tryd.prog W r b0 9 v) (h:DataW.Trod enc Tryd.prog W 0 (fun _=>true) true 9 v d p):∃ s,v = .string s:=by
 obtain ⟨s,e,_⟩:=Go.ChangeMaps.open_string Tryd.underlying9 hv h
 exact ⟨s,e⟩
def laid5:List (String × DataW Unit):=[("math/bits.deBruijn32tab",Rows.laid_math_bits_deBruijn32tab),("math/bits.deBruijn64tab",Rows.laid_math_bits_deBruijn64tab),("internal/strconv.uint64pow10",Rows.laid_internal_strconv_uint64pow10),("strconv.ErrRange",Rows.laid_strconv_ErrRange),("strconv.ErrSyntax",Rows.laid_strconv_ErrSyntax)]
theorem gPow:Tryd.prog.globalNamed "internal/strconv.uint64pow10" = some 0:=by kernel_rfl
theorem gPowType:(Tryd.prog.globals[0]?).map (·.type) = some 123:=by kernel_rfl
theorem laid_tab {W:World} (h:laidMetH Tryd.prog laid5 W):LaidW W:=by
 rw [MakeChecks.laidMetH_plain _ _ _ (by kernel_rfl)] at h
 obtain ⟨ps,⟨g0,t0,cs0,f0,p0,q0,hg0,ht0,hv0,hd0,⟨g1,t1,cs1,f1,p1,q1,hg1,ht1,hv1,hd1,⟨g2,t2,cs2,f2,p2,q2,hg2,ht2,hv2,hd2,_,_⟩,_⟩,_⟩,_⟩:=h
 obtain rfl:=Option.some.inj (gPow.symm.trans hg2)
 obtain rfl:=Option.some.inj (gPowType.symm.trans ht2)
 have e:(Rows.laid_internal_strconv_uint64pow10:DataW Unit) = Lib.tabData .u64 Lib.pow10Tab:=rfl
 rw [e] at hd2
 unfold LaidW Lib.TabIs
 rw [hv2,← Lib.cells_of_tab Tryd.underlying123 Tryd.underlying61 (by kernel_rfl) (by kernel_rfl) hd2]
theorem door_met (os:Os) (args:Array Value):laidMetH Tryd.prog laid5 ((World.doorLaid Tryd.prog 400 os).forCall (fun _ _=>0) ⟨#[],args,[]⟩).memory :=
 laidMetH_of_parts3 (fuel:=8) (laidMet_of_run' 8 (by kernel_rfl) (by kernel_rfl)) (by kernel_rfl) (by kernel_rfl)
end Go.Proofs.YtaopmkcghancmaaDoor.Pr
namespace Go.Proofs.YtaopmkcghancmaaDoor.Pr
open Go.RowKit Go.Proofs.YtaopmkcghancmaaDoorW.PrintWords Go.Proofs.YtaopmkcghancmaaDoorW.PrintLast Go.Proofs.YtaopmkcghancmaaDoorW.PrintMore
attribute [local go_sem] max2_int min2_int max_two min_two max_three min_three max_four min_four
set_option linter.unusedVariables false
set_option linter.unusedSimpArgs false
mutual
def garboardlaw01_NaturalRoots.j0:Nat→ByteArray→Int→Int→Bool→Option (Bool)
 | 0,_,_,_,_=>none
 | k + 1,x0,x1,x2,x33=>if x33 = true then ((garboardlaw01_awake.f k).bind fun t652=>(some t652)) else ((natural_Root.f k x0).bind fun bt653=>(if bt653.2 = 0 then ((natural_Add.f bt653.1 (⟨#[49]⟩:ByteArray)).bind fun bt656=>((natural_Mul.f bt653.1 bt653.1).bind fun bt658=>((natural_Mul.f bt656.1 bt656.1).bind fun bt660=>((natural_Compare.f k bt658.1 x0).bind fun bt662=>((natural_Compare.f k bt660.1 x0).bind fun bt664=>(if (wrap64 ((wrap64 ((wrap64 ((wrap64 (bt656.2 + bt658.2)) + bt660.2)) + bt662.2)) + bt664.2)) = 0 then (if bt662.1 > 0 then (garboardlaw01_NaturalRoots.j1 k x0 x1 x2 true) else (garboardlaw01_NaturalRoots.j1 k x0 x1 x2 (decide (bt664.1≤0)))) else (garboardlaw01_NaturalRoots.j1 k x0 x1 x2 true))))))) else (if bt653.1.toList = ([]:List UInt8) then ((natural_Valid.f k x0).bind fun t655=>(some (!t655))) else (some false))))
def garboardlaw01_NaturalRoots.j1:Nat→ByteArray→Int→Int→Bool→Option (Bool)
 | 0,_,_,_,_=>none
 | k + 1,x0,x1,x2,x95=>if x95 = true then (some false) else ((natural_Pow.f k x0 (Int.tmod (wrap64 (x1)) 6)).bind fun bt666=>((natural_Pow.f k x0 (Int.tmod (wrap64 (x2)) 6)).bind fun bt668=>((natural_Pow.f k x0 (wrap64 ((Int.tmod (wrap64 (x1)) 6) + (Int.tmod (wrap64 (x2)) 6)))).bind fun bt670=>((natural_Mul.f bt666.1 bt668.1).bind fun bt672=>(if (wrap64 ((wrap64 ((wrap64 (bt666.2 + bt668.2)) + bt670.2)) + bt672.2)) = 0 then (some (bt672.1.toList == bt670.1.toList)) else (some false))))))
end
def garboardlaw01_NaturalRoots.f (k:Nat) (a0:ByteArray) (a1:Int) (a2:Int):Option (Bool):=(garboardlaw01_awake.f k).bind fun t647=>(if t647 = true then ((garboardlaw01_long.f k (([a0]:List ByteArray))).bind fun t651=>(garboardlaw01_NaturalRoots.j0 k a0 a1 a2 t651)) else (garboardlaw01_NaturalRoots.j0 k a0 a1 a2 true))
set_option maxHeartbeats 8000000 in
set_option maxRecDepth 100000 in
theorem garboardlaw01_NaturalRoots.calls (k:Nat) (a0:ByteArray) (a1:Int) (a2:Int) (r:Bool) (w:World) (hL:LaidW w) (h:garboardlaw01_NaturalRoots.f k a0 a1 a2 = some r) :
  Calls Tryd.prog 10 #[.string a0,.int .u8 a1,.int .u8 a2] w fun e w'=>e = .returned (.bool r)∧Below w.heap.size w w':=by
 have HB:=Aside0.mk (Below.refl w.heap.size w)
 have HLW:=Aside0.mk hL
 clear hL
 have H:((garboardlaw01_awake.f k).bind fun t647=>(if t647 = true then ((garboardlaw01_long.f k (([a0]:List ByteArray))).bind fun t651=>(garboardlaw01_NaturalRoots.j0 k a0 a1 a2 t651)) else (garboardlaw01_NaturalRoots.j0 k a0 a1 a2 true))) = some r:=h
 clear h
 have HC4:=Aside0.mk H
 clear H
 go_enter Tryd.func10,Tryd.ntmps10
 go_upto_region 1 with (fail)
 go_cut [33] (fun v33 wc=>∃ (kq:Nat) (x33_3:Bool),v33 = .bool x33_3∧Aside0 (garboardlaw01_NaturalRoots.j0 kq a0 a1 a2 x33_3 = some r)∧Aside0 (kq≤k)∧Aside0 (Below w.heap.size w wc))
 case first =>
  have H:=HC4.out
  clear HC4
  replace H:=Option.bind_eq_some_iff.mp H
  obtain ⟨t647,A50,H⟩:=H
  replace H:(if t647 = true then ((garboardlaw01_long.f k (([a0]:List ByteArray))).bind fun t651=>(garboardlaw01_NaturalRoots.j0 k a0 a1 a2 t651)) else (garboardlaw01_NaturalRoots.j0 k a0 a1 a2 true)) = some r:=H
  have A5:=Aside0.mk A50
  clear A50
  by_cases c6:t647 = true
  ·subst c6
   have H1:((garboardlaw01_long.f k (([a0]:List ByteArray))).bind fun t651=>(garboardlaw01_NaturalRoots.j0 k a0 a1 a2 t651)) = some r:=by rw [if_pos rfl] at H;exact H
   clear H
   have H:=H1
   clear H1
   obtain ⟨y648,hy648⟩:∃ y_:List ByteArray,y_ = (([a0]:List ByteArray)):=⟨_,rfl⟩
   replace H:((garboardlaw01_long.f k y648).bind fun t651=>(garboardlaw01_NaturalRoots.j0 k a0 a1 a2 t651)) = some r:=by first|(rw [hy648];with_reducible exact H)|(have H2_:=(Option.bind_some _ _).symm.trans H;rw [hy648];with_reducible exact H2_)|(have H2_:=(Option.bind_some _ _).symm.trans H;with_reducible exact H2_)|with_reducible exact H|(rw [hy648];exact H)|exact H
   have Ny648:=Aside0.mk hy648
   clear hy648
   replace H:=Option.bind_eq_some_iff.mp H
   obtain ⟨t651,A70,H⟩:=H
   replace H:(garboardlaw01_NaturalRoots.j0 k a0 a1 a2 t651) = some r:=H
   have A7:=Aside0.mk A70
   clear A70
   have H':=Aside0.mk H
   clear H
   go_wp2_with (first|((with_reducible refine gate_callee (f:=11) rfl ?_);refine goesL_ (some 27) rfl rfl Tryd.func11 (by kernel_rfl) rfl #[] rfl (by (try simp only [List.map_toArray,List.map_cons,List.map_nil]);first|done|rfl|(simp only [List.length_drop,List.length_take];rfl)) ?_;(with_reducible refine (garboardlaw01_awake.calls k  true _ ?side1 A5.out).mono ?_);(case side1=>exact HLW.out.below (by repeat (first|(with_reducible first|exact HB.out|apply below_alloc|apply pw_below_drewN|apply below_drew1)|exact HB.out)));rintro e w8 ⟨rfl,hb⟩;refine ⟨_,rfl,?_⟩;have n0_:=Aside0.mk (below_step (by repeat (first|(with_reducible first|exact HB.out|apply below_alloc|apply pw_below_drewN|apply below_drew1)|exact HB.out)) hb);clear HB;have HB:=n0_;clear n0_;(try clear hb);(try clear hb2);(try clear hk);(try clear hi))|((with_reducible refine gate_dst (N:=31) rfl ?_);(try (refine gate_guard (by rfl) ?_;dsimp only));refine Kd.R_lit Kd.string _ 9 ?hg (N:=31) ?hd (xs:=([a0]:List ByteArray)) (inner:=[.string a0]) (ok:=fun _=>True) (okp:=fun _=>True) ?hr ?hp (fun _ hk=>hk) trivial (Below.refl _ _) (Nat.le_refl _) (by simp) ?_;(case hd=>rfl);(case hg=>rfl);(case hr=>first|(go_simp;done)|(go_simp;rfl));(case hp=>exact (Reps.one (show Kd.M Kd.string _ _ _ a0 [.string a0] from rfl) (Reps.none _ _)));intro v649 w9 ho10 hb hg_ hnew_;clear hg_ hnew_;(first|rw [← Ny648.out] at ho10|(simp only [Int.reduceToNat] at ho10;rw [← Ny648.out] at ho10));have n0_:=Aside0.mk (Kd.R_lower ho10 (below_size (by repeat (first|(with_reducible first|exact HB.out|apply below_alloc|apply pw_below_drewN|apply below_drew1)|exact HB.out))));have n1_:=Aside0.mk (below_step (by repeat (first|(with_reducible first|exact HB.out|apply below_alloc|apply pw_below_drewN|apply below_drew1)|exact HB.out)) hb);clear HB;have HO650:=n0_;have HB:=n1_;clear n0_ n1_;clear hb ho10;obtain ⟨Ao11,co11,eo11⟩:=Kd.R_slice HO650.out;subst eo11)|(go_at_call 12;(with_reducible refine (garboardlaw01_long.calls k _ _ y648 t651 _ ?side1 ?side2 A7.out).mono ?_);(case side1=>repeat (first|exact (Kd.R_reads' HO650.out).2.2|(with_reducible refine Kd.C_alloc ?_ _)|(with_reducible refine Kd.C_drewN ?_ _)|(with_reducible refine Kd.C_drew ?_)));(case side2=>exact (Kd.R_reads' HO650.out).2.1);rintro e w' ⟨rfl,⟨nd,rfl⟩⟩))
   go_meet
   case rel=>exact ⟨_,(t651),(by first|rfl|(simp;done)|(simp [*];done)),H',⟨by first|omega|exact Nat.le_refl _⟩,⟨by repeat (first|(with_reducible first|exact HB.out|apply below_alloc|apply pw_below_drewN|apply below_drew1)|exact HB.out)⟩⟩
  ·replace c6:=Bool.eq_false_iff.mpr c6
   subst c6
   have H1:(garboardlaw01_NaturalRoots.j0 k a0 a1 a2 true) = some r:=by rw [if_neg (show ¬ (false = true) by decide)] at H;exact H
   clear H
   have H:=H1
   clear H1
   have H':=Aside0.mk H
   clear H
   go_wp2_with (first|((with_reducible refine gate_callee (f:=11) rfl ?_);refine goesL_ (some 27) rfl rfl Tryd.func11 (by kernel_rfl) rfl #[] rfl (by (try simp only [List.map_toArray,List.map_cons,List.map_nil]);first|done|rfl|(simp only [List.length_drop,List.length_take];rfl)) ?_;(with_reducible refine (garboardlaw01_awake.calls k  false _ ?side1 A5.out).mono ?_);(case side1=>exact HLW.out.below (by repeat (first|(with_reducible first|exact HB.out|apply below_alloc|apply pw_below_drewN|apply below_drew1)|exact HB.out)));rintro e w12 ⟨rfl,hb⟩;refine ⟨_,rfl,?_⟩;have n0_:=Aside0.mk (below_step (by repeat (first|(with_reducible first|exact HB.out|apply below_alloc|apply pw_below_drewN|apply below_drew1)|exact HB.out)) hb);clear HB;have HB:=n0_;clear n0_;(try clear hb);(try clear hb2);(try clear hk);(try clear hi)))
   go_meet
   case rel=>exact ⟨_,(true),(by first|rfl|(simp;done)|(simp [*];done)),H',⟨by first|omega|exact Nat.le_refl _⟩,⟨by repeat (first|(with_reducible first|exact HB.out|apply below_alloc|apply pw_below_drewN|apply below_drew1)|exact HB.out)⟩⟩
 case rest =>
  clear HC4
  try clear c1
  try clear p2
  try clear c6
  try clear c10
  try clear c11
  obtain ⟨kq,x33_3,rfl,HA,HJ3,HB⟩:=hcut
  cases kq with
  | zero=>exact absurd HA.out (by simp [garboardlaw01_NaturalRoots.j0])
  | succ kj3 =>
   have H:=HA.out
   clear HA
   simp only [garboardlaw01_NaturalRoots.j0] at H
   by_cases c13:x33_3 = true
   ·subst c13
    have H1:((garboardlaw01_awake.f kj3).bind fun t652=>(some t652)) = some r:=by rw [if_pos rfl] at H;exact H
    clear H
    have H:=H1
    clear H1
    replace H:=Option.bind_eq_some_iff.mp H
    obtain ⟨t652,A140,H⟩:=H
    replace H:(some t652) = some r:=H
    have A14:=Aside0.mk A140
    clear A140
    obtain rfl:=Option.some.inj H
    go_wp2_with (first|((with_reducible refine gate_callee (f:=11) rfl ?_);refine goesL_ (some 34) rfl rfl Tryd.func11 (by kernel_rfl) rfl #[] rfl (by (try simp only [List.map_toArray,List.map_cons,List.map_nil]);first|done|rfl|(simp only [List.length_drop,List.length_take];rfl)) ?_;(with_reducible refine (garboardlaw01_awake.calls kj3  t652 _ ?side1 A14.out).mono ?_);(case side1=>exact HLW.out.below (by repeat (first|(with_reducible first|exact HB.out|apply below_alloc|apply pw_below_drewN|apply below_drew1)|exact HB.out)));rintro e w15 ⟨rfl,hb⟩;refine ⟨_,rfl,?_⟩;have n0_:=Aside0.mk (below_step (by repeat (first|(with_reducible first|exact HB.out|apply below_alloc|apply pw_below_drewN|apply below_drew1)|exact HB.out)) hb);clear HB;have HB:=n0_;clear n0_;(try clear hb);(try clear hb2);(try clear hk);(try clear hi)))
    go_ret
    exact ⟨by first|rfl|(simp [errW_none,errW_some]<;>rfl)|(simp [*,errW_none,errW_some]<;>rfl),by repeat (first|(with_reducible first|exact HB.out|apply below_alloc|apply pw_below_drewN|apply below_drew1)|exact HB.out)⟩
   ·replace c13:=Bool.eq_false_iff.mpr c13
    subst c13
    have H1:((natural_Root.f kj3 a0).bind fun bt653=>(if bt653.2 = 0 then ((natural_Add.f bt653.1 (⟨#[49]⟩:ByteArray)).bind fun bt656=>((natural_Mul.f bt653.1 bt653.1).bind fun bt658=>((natural_Mul.f bt656.1 bt656.1).bind fun bt660=>((natural_Compare.f kj3 bt658.1 a0).bind fun bt662=>((natural_Compare.f kj3 bt660.1 a0).bind fun bt664=>(if (wrap64 ((wrap64 ((wrap64 ((wrap64 (bt656.2 + bt658.2)) + bt660.2)) + bt662.2)) + bt664.2)) = 0 then (if bt662.1 > 0 then (garboardlaw01_NaturalRoots.j1 kj3 a0 a1 a2 true) else (garboardlaw01_NaturalRoots.j1 kj3 a0 a1 a2 (decide (bt664.1≤0)))) else (garboardlaw01_NaturalRoots.j1 kj3 a0 a1 a2 true))))))) else (if bt653.1.toList = ([]:List UInt8) then ((natural_Valid.f kj3 a0).bind fun t655=>(some (!t655))) else (some false)))) = some r:=by rw [if_neg (show ¬ (false = true) by decide)] at H;exact H
    clear H
    have H:=H1
    clear H1
    replace H:=Option.bind_eq_some_iff.mp H
    obtain ⟨⟨t653,t654⟩,A160,H⟩:=H
    replace H:(if t654 = 0 then ((natural_Add.f t653 (⟨#[49]⟩:ByteArray)).bind fun bt656=>((natural_Mul.f t653 t653).bind fun bt658=>((natural_Mul.f bt656.1 bt656.1).bind fun bt660=>((natural_Compare.f kj3 bt658.1 a0).bind fun bt662=>((natural_Compare.f kj3 bt660.1 a0).bind fun bt664=>(if (wrap64 ((wrap64 ((wrap64 ((wrap64 (bt656.2 + bt658.2)) + bt660.2)) + bt662.2)) + bt664.2)) = 0 then (if bt662.1 > 0 then (garboardlaw01_NaturalRoots.j1 kj3 a0 a1 a2 true) else (garboardlaw01_NaturalRoots.j1 kj3 a0 a1 a2 (decide (bt664.1≤0)))) else (garboardlaw01_NaturalRoots.j1 kj3 a0 a1 a2 true))))))) else (if t653.toList = ([]:List UInt8) then ((natural_Valid.f kj3 a0).bind fun t655=>(some (!t655))) else (some false))) = some r:=H
    have A16:=Aside0.mk A160
    clear A160
    by_cases c17:t654 = 0
    ·rw [if_pos c17] at H
     have c17b0:(t654 == 0) = true:=beq_iff_eq.mpr c17
     have c17b1:(t654 != 0) = false:=bne_eq_false_iff_eq.mpr c17
     clear c17
     replace H:=Option.bind_eq_some_iff.mp H
     obtain ⟨⟨t656,t657⟩,A180,H⟩:=H
     replace H:((natural_Mul.f t653 t653).bind fun bt658=>((natural_Mul.f t656 t656).bind fun bt660=>((natural_Compare.f kj3 bt658.1 a0).bind fun bt662=>((natural_Compare.f kj3 bt660.1 a0).bind fun bt664=>(if (wrap64 ((wrap64 ((wrap64 ((wrap64 (t657 + bt658.2)) + bt660.2)) + bt662.2)) + bt664.2)) = 0 then (if bt662.1 > 0 then (garboardlaw01_NaturalRoots.j1 kj3 a0 a1 a2 true) else (garboardlaw01_NaturalRoots.j1 kj3 a0 a1 a2 (decide (bt664.1≤0)))) else (garboardlaw01_NaturalRoots.j1 kj3 a0 a1 a2 true)))))) = some r:=H
     have A18:=Aside0.mk A180
     clear A180
     replace H:=Option.bind_eq_some_iff.mp H
     obtain ⟨⟨t658,t659⟩,A190,H⟩:=H
     replace H:((natural_Mul.f t656 t656).bind fun bt660=>((natural_Compare.f kj3 t658 a0).bind fun bt662=>((natural_Compare.f kj3 bt660.1 a0).bind fun bt664=>(if (wrap64 ((wrap64 ((wrap64 ((wrap64 (t657 + t659)) + bt660.2)) + bt662.2)) + bt664.2)) = 0 then (if bt662.1 > 0 then (garboardlaw01_NaturalRoots.j1 kj3 a0 a1 a2 true) else (garboardlaw01_NaturalRoots.j1 kj3 a0 a1 a2 (decide (bt664.1≤0)))) else (garboardlaw01_NaturalRoots.j1 kj3 a0 a1 a2 true))))) = some r:=H
     have A19:=Aside0.mk A190
     clear A190
     replace H:=Option.bind_eq_some_iff.mp H
     obtain ⟨⟨t660,t661⟩,A200,H⟩:=H
     replace H:((natural_Compare.f kj3 t658 a0).bind fun bt662=>((natural_Compare.f kj3 t660 a0).bind fun bt664=>(if (wrap64 ((wrap64 ((wrap64 ((wrap64 (t657 + t659)) + t661)) + bt662.2)) + bt664.2)) = 0 then (if bt662.1 > 0 then (garboardlaw01_NaturalRoots.j1 kj3 a0 a1 a2 true) else (garboardlaw01_NaturalRoots.j1 kj3 a0 a1 a2 (decide (bt664.1≤0)))) else (garboardlaw01_NaturalRoots.j1 kj3 a0 a1 a2 true)))) = some r:=H
     have A20:=Aside0.mk A200
     clear A200
     replace H:=Option.bind_eq_some_iff.mp H
     obtain ⟨⟨t662,t663⟩,A210,H⟩:=H
     replace H:((natural_Compare.f kj3 t660 a0).bind fun bt664=>(if (wrap64 ((wrap64 ((wrap64 ((wrap64 (t657 + t659)) + t661)) + t663)) + bt664.2)) = 0 then (if t662 > 0 then (garboardlaw01_NaturalRoots.j1 kj3 a0 a1 a2 true) else (garboardlaw01_NaturalRoots.j1 kj3 a0 a1 a2 (decide (bt664.1≤0)))) else (garboardlaw01_NaturalRoots.j1 kj3 a0 a1 a2 true))) = some r:=H
     have A21:=Aside0.mk A210
     clear A210
     replace H:=Option.bind_eq_some_iff.mp H
     obtain ⟨⟨t664,t665⟩,A220,H⟩:=H
     replace H:(if (wrap64 ((wrap64 ((wrap64 ((wrap64 (t657 + t659)) + t661)) + t663)) + t665)) = 0 then (if t662 > 0 then (garboardlaw01_NaturalRoots.j1 kj3 a0 a1 a2 true) else (garboardlaw01_NaturalRoots.j1 kj3 a0 a1 a2 (decide (t664≤0)))) else (garboardlaw01_NaturalRoots.j1 kj3 a0 a1 a2 true)) = some r:=H
     have A22:=Aside0.mk A220
     clear A220
     have HC23:=Aside0.mk H
     clear H
     go_upto_region 11 with (first|((with_reducible refine gate_callee (f:=27) rfl ?_);refine goesL_ (some 37) rfl rfl Tryd.func27 (by kernel_rfl) rfl #[.string a0] rfl (by (try simp only [List.map_toArray,List.map_cons,List.map_nil]);first|done|rfl|(simp only [List.length_drop,List.length_take];rfl)) ?_;(with_reducible refine (natural_Root.calls kj3 a0 t653 t654 _ ?side1 A16.out).mono ?_);(case side1=>exact HLW.out.below (by repeat (first|(with_reducible first|exact HB.out|apply below_alloc|apply pw_below_drewN|apply below_drew1)|exact HB.out)));rintro e w24 ⟨rfl,hb⟩;refine ⟨_,rfl,?_⟩;have n0_:=Aside0.mk (below_step (by repeat (first|(with_reducible first|exact HB.out|apply below_alloc|apply pw_below_drewN|apply below_drew1)|exact HB.out)) hb);clear HB;have HB:=n0_;clear n0_;(try clear hb);(try clear hb2);(try clear hk);(try clear hi))|((with_reducible refine gate_callee (f:=17) rfl ?_);refine goesL_ (some 51) rfl rfl Tryd.func17 (by kernel_rfl) rfl #[.string t653,.string (⟨#[49]⟩:ByteArray)] rfl (by (try simp only [List.map_toArray,List.map_cons,List.map_nil]);first|done|rfl|(simp only [List.length_drop,List.length_take];rfl)) ?_;(with_reducible refine (natural_Add.calls t653 (⟨#[49]⟩:ByteArray) t656 t657 _ ?side1 A18.out).mono ?_);(case side1=>exact HLW.out.below (by repeat (first|(with_reducible first|exact HB.out|apply below_alloc|apply pw_below_drewN|apply below_drew1)|exact HB.out)));rintro e w25 ⟨rfl,hb⟩;refine ⟨_,rfl,?_⟩;have n0_:=Aside0.mk (below_step (by repeat (first|(with_reducible first|exact HB.out|apply below_alloc|apply pw_below_drewN|apply below_drew1)|exact HB.out)) hb);clear HB;have HB:=n0_;clear n0_;(try clear hb);(try clear hb2);(try clear hk);(try clear hi))|((with_reducible refine gate_callee (f:=21) rfl ?_);refine goesL_ (some 57) rfl rfl Tryd.func21 (by kernel_rfl) rfl #[.string t653,.string t653] rfl (by (try simp only [List.map_toArray,List.map_cons,List.map_nil]);first|done|rfl|(simp only [List.length_drop,List.length_take];rfl)) ?_;(with_reducible refine (natural_Mul.calls t653 t653 t658 t659 _ ?side1 A19.out).mono ?_);(case side1=>exact HLW.out.below (by repeat (first|(with_reducible first|exact HB.out|apply below_alloc|apply pw_below_drewN|apply below_drew1)|exact HB.out)));rintro e w26 ⟨rfl,hb⟩;refine ⟨_,rfl,?_⟩;have n0_:=Aside0.mk (below_step (by repeat (first|(with_reducible first|exact HB.out|apply below_alloc|apply pw_below_drewN|apply below_drew1)|exact HB.out)) hb);clear HB;have HB:=n0_;clear n0_;(try clear hb);(try clear hb2);(try clear hk);(try clear hi))|((with_reducible refine gate_callee (f:=21) rfl ?_);refine goesL_ (some 63) rfl rfl Tryd.func21 (by kernel_rfl) rfl #[.string t656,.string t656] rfl (by (try simp only [List.map_toArray,List.map_cons,List.map_nil]);first|done|rfl|(simp only [List.length_drop,List.length_take];rfl)) ?_;(with_reducible refine (natural_Mul.calls t656 t656 t660 t661 _ ?side1 A20.out).mono ?_);(case side1=>exact HLW.out.below (by repeat (first|(with_reducible first|exact HB.out|apply below_alloc|apply pw_below_drewN|apply below_drew1)|exact HB.out)));rintro e w27 ⟨rfl,hb⟩;refine ⟨_,rfl,?_⟩;have n0_:=Aside0.mk (below_step (by repeat (first|(with_reducible first|exact HB.out|apply below_alloc|apply pw_below_drewN|apply below_drew1)|exact HB.out)) hb);clear HB;have HB:=n0_;clear n0_;(try clear hb);(try clear hb2);(try clear hk);(try clear hi))|((with_reducible refine gate_callee (f:=13) rfl ?_);refine goesL_ (some 69) rfl rfl Tryd.func13 (by kernel_rfl) rfl #[.string t658,.string a0] rfl (by (try simp only [List.map_toArray,List.map_cons,List.map_nil]);first|done|rfl|(simp only [List.length_drop,List.length_take];rfl)) ?_;(with_reducible refine (natural_Compare.calls kj3 t658 a0 t662 t663 _ A21.out).mono ?_);rintro e w28 ⟨rfl,hb⟩;refine ⟨_,rfl,?_⟩;have n0_:=Aside0.mk (below_step (by repeat (first|(with_reducible first|exact HB.out|apply below_alloc|apply pw_below_drewN|apply below_drew1)|exact HB.out)) hb);clear HB;have HB:=n0_;clear n0_;(try clear hb);(try clear hb2);(try clear hk);(try clear hi))|((with_reducible refine gate_callee (f:=13) rfl ?_);refine goesL_ (some 75) rfl rfl Tryd.func13 (by kernel_rfl) rfl #[.string t660,.string a0] rfl (by (try simp only [List.map_toArray,List.map_cons,List.map_nil]);first|done|rfl|(simp only [List.length_drop,List.length_take];rfl)) ?_;(with_reducible refine (natural_Compare.calls kj3 t660 a0 t664 t665 _ A22.out).mono ?_);rintro e w29 ⟨rfl,hb⟩;refine ⟨_,rfl,?_⟩;have n0_:=Aside0.mk (below_step (by repeat (first|(with_reducible first|exact HB.out|apply below_alloc|apply pw_below_drewN|apply below_drew1)|exact HB.out)) hb);clear HB;have HB:=n0_;clear n0_;(try clear hb);(try clear hb2);(try clear hk);(try clear hi)))
     (try simp only [Act.put,List.setIfInBounds_toArray,List.set_cons_zero,List.set_cons_succ])
     go_cut [95] (fun v95 wc=>∃ (kq:Nat) (x95_22:Bool),v95 = .bool x95_22∧Aside0 (garboardlaw01_NaturalRoots.j1 kq a0 a1 a2 x95_22 = some r)∧Aside0 (kq≤kj3)∧Aside0 (Below w.heap.size w wc))
     case first =>
      have H:=HC23.out
      clear HC23
      by_cases c30:(wrap64 ((wrap64 ((wrap64 ((wrap64 (t657 + t659)) + t661)) + t663)) + t665)) = 0
      ·rw [if_pos c30] at H
       have c30b0:((wrap64 ((wrap64 ((wrap64 ((wrap64 (t657 + t659)) + t661)) + t663)) + t665)) == 0) = true:=beq_iff_eq.mpr c30
       have c30b1:((wrap64 ((wrap64 ((wrap64 ((wrap64 (t657 + t659)) + t661)) + t663)) + t665)) != 0) = false:=bne_eq_false_iff_eq.mpr c30
       clear c30
       (first|rw [c30b0]|(simp only [i64_w,i32_w];rw [c30b0])|skip)
       by_cases c31:t662 > 0
       ·rw [if_pos c31] at H
        have c31b0:decide (0 < t662) = true:=decide_eq_true c31
        clear c31
        have H':=Aside0.mk H
        clear H
        go_wp2
        go_meet
        case rel=>exact ⟨_,(true),(by first|rfl|(simp;done)|(simp [*];done)),H',⟨by have:=HJ3.out;first|omega|exact Nat.le_refl _⟩,⟨by repeat (first|(with_reducible first|exact HB.out|apply below_alloc|apply pw_below_drewN|apply below_drew1)|exact HB.out)⟩⟩
       ·rw [if_neg c31] at H
        have c31b0:decide (0 < t662) = false:=decide_eq_false c31
        clear c31
        have H':=Aside0.mk H
        clear H
        go_wp2
        go_meet
        case rel=>exact ⟨_,(decide (t664≤0)),(by first|rfl|(simp;done)|(simp [*];done)),H',⟨by have:=HJ3.out;first|omega|exact Nat.le_refl _⟩,⟨by repeat (first|(with_reducible first|exact HB.out|apply below_alloc|apply pw_below_drewN|apply below_drew1)|exact HB.out)⟩⟩
      ·rw [if_neg c30] at H
       have c30b0:((wrap64 ((wrap64 ((wrap64 ((wrap64 (t657 + t659)) + t661)) + t663)) + t665)) == 0) = false:=beq_eq_false_iff_ne.mpr c30
       have c30b1:((wrap64 ((wrap64 ((wrap64 ((wrap64 (t657 + t659)) + t661)) + t663)) + t665)) != 0) = true:=bne_iff_ne.mpr c30
       (first|rw [c30b0]|(simp only [i64_w,i32_w];rw [c30b0])|skip)
       have H':=Aside0.mk H
       clear H
       go_wp2
       go_meet
       case rel=>exact ⟨_,(true),(by first|rfl|(simp;done)|(simp [*];done)),H',⟨by have:=HJ3.out;first|omega|exact Nat.le_refl _⟩,⟨by repeat (first|(with_reducible first|exact HB.out|apply below_alloc|apply pw_below_drewN|apply below_drew1)|exact HB.out)⟩⟩
     case rest =>
      clear HC23
      try clear c1
      try clear c2
      try clear p2
      try clear c3
      try clear c6
      try clear p6
      try clear c10
      try clear c11
      try clear c13
      try clear c17
      try clear c17b0
      try clear c17b1
      try clear c21
      try clear c27
      try clear c30
      try clear c30b0
      try clear c30b1
      try clear c31
      try clear c31b0
      try clear p2
      obtain ⟨kq,x95_22,rfl,HA,HJ22,HB⟩:=hcut
      cases kq with
      | zero=>exact absurd HA.out (by simp [garboardlaw01_NaturalRoots.j1])
      | succ kj22 =>
       have H:=HA.out
       clear HA
       simp only [garboardlaw01_NaturalRoots.j1] at H
       by_cases c32:x95_22 = true
       ·subst c32
        have H1:(some false) = some r:=by rw [if_pos rfl] at H;exact H
        clear H
        have H:=H1
        clear H1
        obtain rfl:=Option.some.inj H
        go_wp2
        go_ret
        exact ⟨by first|rfl|(simp [errW_none,errW_some]<;>rfl)|(simp [*,errW_none,errW_some]<;>rfl),by repeat (first|(with_reducible first|exact HB.out|apply below_alloc|apply pw_below_drewN|apply below_drew1)|exact HB.out)⟩
       ·replace c32:=Bool.eq_false_iff.mpr c32
        subst c32
        have H1:((natural_Pow.f kj22 a0 (Int.tmod (wrap64 (a1)) 6)).bind fun bt666=>((natural_Pow.f kj22 a0 (Int.tmod (wrap64 (a2)) 6)).bind fun bt668=>((natural_Pow.f kj22 a0 (wrap64 ((Int.tmod (wrap64 (a1)) 6) + (Int.tmod (wrap64 (a2)) 6)))).bind fun bt670=>((natural_Mul.f bt666.1 bt668.1).bind fun bt672=>(if (wrap64 ((wrap64 ((wrap64 (bt666.2 + bt668.2)) + bt670.2)) + bt672.2)) = 0 then (some (bt672.1.toList == bt670.1.toList)) else (some false)))))) = some r:=by rw [if_neg (show ¬ (false = true) by decide)] at H;exact H
        clear H
        have H:=H1
        clear H1
        replace H:=Option.bind_eq_some_iff.mp H
        obtain ⟨⟨t666,t667⟩,A330,H⟩:=H
        replace H:((natural_Pow.f kj22 a0 (Int.tmod (wrap64 (a2)) 6)).bind fun bt668=>((natural_Pow.f kj22 a0 (wrap64 ((Int.tmod (wrap64 (a1)) 6) + (Int.tmod (wrap64 (a2)) 6)))).bind fun bt670=>((natural_Mul.f t666 bt668.1).bind fun bt672=>(if (wrap64 ((wrap64 ((wrap64 (t667 + bt668.2)) + bt670.2)) + bt672.2)) = 0 then (some (bt672.1.toList == bt670.1.toList)) else (some false))))) = some r:=H
        have A33:=Aside0.mk A330
        clear A330
        replace H:=Option.bind_eq_some_iff.mp H
        obtain ⟨⟨t668,t669⟩,A340,H⟩:=H
        replace H:((natural_Pow.f kj22 a0 (wrap64 ((Int.tmod (wrap64 (a1)) 6) + (Int.tmod (wrap64 (a2)) 6)))).bind fun bt670=>((natural_Mul.f t666 t668).bind fun bt672=>(if (wrap64 ((wrap64 ((wrap64 (t667 + t669)) + bt670.2)) + bt672.2)) = 0 then (some (bt672.1.toList == bt670.1.toList)) else (some false)))) = some r:=H
        have A34:=Aside0.mk A340
        clear A340
        replace H:=Option.bind_eq_some_iff.mp H
        obtain ⟨⟨t670,t671⟩,A350,H⟩:=H
        replace H:((natural_Mul.f t666 t668).bind fun bt672=>(if (wrap64 ((wrap64 ((wrap64 (t667 + t669)) + t671)) + bt672.2)) = 0 then (some (bt672.1.toList == t670.toList)) else (some false))) = some r:=H
        have A35:=Aside0.mk A350
        clear A350
        replace H:=Option.bind_eq_some_iff.mp H
        obtain ⟨⟨t672,t673⟩,A360,H⟩:=H
        replace H:(if (wrap64 ((wrap64 ((wrap64 (t667 + t669)) + t671)) + t673)) = 0 then (some (t672.toList == t670.toList)) else (some false)) = some r:=H
        have A36:=Aside0.mk A360
        clear A360
        by_cases c37:(wrap64 ((wrap64 ((wrap64 (t667 + t669)) + t671)) + t673)) = 0
        ·rw [if_pos c37] at H
         have c37b0:((wrap64 ((wrap64 ((wrap64 (t667 + t669)) + t671)) + t673)) == 0) = true:=beq_iff_eq.mpr c37
         have c37b1:((wrap64 ((wrap64 ((wrap64 (t667 + t669)) + t671)) + t673)) != 0) = false:=bne_eq_false_iff_eq.mpr c37
         clear c37
         obtain rfl:=Option.some.inj H
         go_wp2_with (first|((with_reducible refine gate_callee (f:=29) rfl ?_);refine goesL_ (some 101) rfl rfl Tryd.func29 (by kernel_rfl) rfl #[.string a0,.int .i64 (Int.tmod (wrap64 (a1)) 6)] rfl (by (try simp only [List.map_toArray,List.map_cons,List.map_nil]);first|done|rfl|(simp only [List.length_drop,List.length_take];rfl)) ?_;(with_reducible refine (natural_Pow.calls kj22 a0 (Int.tmod (wrap64 (a1)) 6) t666 t667 _ ?side1 A33.out).mono ?_);(case side1=>exact HLW.out.below (by repeat (first|(with_reducible first|exact HB.out|apply below_alloc|apply pw_below_drewN|apply below_drew1)|exact HB.out)));rintro e w38 ⟨rfl,hb⟩;refine ⟨_,rfl,?_⟩;have n0_:=Aside0.mk (below_step (by repeat (first|(with_reducible first|exact HB.out|apply below_alloc|apply pw_below_drewN|apply below_drew1)|exact HB.out)) hb);clear HB;have HB:=n0_;clear n0_;(try clear hb);(try clear hb2);(try clear hk);(try clear hi))|((with_reducible refine gate_callee (f:=29) rfl ?_);refine goesL_ (some 109) rfl rfl Tryd.func29 (by kernel_rfl) rfl #[.string a0,.int .i64 (Int.tmod (wrap64 (a2)) 6)] rfl (by (try simp only [List.map_toArray,List.map_cons,List.map_nil]);first|done|rfl|(simp only [List.length_drop,List.length_take];rfl)) ?_;(with_reducible refine (natural_Pow.calls kj22 a0 (Int.tmod (wrap64 (a2)) 6) t668 t669 _ ?side1 A34.out).mono ?_);(case side1=>exact HLW.out.below (by repeat (first|(with_reducible first|exact HB.out|apply below_alloc|apply pw_below_drewN|apply below_drew1)|exact HB.out)));rintro e w39 ⟨rfl,hb⟩;refine ⟨_,rfl,?_⟩;have n0_:=Aside0.mk (below_step (by repeat (first|(with_reducible first|exact HB.out|apply below_alloc|apply pw_below_drewN|apply below_drew1)|exact HB.out)) hb);clear HB;have HB:=n0_;clear n0_;(try clear hb);(try clear hb2);(try clear hk);(try clear hi))|((with_reducible refine gate_callee (f:=29) rfl ?_);refine goesL_ (some 121) rfl rfl Tryd.func29 (by kernel_rfl) rfl #[.string a0,.int .i64 (wrap64 ((Int.tmod (wrap64 (a1)) 6) + (Int.tmod (wrap64 (a2)) 6)))] rfl (by (try simp only [List.map_toArray,List.map_cons,List.map_nil]);first|done|rfl|(simp only [List.length_drop,List.length_take];rfl)) ?_;(with_reducible refine (natural_Pow.calls kj22 a0 (wrap64 ((Int.tmod (wrap64 (a1)) 6) + (Int.tmod (wrap64 (a2)) 6))) t670 t671 _ ?side1 A35.out).mono ?_);(case side1=>exact HLW.out.below (by repeat (first|(with_reducible first|exact HB.out|apply below_alloc|apply pw_below_drewN|apply below_drew1)|exact HB.out)));rintro e w40 ⟨rfl,hb⟩;refine ⟨_,rfl,?_⟩;have n0_:=Aside0.mk (below_step (by repeat (first|(with_reducible first|exact HB.out|apply below_alloc|apply pw_below_drewN|apply below_drew1)|exact HB.out)) hb);clear HB;have HB:=n0_;clear n0_;(try clear hb);(try clear hb2);(try clear hk);(try clear hi))|((with_reducible refine gate_callee (f:=21) rfl ?_);refine goesL_ (some 127) rfl rfl Tryd.func21 (by kernel_rfl) rfl #[.string t666,.string t668] rfl (by (try simp only [List.map_toArray,List.map_cons,List.map_nil]);first|done|rfl|(simp only [List.length_drop,List.length_take];rfl)) ?_;(with_reducible refine (natural_Mul.calls t666 t668 t672 t673 _ ?side1 A36.out).mono ?_);(case side1=>exact HLW.out.below (by repeat (first|(with_reducible first|exact HB.out|apply below_alloc|apply pw_below_drewN|apply below_drew1)|exact HB.out)));rintro e w41 ⟨rfl,hb⟩;refine ⟨_,rfl,?_⟩;have n0_:=Aside0.mk (below_step (by repeat (first|(with_reducible first|exact HB.out|apply below_alloc|apply pw_below_drewN|apply below_drew1)|exact HB.out)) hb);clear HB;have HB:=n0_;clear n0_;(try clear hb);(try clear hb2);(try clear hk);(try clear hi)))
         go_ret
         exact ⟨by first|rfl|(simp [errW_none,errW_some]<;>rfl)|(simp [*,errW_none,errW_some]<;>rfl),by repeat (first|(with_reducible first|exact HB.out|apply below_alloc|apply pw_below_drewN|apply below_drew1)|exact HB.out)⟩
        ·rw [if_neg c37] at H
         have c37b0:((wrap64 ((wrap64 ((wrap64 (t667 + t669)) + t671)) + t673)) == 0) = false:=beq_eq_false_iff_ne.mpr c37
         have c37b1:((wrap64 ((wrap64 ((wrap64 (t667 + t669)) + t671)) + t673)) != 0) = true:=bne_iff_ne.mpr c37
         obtain rfl:=Option.some.inj H
         go_wp2_with (first|((with_reducible refine gate_callee (f:=29) rfl ?_);refine goesL_ (some 101) rfl rfl Tryd.func29 (by kernel_rfl) rfl #[.string a0,.int .i64 (Int.tmod (wrap64 (a1)) 6)] rfl (by (try simp only [List.map_toArray,List.map_cons,List.map_nil]);first|done|rfl|(simp only [List.length_drop,List.length_take];rfl)) ?_;(with_reducible refine (natural_Pow.calls kj22 a0 (Int.tmod (wrap64 (a1)) 6) t666 t667 _ ?side1 A33.out).mono ?_);(case side1=>exact HLW.out.below (by repeat (first|(with_reducible first|exact HB.out|apply below_alloc|apply pw_below_drewN|apply below_drew1)|exact HB.out)));rintro e w42 ⟨rfl,hb⟩;refine ⟨_,rfl,?_⟩;have n0_:=Aside0.mk (below_step (by repeat (first|(with_reducible first|exact HB.out|apply below_alloc|apply pw_below_drewN|apply below_drew1)|exact HB.out)) hb);clear HB;have HB:=n0_;clear n0_;(try clear hb);(try clear hb2);(try clear hk);(try clear hi))|((with_reducible refine gate_callee (f:=29) rfl ?_);refine goesL_ (some 109) rfl rfl Tryd.func29 (by kernel_rfl) rfl #[.string a0,.int .i64 (Int.tmod (wrap64 (a2)) 6)] rfl (by (try simp only [List.map_toArray,List.map_cons,List.map_nil]);first|done|rfl|(simp only [List.length_drop,List.length_take];rfl)) ?_;(with_reducible refine (natural_Pow.calls kj22 a0 (Int.tmod (wrap64 (a2)) 6) t668 t669 _ ?side1 A34.out).mono ?_);(case side1=>exact HLW.out.below (by repeat (first|(with_reducible first|exact HB.out|apply below_alloc|apply pw_below_drewN|apply below_drew1)|exact HB.out)));rintro e w43 ⟨rfl,hb⟩;refine ⟨_,rfl,?_⟩;have n0_:=Aside0.mk (below_step (by repeat (first|(with_reducible first|exact HB.out|apply below_alloc|apply pw_below_drewN|apply below_drew1)|exact HB.out)) hb);clear HB;have HB:=n0_;clear n0_;(try clear hb);(try clear hb2);(try clear hk);(try clear hi))|((with_reducible refine gate_callee (f:=29) rfl ?_);refine goesL_ (some 121) rfl rfl Tryd.func29 (by kernel_rfl) rfl #[.string a0,.int .i64 (wrap64 ((Int.tmod (wrap64 (a1)) 6) + (Int.tmod (wrap64 (a2)) 6)))] rfl (by (try simp only [List.map_toArray,List.map_cons,List.map_nil]);first|done|rfl|(simp only [List.length_drop,List.length_take];rfl)) ?_;(with_reducible refine (natural_Pow.calls kj22 a0 (wrap64 ((Int.tmod (wrap64 (a1)) 6) + (Int.tmod (wrap64 (a2)) 6))) t670 t671 _ ?side1 A35.out).mono ?_);(case side1=>exact HLW.out.below (by repeat (first|(with_reducible first|exact HB.out|apply below_alloc|apply pw_below_drewN|apply below_drew1)|exact HB.out)));rintro e w44 ⟨rfl,hb⟩;refine ⟨_,rfl,?_⟩;have n0_:=Aside0.mk (below_step (by repeat (first|(with_reducible first|exact HB.out|apply below_alloc|apply pw_below_drewN|apply below_drew1)|exact HB.out)) hb);clear HB;have HB:=n0_;clear n0_;(try clear hb);(try clear hb2);(try clear hk);(try clear hi))|((with_reducible refine gate_callee (f:=21) rfl ?_);refine goesL_ (some 127) rfl rfl Tryd.func21 (by kernel_rfl) rfl #[.string t666,.string t668] rfl (by (try simp only [List.map_toArray,List.map_cons,List.map_nil]);first|done|rfl|(simp only [List.length_drop,List.length_take];rfl)) ?_;(with_reducible refine (natural_Mul.calls t666 t668 t672 t673 _ ?side1 A36.out).mono ?_);(case side1=>exact HLW.out.below (by repeat (first|(with_reducible first|exact HB.out|apply below_alloc|apply pw_below_drewN|apply below_drew1)|exact HB.out)));rintro e w45 ⟨rfl,hb⟩;refine ⟨_,rfl,?_⟩;have n0_:=Aside0.mk (below_step (by repeat (first|(with_reducible first|exact HB.out|apply below_alloc|apply pw_below_drewN|apply below_drew1)|exact HB.out)) hb);clear HB;have HB:=n0_;clear n0_;(try clear hb);(try clear hb2);(try clear hk);(try clear hi)))
         go_ret
         exact ⟨by first|rfl|(simp [errW_none,errW_some]<;>rfl)|(simp [*,errW_none,errW_some]<;>rfl),by repeat (first|(with_reducible first|exact HB.out|apply below_alloc|apply pw_below_drewN|apply below_drew1)|exact HB.out)⟩
    ·rw [if_neg c17] at H
     have c17b0:(t654 == 0) = false:=beq_eq_false_iff_ne.mpr c17
     have c17b1:(t654 != 0) = true:=bne_iff_ne.mpr c17
     by_cases c46:t653.toList = ([]:List UInt8)
     ·rw [if_pos c46] at H
      have c46b0:(t653.toList == ([]:List UInt8)) = true:=beq_iff_eq.mpr c46
      have c46b1:(t653.toList != ([]:List UInt8)) = false:=bne_eq_false_iff_eq.mpr c46
      clear c46
      replace H:=Option.bind_eq_some_iff.mp H
      obtain ⟨t655,A470,H⟩:=H
      replace H:(some (!t655)) = some r:=H
      have A47:=Aside0.mk A470
      clear A470
      obtain rfl:=Option.some.inj H
      go_wp2_with (first|((with_reducible refine gate_callee (f:=27) rfl ?_);refine goesL_ (some 37) rfl rfl Tryd.func27 (by kernel_rfl) rfl #[.string a0] rfl (by (try simp only [List.map_toArray,List.map_cons,List.map_nil]);first|done|rfl|(simp only [List.length_drop,List.length_take];rfl)) ?_;(with_reducible refine (natural_Root.calls kj3 a0 t653 t654 _ ?side1 A16.out).mono ?_);(case side1=>exact HLW.out.below (by repeat (first|(with_reducible first|exact HB.out|apply below_alloc|apply pw_below_drewN|apply below_drew1)|exact HB.out)));rintro e w48 ⟨rfl,hb⟩;refine ⟨_,rfl,?_⟩;have n0_:=Aside0.mk (below_step (by repeat (first|(with_reducible first|exact HB.out|apply below_alloc|apply pw_below_drewN|apply below_drew1)|exact HB.out)) hb);clear HB;have HB:=n0_;clear n0_;(try clear hb);(try clear hb2);(try clear hk);(try clear hi))|(go_at_call 15;(with_reducible refine (natural_Valid.calls kj3 a0 t655 _ A47.out).mono ?_);rintro e w' ⟨rfl,⟨nd,rfl⟩⟩))
      go_ret
      exact ⟨by first|rfl|(simp [errW_none,errW_some]<;>rfl)|(simp [*,errW_none,errW_some]<;>rfl),by repeat (first|(with_reducible first|exact HB.out|apply below_alloc|apply pw_below_drewN|apply below_drew1)|exact HB.out)⟩
     ·rw [if_neg c46] at H
      have c46b0:(t653.toList == ([]:List UInt8)) = false:=beq_eq_false_iff_ne.mpr c46
      have c46b1:(t653.toList != ([]:List UInt8)) = true:=bne_iff_ne.mpr c46
      obtain rfl:=Option.some.inj H
      go_wp2_with (first|((with_reducible refine gate_callee (f:=27) rfl ?_);refine goesL_ (some 37) rfl rfl Tryd.func27 (by kernel_rfl) rfl #[.string a0] rfl (by (try simp only [List.map_toArray,List.map_cons,List.map_nil]);first|done|rfl|(simp only [List.length_drop,List.length_take];rfl)) ?_;(with_reducible refine (natural_Root.calls kj3 a0 t653 t654 _ ?side1 A16.out).mono ?_);(case side1=>exact HLW.out.below (by repeat (first|(with_reducible first|exact HB.out|apply below_alloc|apply pw_below_drewN|apply below_drew1)|exact HB.out)));rintro e w49 ⟨rfl,hb⟩;refine ⟨_,rfl,?_⟩;have n0_:=Aside0.mk (below_step (by repeat (first|(with_reducible first|exact HB.out|apply below_alloc|apply pw_below_drewN|apply below_drew1)|exact HB.out)) hb);clear HB;have HB:=n0_;clear n0_;(try clear hb);(try clear hb2);(try clear hk);(try clear hi)))
      go_ret
      exact ⟨by first|rfl|(simp [errW_none,errW_some]<;>rfl)|(simp [*,errW_none,errW_some]<;>rfl),by repeat (first|(with_reducible first|exact HB.out|apply below_alloc|apply pw_below_drewN|apply below_drew1)|exact HB.out)⟩
end Go.Proofs.YtaopmkcghancmaaDoor.Pr
set_option linter.unusedVariables false
set_option linter.unusedSimpArgs false
namespace Go.Proofs.YtaopmkcghancmaaDoor.Pr
open Go.RowKit Go.Lib Go.Proofs.YtaopmkcghancmaaDoorW.PrintWords Go.Proofs.YtaopmkcghancmaaDoorW.PrintLast Go.Proofs.YtaopmkcghancmaaDoorW.PrintMore Go.Proofs.YtaopmkcghancmaaDoor.NatTh
theorem mod6 (x:Int) (h0:0≤x) (h1:x < 256):Int.tmod (wrap64 x) 6 = ((x.toNat % 6:Nat):Int):=by
 obtain ⟨n,rfl⟩:=Int.eq_ofNat_of_zero_le h0
 have:wrap64 (n:Int) = n:=by
  unfold wrap64
  omega
 rw [this,Int.toNat_natCast]
 rfl
theorem Roots_j1 (m:Nat) (x y:Int) (hm:Sz 120 m) (hx0:0≤x) (hx1:x < 256) (hy0:0≤y) (hy1:y < 256):Ev (fun k=>garboardlaw01_NaturalRoots.j1 k (num m) x y false) true:=by
 have sm:=hm.sm (by omega) (by omega)
 have ex:=mod6 x hx0 hx1
 have ey:=mod6 y hy0 hy1
 have lu:x.toNat % 6 < 6:=Nat.mod_lt _ (by omega)
 have lv:y.toNat % 6 < 6:=Nat.mod_lt _ (by omega)
 generalize x.toNat % 6 = u at ex lu
 generalize y.toNat % 6 = v at ey lv
 have es:wrap64 ((u:Int) + (v:Int)) = ((u + v:Nat):Int):=by
  unfold wrap64
  omega
 refine Ev.step (fun k=>by rw [garboardlaw01_NaturalRoots.j1,if_neg (by simp),ex,ey,es]) (Ev.bind (pow_e u (by omega) sm) (Ev.bind (pow_e v (by omega) sm) (Ev.bind (pow_e (u + v) (by omega) sm) ?_)))
 have hu:=hm.pow u (by omega)
 have hv:=hm.pow v (by omega)
 dsimp only
 rw [mul_f (hu.sh (by omega) (by omega)) (hv.sh (by omega) (by omega))]
 refine Ev.congr (fun k=>?_) (Ev.now _)
 rw [Option.bind_some]
 simp only [w00]
 rw [if_pos trivial,Nat.pow_add,beq_self_eq_true]
theorem Roots_law (a:ByteArray) (x y:Int) (hx0:0≤x) (hx1:x < 256) (hy0:0≤y) (hy1:y < 256):Ev (fun k=>garboardlaw01_NaturalRoots.f k a x y) true:=by
 refine law_head [a] (by simp) (fun k t=>garboardlaw01_NaturalRoots.j0 k a x y t) _ (fun k=>rfl) (fun k=>by rw [garboardlaw01_NaturalRoots.j0,if_pos rfl]) (fun hs=>?_)
 have ha:=hs a (by simp)
 have va:=Valid_ev a (by omega)
 refine Ev.step (fun k=>by rw [garboardlaw01_NaturalRoots.j0,if_neg (by simp)]) (Ev.bind (Root_ev a (sm120 ha)) ?_)
 unfold rootV
 cases h1:nv a with
 | false =>
  rw [h1] at va
  rw [if_neg (by simp)]
  exact Ev.congr (fun k=>(if_neg (by decide)).trans (if_pos nil_toList)) (Ev.bind va (Ev.now _))
 | true =>
  rw [if_pos rfl]
  obtain ⟨m,rfl,hm⟩:=is_num h1 ha
  rw [nat_num]
  obtain ⟨r1,r2⟩:=rt_spec m
  have hr:Sz 120 (rt m):=by
   refine hm.le ?_
   by_cases h0:rt m = 0
   ·omega
   ·exact Nat.le_trans (Nat.le_mul_of_pos_left _ (Nat.pos_of_ne_zero h0)) r1
  have h1:Sz 1 1:=by unfold Sz;omega
  have hn:Sz 121 (rt m + 1):=hr.add (h1.mono (by omega))
  have sm:=hm.sh (by omega) (by omega)
  have sr:=hr.sh (by omega) (by omega)
  have sn:=hn.sh (by omega) (by omega)
  have sp:=(hr.mul hr).sh (by omega) (by omega)
  have sq:=(hn.mul hn).sh (by omega) (by omega)
  refine Ev.congr (fun k=>if_pos rfl) ?_
  dsimp only
  rw [str1,add_f sr (h1.sh (by omega) (by omega))]
  simp only [Option.bind_some]
  rw [mul_f sr sr,mul_f sn sn]
  simp only [Option.bind_some]
  refine Ev.bind (cmp_e sp sm) (Ev.bind (cmp_e sq sm) ?_)
  refine Ev.congr (fun k=>?_) (Roots_j1 m x y hm hx0 hx1 hy0 hy1)
  have o1:¬ ord (rt m * rt m) m > 0:=by
   unfold ord
   split
   ·omega
   ·rw [if_neg (by omega)]
    omega
  simp only [w00]
  rw [if_pos trivial,if_neg o1,ord_gt r2]
  rfl
end Go.Proofs.YtaopmkcghancmaaDoor.Pr
namespace Go.Proofs.YtaopmkcghancmaaDoor.Pr
set_option linter.unusedVariables false
set_option linter.unusedSimpArgs false
open Go.ChangeShapes Go.WideShapes Go.ChangeAt Go.RowKit Go.Proofs.YtaopmkcghancmaaDoorW.PrintWords
set_option maxRecDepth 100000 in
theorem open_u8_naturalRoots {H:Type} {enc:TypeId × Value→H} {W:World} {r:Reach} {b0:Nat} {v:Value} {d:DataW H} {p:List MemPlace} (hv:Value.okWide Tryd.prog W r b0 5 v) (h:DataW.Trod enc Tryd.prog W 0 (fun _=>true) true 5 v d p):∃ s,v = .int .u8 s∧(Lit.int .u8 s).wf = true:=by
 obtain ⟨s,e,_,_,hw⟩:=open_int Tryd.underlying5 hv h
 exact ⟨s,e,hw⟩
set_option maxRecDepth 100000 in
theorem naturalRoots_lifted (os:Os) (started:os.Started) (H:Type) (enc:TypeId × Value→H) :
  ReturnsInHanded {} Tryd.checked os 10 .any (fun w args=>(Rows.naturalRootsSpec.pre enc Tryd.prog Tryd.f10 [] false w args∧laidMetH Tryd.prog laid5 w)∧sizedMet enc Tryd.prog Tryd.f10 (OpenSpec.ofChange Rows.naturalRootsSpec) false w args)
   (Rows.naturalRootsSpec.post enc Tryd.prog Tryd.f10 false true false false):=by
 refine returnsInHanded_of_change_and (C:=Tryd.checked) (X:=fun w _=>laidMetH Tryd.prog laid5 w) (fun _ _ _ hh h=>h.of_heap hh) own started (by kernel_rfl) Tryd.func10
  (ChangeSpec.witness_shaped (enc:=enc) (C:=Tryd.checked) (os:=os) (X:=fun w _=>laidMetH Tryd.prog laid5 w) false (World.doorLaid Tryd.prog 400 os) #[.string ⟨#[]⟩,.int .u8 0,.int .u8 0] 8 rfl (World.shaped_of_RefB (by kernel_rfl) (by kernel_rfl)) (by kernel_rfl) (by kernel_rfl) (by kernel_rfl) (door_met os _)) ?_
 intro W base args ds gs before hval0 hW _ _ hL _
 have hval:∀ (j:Nat) t v,Tryd.f10.params[j]? = some t→args[j]? = some v→Value.okWide Tryd.prog W .any base t v:=hval0
 have hW':=hW
 obtain ⟨p,q,hA0,hV,rfl,hfz,hnd⟩:=hW
 have hA:DataW.TrodAll enc Tryd.prog W 0 (fun _=>true) true Tryd.f10.params.toList args.toList ds p:=hA0
 rw [Tryd.params10] at hA hval
 obtain ⟨v0,vs0,d0,ds0,p0,q0,hargs,rfl,rfl,h0,r0⟩:=trodAll_cons hA
 obtain ⟨v1,vs1,d1,ds1,p1,q1,rfl,rfl,rfl,h1,r1⟩:=trodAll_cons r0
 obtain ⟨v2,vs2,d2,ds2,p2,q2,rfl,rfl,rfl,h2,r2⟩:=trodAll_cons r1
 obtain ⟨rfl,rfl,rfl⟩:=trodAll_nil r2
 obtain rfl:args = #[v0,v1,v2]:=by cases args;simp_all
 obtain ⟨rfl,rfl⟩:=trodVars_none hV
 have lt0:∀ x ∈ p0,x.block < W.heap.size:=by obtain ⟨m,hm⟩:=h0;exact DataW.trod_lt m _ _ _ hm
 have lt1:∀ x ∈ p1,x.block < W.heap.size:=by obtain ⟨m,hm⟩:=h1;exact DataW.trod_lt m _ _ _ hm
 have lt2:∀ x ∈ p2,x.block < W.heap.size:=by obtain ⟨m,hm⟩:=h2;exact DataW.trod_lt m _ _ _ hm
 have k0:=h0
 have k1:=h1
 have k2:=h2
 obtain ⟨a0,rfl⟩:=openS (hval 0 9 v0 rfl rfl) h0
 obtain ⟨a1,rfl,w1⟩:=open_u8_naturalRoots (hval 1 5 v1 rfl rfl) h1
 obtain ⟨a2,rfl,w2⟩:=open_u8_naturalRoots (hval 2 5 v2 rfl rfl) h2
 have hT:=laid_tab hL
 clear hA0 hval0 hval
 obtain ⟨k,hk⟩:=(Roots_law a0 a1 a2 ((Lit.wf_int_iff .u8 a1).1 w1).1 (Int.lt_of_le_of_lt ((Lit.wf_int_iff .u8 a1).1 w1).2 (by decide)) ((Lit.wf_int_iff .u8 a2).1 w2).1 (Int.lt_of_le_of_lt ((Lit.wf_int_iff .u8 a2).1 w2).2 (by decide))).rounds
 refine (garboardlaw01_NaturalRoots.calls k a0 a1 a2 true W hT hk).mono fun e W' ⟨he,bel⟩=>?_
 subst he
 exact ⟨_,rfl,_,_,_,[],_,[],hW',trodAll_mk1 (shut_bool Tryd.underlying4 _),(trodAll_cons_mk (Below.trod laidOut (by kernel_rfl) (of_decide_eq_true (by kernel_rfl)) k0 bel lt0) (trodAll_cons_mk (Below.trod laidOut (by kernel_rfl) (of_decide_eq_true (by kernel_rfl)) k1 bel lt1) (trodAll_cons_mk (Below.trod laidOut (by kernel_rfl) (of_decide_eq_true (by kernel_rfl)) k2 bel lt2) trodAll_mk0))),rfl,bel.frame _,fun h=>by cases h⟩
theorem naturalRoots_row:Rows.NaturalRootsSaid :=
 OpenClaim.holds_of_wide 10 Tryd.f10 rfl rfl rfl rfl rfl rfl rfl ⟨rfl,rfl,rfl,rfl,rfl⟩ rfl rfl rfl rfl rfl (by kernel_rfl) Tryd.func10 (by kernel_rfl)
  (of_decide_eq_true (by kernel_rfl)) (by unfold Func.isWrapper;first|(rw [if_pos (by decide +kernel)];kernel_rfl)|(rw [if_neg (by decide +kernel)];exact ⟨rfl,rfl⟩))
  (fun os started H enc _=>naturalRoots_lifted os started H enc)
end Go.Proofs.YtaopmkcghancmaaDoor.Pr
namespace Go.Proofs.YtaopmkcghancmaaDoor
open Go
theorem naturalRoots_card_holds:Rows.NaturalRootsCardSaid :=
 Claim7.holds_tied_plain_at .later [] [.data,.data,.data,.sentinel,.sentinel] true (true, "15e2bb534210d3ebfac1118a7fbd3a9c70502882d4f4aec048f40a6a26db7ede") true
  Pr.naturalRoots_row (fun _ h=>by cases h) (by kernel_rfl) (fun _ h=>by cases h) naturalRoots_row_tie rfl ⟨rfl,rfl⟩ (by kernel_rfl) rfl
  (fun f fn hf hfn=>by
   obtain rfl:f = 10:=Option.some.inj ((show Tryd.prog.funcNamed "garboard/garboardlaw01.NaturalRoots" = some 10 by kernel_rfl).symm.trans hf) |>.symm
   obtain rfl:fn = Tryd.f10:=(Option.some.inj (Tryd.func10.symm.trans hfn)).symm
   exact ⟨by kernel_rfl,fun j t ht=>by
    rw [Tryd.params10] at ht
    have hm:t ∈ [9,5,5]:=by simpa using Array.mem_of_getElem? ht
    have hall:([9,5,5].all fun u=>!Tryd.prog.wantsStandIn u) = true:=by kernel_rfl
    exact (show Tryd.prog.wantsStandIn t = false by simpa using List.all_eq_true.1 hall t hm)⟩)
  (by kernel_rfl)
end Go.Proofs.YtaopmkcghancmaaDoor
