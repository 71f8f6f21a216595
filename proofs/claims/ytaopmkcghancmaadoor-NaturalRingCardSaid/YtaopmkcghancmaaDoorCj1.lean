/- Part 1 of 1: garboardlaw01.NaturalRing (addition and multiplication commute, associate and distribute; at most 120 bytes each) answers true for every input, and each argument reads behind the call as before. The library's tables are tied to the program's text by the card. -/
import Derived.Below
import Derived.Deep.Draws
import Derived.Deep.AppendLies
import Derived.Maps.AppendAt
import Derived.OwnWalk
import Derived.Laws.BytesArg
import Derived.Laws.MakeOwn
import Derived.Laws.OwnMore
import Derived.Deep.OwnRows
import Derived.Tactics
import Derived.Lib.ConvBytes
import Derived.Laws.Slices
import Derived.WalkKit
import Derived.KernelRfl
import Derived.RowKit3
import Derived.Deep.LoopGhost
import Derived.Deep.QuietTactic
import Derived.BigQuiet
import Derived.WideLaws
import Derived.Deep.DeepCutAuto
import Derived.Deep.CutBlock
import Derived.Deep.RegionHeld3
import Derived.Laws.Rows
import Derived.Lib.AppendStr
import Derived.ArgAppend
import Derived.Laws.IdiomCopy
import Derived.RowKit
import Derived.OrdersHeld
import Derived.Laws.BitsLemmas
import Derived.Laws.StructEq
import Derived.Test.YtaopmkcghancmaaDoorProg
import Derived.Shelf.Strings.Builder1
import Derived.Shelf.Strings.Builder2
import Derived.Shelf.Small.Wraps
import Derived.Shelf.Strings.BuilderF
import Derived.Shelf.Strings.BuilderK
import Derived.Shelf.Strings.Builder2Cap
import Derived.Shelf.Strconv.Itoa0
import Derived.Shelf.Strconv.Itoa1
import Derived.Shelf.LaysM
import Derived.Shelf.Strconv.Itoa2
import Derived.Shelf.Strconv.Itoa3
import Derived.Shelf.Strconv.Clone
import Derived.Shelf.Strconv.SyntaxError
import Derived.Shelf.Strconv.Lower
import Derived.Shelf.Strconv.ParseUint10
import Derived.Shelf.Strconv.ParseUint10Empty
import Derived.Shelf.Strconv.RangeError
import Derived.Shelf.Strconv.ParseUintEmpty
import Derived.Shelf.Strconv.ParseUint10b64
import Derived.Shelf.Strconv.ParseUint10b32
import Derived.Shelf.Strconv.ParseUint10b16
import Derived.Shelf.Strconv.ParseUint10b8
import Derived.Ground.MpProg
import Derived.Shelf.Pu.ParseUintPublic10
import Derived.Shelf.Strings.Prefix
import Derived.Shelf.Bits.Mul64
import Derived.Shelf.Strings.Repeat
import Derived.Ground.Names2Prog
import Derived.Shelf.Slices.SearchI
import Derived.Lib.AtoiErrMem
import Derived.Lib.ItoaNum
import Derived.Lib.ParseIntB
import Derived.RangeFuncFrom
import Derived.RangeFuncBox
import Derived.RangeFuncLeaves
import Derived.RangeFuncCalls
import Derived.RangeFuncBound
import Derived.Shelf.Abstract
import Derived.OwnWalkIn
import Derived.TacticsInMore
import Derived.LoopNIn
import Derived.LoopIn
import Derived.Lib.Hide
import Derived.Lib.FrozenHead
import Derived.Lib.AppendIntMem
import Derived.Lib.Walk
import Derived.Lib.ItoaMem
import Derived.BigCall
import Derived.BigGuard
import Derived.Lib.SmallJoins
import Derived.LaidMore
import Derived.ProofKit
import Derived.Stop.Joined
import Derived.SizedLaws
import Derived.DataShut
import Derived.SevenTiedAt
import Derived.Test.YtaopmkcghancmaaDoorCz4
set_option linter.unusedVariables false
set_option linter.unusedSimpArgs false
namespace Go.Proofs.YtaopmkcghancmaaDoor.Pr
open Go.RowKit Go.Lib Go.Proofs.YtaopmkcghancmaaDoorW.PrintWords Go.Proofs.YtaopmkcghancmaaDoorW.PrintLast Go.Proofs.YtaopmkcghancmaaDoorW.PrintMore Go.Proofs.YtaopmkcghancmaaDoor.NatTh
theorem nv_num (n:Nat):nv (num n) = true:=(nv_iff _).2 (nml_dec n)
theorem nat_num (n:Nat):nat (num n) = n:=pv_dec n
theorem bs_inj {a b:ByteArray} (h:bs a = bs b):a = b:=by
 cases a
 cases b
 exact congrArg _ (Array.toList_inj.1 h)
theorem num_nat {a:ByteArray} (h:nv a = true):num (nat a) = a:=bs_inj (dec_pv (bs a) ((nv_iff a).1 h))
theorem num0:(num 0).toList = ([48]:List UInt8):=num_list _ _ (by decide +kernel) (by decide +kernel)
theorem num1:(num 1).toList = ([49]:List UInt8):=num_list _ _ (by decide +kernel) (by decide +kernel)
theorem str1:(⟨#[49]⟩:ByteArray) = num 1:=bs_inj (by rw [← toL (num 1),num1])
theorem str0:(⟨#[48]⟩:ByteArray) = num 0:=bs_inj (by rw [← toL (num 0),num0])
def Sz (e n:Nat):Prop:=n < 10 ^ e
theorem sz_size {e n:Nat} (he:1≤e) (h:Sz e n):(num n).size≤e:=by
 have h1:(num n).size = nDigits n:=by
  rw [← bs_length,show bs (num n) = decDigits n from rfl,decDigits_length]
 rw [h1]
 exact nDigits_le e n he h
theorem Sz.add {e m n:Nat} (hm:Sz e m) (hn:Sz e n):Sz (e + 1) (m + n):=by
 unfold Sz at *
 have:10 ^ (e + 1) = 10 ^ e * 10:=Nat.pow_succ 10 e
 omega
theorem Sz.mul {e f m n:Nat} (hm:Sz e m) (hn:Sz f n):Sz (e + f) (m * n):=by
 unfold Sz at *
 rw [Nat.pow_add]
 exact Nat.mul_lt_mul'' hm hn
theorem Sz.sh {e n:Nat} (h:Sz e n) (he:1≤e) (h2:e≤100000):Sh (num n):=Nat.le_trans (sz_size he h) (by omega)
theorem is_num {a:ByteArray} (h:nv a = true) (hs:a.size≤120):∃ n,a = num n∧Sz 120 n:=by
 refine ⟨nat a,(num_nat h).symm,?_⟩
 have h1:=pv_lt (bs a) ((nv_iff a).1 h).1
 rw [bs_length] at h1
 exact Nat.lt_of_lt_of_le h1 (Nat.pow_le_pow_right (by omega) hs)
theorem both_num (m n:Nat):(nv (num m) && nv (num n)) = true:=by rw [nv_num,nv_num];rfl
theorem add_f {m n:Nat} (hm:Sh (num m)) (hn:Sh (num n)):natural_Add.f (num m) (num n) = some (num (m + n),0):=by
 unfold natural_Add.f addV
 rw [if_pos ⟨hm,hn⟩,if_pos (both_num m n),nat_num,nat_num]
theorem mul_f {m n:Nat} (hm:Sh (num m)) (hn:Sh (num n)):natural_Mul.f (num m) (num n) = some (num (m * n),0):=by
 unfold natural_Mul.f mulV
 rw [if_pos ⟨hm,hn⟩,if_pos (both_num m n),nat_num,nat_num]
end Go.Proofs.YtaopmkcghancmaaDoor.Pr
namespace Go.Proofs.YtaopmkcghancmaaDoor.Pr
set_option linter.unusedVariables false
set_option linter.unusedSimpArgs false
open Go.ChangeShapes Go.WideShapes Go.ChangeAt Go.Deep Go.Joins Go.RowKit Go.Proofs.YtaopmkcghancmaaDoorW.PrintWords
theorem own:ownKnob Tryd.prog.godebug = none:=by kernel_rfl
theorem laidOut:laidOutB Tryd.prog = true:=by kernel_rfl
set_option maxRecDepth 100000 in
theorem openS {H:Type} {enc:TypeId × Value→H} {W:World} {r:Reach} {b0:Nat} {v:Value} {d:DataW H} {p:List MemPlace} (hv:Value.okWide Tryd.prog W r b0 9 v) (h:DataW.Trod enc Tryd.prog W 0 (fun _=>true) true 9 v d p):∃ s,v = .string s:=by
 obtain ⟨s,e,_⟩:=Go.ChangeMaps.open_string Tryd.underlying9 hv h
 exact ⟨s,e⟩
def laid5:List (String × DataW Unit):=[("math/bits.deBruijn32tab",Rows.laid_math_bits_deBruijn32tab),("math/bits.deBruijn64tab",Rows.laid_math_bits_deBruijn64tab),("internal/strconv.uint64pow10",Rows.laid_internal_strconv_uint64pow10),("strconv.ErrRange",Rows.laid_strconv_ErrRange),("strconv.ErrSyntax",Rows.laid_strconv_ErrSyntax)]
theorem gPow:Tryd.prog.globalNamed "internal/strconv.uint64pow10" = some 0:=by kernel_rfl
theorem gPowType:(Tryd.prog.globals[0]?).map (·.type) = some 123:=by kernel_rfl
theorem laid_tab {W:World} (h:laidMetH Tryd.prog laid5 W):LaidW W:=by
 rw [MakeChecks.laidMetH_plain _ _ _ (by kernel_rfl)] at h
 obtain ⟨ps,⟨g0,t0,cs0,f0,p0,q0,hg0,ht0,hv0,hd0,⟨g1,t1,cs1,f1,p1,q1,hg1,ht1,hv1,hd1,⟨g2,t2,cs2,f2,p2,q2,hg2,ht2,hv2,hd2,_,_⟩,_⟩,_⟩,_⟩:=h
 obtain rfl:=Option.some.inj (gPow.symm.trans hg2)
 obtain rfl:=Option.some.inj (gPowType.symm.trans ht2)
 have e:(Rows.laid_internal_strconv_uint64pow10:DataW Unit) = Lib.tabData .u64 Lib.pow10Tab:=rfl
 rw [e] at hd2
 unfold LaidW Lib.TabIs
 rw [hv2,← Lib.cells_of_tab Tryd.underlying123 Tryd.underlying61 (by kernel_rfl) (by kernel_rfl) hd2]
theorem door_met (os:Os) (args:Array Value):laidMetH Tryd.prog laid5 ((World.doorLaid Tryd.prog 400 os).forCall (fun _ _=>0) ⟨#[],args,[]⟩).memory :=
 laidMetH_of_parts3 (fuel:=8) (laidMet_of_run' 8 (by kernel_rfl) (by kernel_rfl)) (by kernel_rfl) (by kernel_rfl)
end Go.Proofs.YtaopmkcghancmaaDoor.Pr
namespace Go.Proofs.YtaopmkcghancmaaDoor.Pr
open Go.RowKit Go.Proofs.YtaopmkcghancmaaDoorW.PrintWords Go.Proofs.YtaopmkcghancmaaDoorW.PrintLast Go.Proofs.YtaopmkcghancmaaDoorW.PrintMore
attribute [local go_sem] max2_int min2_int max_two min_two max_three min_three max_four min_four
set_option linter.unusedVariables false
set_option linter.unusedSimpArgs false
def garboardlaw01_NaturalRing_1.f (a0:ByteArray) (a1:ByteArray):Option (ByteArray):=(natural_Add.f a0 a1).bind fun bt584=>(some bt584.1)
set_option maxHeartbeats 8000000 in
set_option maxRecDepth 100000 in
theorem garboardlaw01_NaturalRing_1.calls (a0:ByteArray) (a1:ByteArray) (r:ByteArray) (w:World) (hL:LaidW w) (h:garboardlaw01_NaturalRing_1.f a0 a1 = some r) :
  Calls Tryd.prog 31 #[.string a0,.string a1] w fun e w'=>e = .returned (.string r)∧Below w.heap.size w w':=by
 have HB:=Aside0.mk (Below.refl w.heap.size w)
 have HLW:=Aside0.mk hL
 clear hL
 have H:((natural_Add.f a0 a1).bind fun bt584=>(some bt584.1)) = some r:=h
 clear h
 replace H:=Option.bind_eq_some_iff.mp H
 obtain ⟨⟨t584,t585⟩,A30,H⟩:=H
 replace H:(some t584) = some r:=H
 have A3:=Aside0.mk A30
 clear A30
 obtain rfl:=Option.some.inj H
 go_enter Tryd.func31,Tryd.ntmps31
 go_wp2_with (first|((with_reducible refine gate_callee (f:=17) rfl ?_);refine goesL_ (some 10) rfl rfl Tryd.func17 (by kernel_rfl) rfl #[.string a0,.string a1] rfl (by (try simp only [List.map_toArray,List.map_cons,List.map_nil]);first|done|rfl|(simp only [List.length_drop,List.length_take];rfl)) ?_;(with_reducible refine (natural_Add.calls a0 a1 t584 t585 _ ?side1 A3.out).mono ?_);(case side1=>exact HLW.out.below (by repeat (first|(with_reducible first|exact HB.out|apply below_alloc|apply pw_below_drewN|apply below_drew1)|exact HB.out)));rintro e w4 ⟨rfl,hb⟩;refine ⟨_,rfl,?_⟩;have n0_:=Aside0.mk (below_step (by repeat (first|(with_reducible first|exact HB.out|apply below_alloc|apply pw_below_drewN|apply below_drew1)|exact HB.out)) hb);clear HB;have HB:=n0_;clear n0_;(try clear hb);(try clear hb2);(try clear hk);(try clear hi)))
 go_ret
 exact ⟨by first|rfl|(simp [errW_none,errW_some]<;>rfl)|(simp [*,errW_none,errW_some]<;>rfl),by repeat (first|(with_reducible first|exact HB.out|apply below_alloc|apply pw_below_drewN|apply below_drew1)|exact HB.out)⟩
end Go.Proofs.YtaopmkcghancmaaDoor.Pr
namespace Go.Proofs.YtaopmkcghancmaaDoor.Pr
open Go.RowKit Go.Proofs.YtaopmkcghancmaaDoorW.PrintWords Go.Proofs.YtaopmkcghancmaaDoorW.PrintLast Go.Proofs.YtaopmkcghancmaaDoorW.PrintMore
attribute [local go_sem] max2_int min2_int max_two min_two max_three min_three max_four min_four
set_option linter.unusedVariables false
set_option linter.unusedSimpArgs false
def garboardlaw01_NaturalRing_2.f (a0:ByteArray) (a1:ByteArray):Option (ByteArray):=(natural_Mul.f a0 a1).bind fun bt586=>(some bt586.1)
set_option maxHeartbeats 8000000 in
set_option maxRecDepth 100000 in
theorem garboardlaw01_NaturalRing_2.calls (a0:ByteArray) (a1:ByteArray) (r:ByteArray) (w:World) (hL:LaidW w) (h:garboardlaw01_NaturalRing_2.f a0 a1 = some r) :
  Calls Tryd.prog 32 #[.string a0,.string a1] w fun e w'=>e = .returned (.string r)∧Below w.heap.size w w':=by
 have HB:=Aside0.mk (Below.refl w.heap.size w)
 have HLW:=Aside0.mk hL
 clear hL
 have H:((natural_Mul.f a0 a1).bind fun bt586=>(some bt586.1)) = some r:=h
 clear h
 replace H:=Option.bind_eq_some_iff.mp H
 obtain ⟨⟨t586,t587⟩,A30,H⟩:=H
 replace H:(some t586) = some r:=H
 have A3:=Aside0.mk A30
 clear A30
 obtain rfl:=Option.some.inj H
 go_enter Tryd.func32,Tryd.ntmps32
 go_wp2_with (first|((with_reducible refine gate_callee (f:=21) rfl ?_);refine goesL_ (some 10) rfl rfl Tryd.func21 (by kernel_rfl) rfl #[.string a0,.string a1] rfl (by (try simp only [List.map_toArray,List.map_cons,List.map_nil]);first|done|rfl|(simp only [List.length_drop,List.length_take];rfl)) ?_;(with_reducible refine (natural_Mul.calls a0 a1 t586 t587 _ ?side1 A3.out).mono ?_);(case side1=>exact HLW.out.below (by repeat (first|(with_reducible first|exact HB.out|apply below_alloc|apply pw_below_drewN|apply below_drew1)|exact HB.out)));rintro e w4 ⟨rfl,hb⟩;refine ⟨_,rfl,?_⟩;have n0_:=Aside0.mk (below_step (by repeat (first|(with_reducible first|exact HB.out|apply below_alloc|apply pw_below_drewN|apply below_drew1)|exact HB.out)) hb);clear HB;have HB:=n0_;clear n0_;(try clear hb);(try clear hb2);(try clear hk);(try clear hi)))
 go_ret
 exact ⟨by first|rfl|(simp [errW_none,errW_some]<;>rfl)|(simp [*,errW_none,errW_some]<;>rfl),by repeat (first|(with_reducible first|exact HB.out|apply below_alloc|apply pw_below_drewN|apply below_drew1)|exact HB.out)⟩
end Go.Proofs.YtaopmkcghancmaaDoor.Pr
namespace Go.Proofs.YtaopmkcghancmaaDoor.Pr
open Go.RowKit Go.Proofs.YtaopmkcghancmaaDoorW.PrintWords Go.Proofs.YtaopmkcghancmaaDoorW.PrintLast Go.Proofs.YtaopmkcghancmaaDoorW.PrintMore
attribute [local go_sem] max2_int min2_int max_two min_two max_three min_three max_four min_four
set_option linter.unusedVariables false
set_option linter.unusedSimpArgs false
mutual
def garboardlaw01_NaturalRing.j0:Nat→ByteArray→ByteArray→ByteArray→Bool→Option (Bool)
 | 0,_,_,_,_=>none
 | k + 1,x0,x1,x2,x17=>if x17 = true then ((garboardlaw01_awake.f k).bind fun t593=>(some t593)) else ((natural_Valid.f k x0).bind fun t594=>(if t594 = true then ((natural_Valid.f k x1).bind fun t595=>(if t595 = true then ((natural_Valid.f k x2).bind fun t596=>(garboardlaw01_NaturalRing.j1 k x0 x1 x2 (!t596))) else (garboardlaw01_NaturalRing.j1 k x0 x1 x2 true))) else (garboardlaw01_NaturalRing.j1 k x0 x1 x2 true)))
def garboardlaw01_NaturalRing.j1:Nat→ByteArray→ByteArray→ByteArray→Bool→Option (Bool)
 | 0,_,_,_,_=>none
 | k + 1,x0,x1,x2,x31=>if x31 = true then (some true) else ((garboardlaw01_NaturalRing_1.f x0 x1).bind fun t597=>((garboardlaw01_NaturalRing_1.f x1 x0).bind fun t598=>(if t597.toList = t598.toList then ((garboardlaw01_NaturalRing_1.f x0 x1).bind fun t599=>((garboardlaw01_NaturalRing_1.f t599 x2).bind fun t600=>((garboardlaw01_NaturalRing_1.f x1 x2).bind fun t601=>((garboardlaw01_NaturalRing_1.f x0 t601).bind fun t602=>(if t600.toList = t602.toList then ((garboardlaw01_NaturalRing_2.f x0 x1).bind fun t603=>((garboardlaw01_NaturalRing_2.f x1 x0).bind fun t604=>(if t603.toList = t604.toList then ((garboardlaw01_NaturalRing_2.f x0 x1).bind fun t605=>((garboardlaw01_NaturalRing_2.f t605 x2).bind fun t606=>((garboardlaw01_NaturalRing_2.f x1 x2).bind fun t607=>((garboardlaw01_NaturalRing_2.f x0 t607).bind fun t608=>(if t606.toList = t608.toList then ((garboardlaw01_NaturalRing_1.f x1 x2).bind fun t609=>((garboardlaw01_NaturalRing_2.f x0 t609).bind fun t610=>((garboardlaw01_NaturalRing_2.f x0 x1).bind fun t611=>((garboardlaw01_NaturalRing_2.f x0 x2).bind fun t612=>((garboardlaw01_NaturalRing_1.f t611 t612).bind fun t613=>(if t610.toList = t613.toList then ((garboardlaw01_NaturalRing_2.f x0 (⟨#[49]⟩:ByteArray)).bind fun t614=>(if t614.toList = x0.toList then ((garboardlaw01_NaturalRing_2.f x0 (⟨#[48]⟩:ByteArray)).bind fun t615=>(if t615.toList = ([48]:List UInt8) then ((garboardlaw01_NaturalRing_1.f x0 (⟨#[48]⟩:ByteArray)).bind fun t616=>(if t616.toList = x0.toList then ((garboardlaw01_NaturalRing_2.f x0 x1).bind fun t617=>((natural_Valid.f k t617).bind fun t618=>(some t618))) else (some false))) else (some false))) else (some false))) else (some false))))))) else (some false)))))) else (some false)))) else (some false)))))) else (some false))))
end
def garboardlaw01_NaturalRing.f (k:Nat) (a0:ByteArray) (a1:ByteArray) (a2:ByteArray):Option (Bool):=(garboardlaw01_awake.f k).bind fun t588=>(if t588 = true then ((garboardlaw01_long.f k (([a0,a1,a2]:List ByteArray))).bind fun t592=>(garboardlaw01_NaturalRing.j0 k a0 a1 a2 t592)) else (garboardlaw01_NaturalRing.j0 k a0 a1 a2 true))
set_option maxHeartbeats 8000000 in
set_option maxRecDepth 100000 in
theorem garboardlaw01_NaturalRing.calls (k:Nat) (a0:ByteArray) (a1:ByteArray) (a2:ByteArray) (r:Bool) (w:World) (hL:LaidW w) (h:garboardlaw01_NaturalRing.f k a0 a1 a2 = some r) (hr:r = true) :
  Calls Tryd.prog 7 #[.string a0,.string a1,.string a2] w fun e w'=>e = .returned (.bool r)∧Below w.heap.size w w':=by
 have HB:=Aside0.mk (Below.refl w.heap.size w)
 have HLW:=Aside0.mk hL
 have HRT:=Aside0.mk hr
 clear hr
 clear hL
 have H:((garboardlaw01_awake.f k).bind fun t588=>(if t588 = true then ((garboardlaw01_long.f k (([a0,a1,a2]:List ByteArray))).bind fun t592=>(garboardlaw01_NaturalRing.j0 k a0 a1 a2 t592)) else (garboardlaw01_NaturalRing.j0 k a0 a1 a2 true))) = some r:=h
 clear h
 have HC4:=Aside0.mk H
 clear H
 go_enter Tryd.func7,Tryd.ntmps7
 go_upto_region 1 with (fail)
 go_cut [17] (fun v17 wc=>∃ (kq:Nat) (x17_3:Bool),v17 = .bool x17_3∧Aside0 (garboardlaw01_NaturalRing.j0 kq a0 a1 a2 x17_3 = some r)∧Aside0 (kq≤k)∧Aside0 (Below w.heap.size w wc))
 case first =>
  have H:=HC4.out
  clear HC4
  replace H:=Option.bind_eq_some_iff.mp H
  obtain ⟨t588,A50,H⟩:=H
  replace H:(if t588 = true then ((garboardlaw01_long.f k (([a0,a1,a2]:List ByteArray))).bind fun t592=>(garboardlaw01_NaturalRing.j0 k a0 a1 a2 t592)) else (garboardlaw01_NaturalRing.j0 k a0 a1 a2 true)) = some r:=H
  have A5:=Aside0.mk A50
  clear A50
  by_cases c6:t588 = true
  ·subst c6
   have H1:((garboardlaw01_long.f k (([a0,a1,a2]:List ByteArray))).bind fun t592=>(garboardlaw01_NaturalRing.j0 k a0 a1 a2 t592)) = some r:=by rw [if_pos rfl] at H;exact H
   clear H
   have H:=H1
   clear H1
   obtain ⟨y589,hy589⟩:∃ y_:List ByteArray,y_ = (([a0,a1,a2]:List ByteArray)):=⟨_,rfl⟩
   replace H:((garboardlaw01_long.f k y589).bind fun t592=>(garboardlaw01_NaturalRing.j0 k a0 a1 a2 t592)) = some r:=by first|(rw [hy589];with_reducible exact H)|(have H2_:=(Option.bind_some _ _).symm.trans H;rw [hy589];with_reducible exact H2_)|(have H2_:=(Option.bind_some _ _).symm.trans H;with_reducible exact H2_)|with_reducible exact H|(rw [hy589];exact H)|exact H
   have Ny589:=Aside0.mk hy589
   clear hy589
   replace H:=Option.bind_eq_some_iff.mp H
   obtain ⟨t592,A70,H⟩:=H
   replace H:(garboardlaw01_NaturalRing.j0 k a0 a1 a2 t592) = some r:=H
   have A7:=Aside0.mk A70
   clear A70
   have H':=Aside0.mk H
   clear H
   go_wp2_with (first|((with_reducible refine gate_callee (f:=11) rfl ?_);refine goesL_ (some 9) rfl rfl Tryd.func11 (by kernel_rfl) rfl #[] rfl (by (try simp only [List.map_toArray,List.map_cons,List.map_nil]);first|done|rfl|(simp only [List.length_drop,List.length_take];rfl)) ?_;(with_reducible refine (garboardlaw01_awake.calls k  true _ ?side1 A5.out).mono ?_);(case side1=>exact HLW.out.below (by repeat (first|(with_reducible first|exact HB.out|apply below_alloc|apply pw_below_drewN|apply below_drew1)|exact HB.out)));rintro e w8 ⟨rfl,hb⟩;refine ⟨_,rfl,?_⟩;have n0_:=Aside0.mk (below_step (by repeat (first|(with_reducible first|exact HB.out|apply below_alloc|apply pw_below_drewN|apply below_drew1)|exact HB.out)) hb);clear HB;have HB:=n0_;clear n0_;(try clear hb);(try clear hb2);(try clear hk);(try clear hi))|((with_reducible refine gate_dst (N:=15) rfl ?_);(try (refine gate_guard (by rfl) ?_;dsimp only));refine Kd.R_lit Kd.string _ 9 ?hg (N:=15) ?hd (xs:=([a0,a1,a2]:List ByteArray)) (inner:=[.string a0,.string a1,.string a2]) (ok:=fun _=>True) (okp:=fun _=>True) ?hr ?hp (fun _ hk=>hk) trivial (Below.refl _ _) (Nat.le_refl _) (by simp) ?_;(case hd=>rfl);(case hg=>rfl);(case hr=>first|(go_simp;done)|(go_simp;rfl));(case hp=>exact (Reps.one (show Kd.M Kd.string _ _ _ a0 [.string a0] from rfl) (Reps.one (show Kd.M Kd.string _ _ _ a1 [.string a1] from rfl) (Reps.one (show Kd.M Kd.string _ _ _ a2 [.string a2] from rfl) (Reps.none _ _)))));intro v590 w9 ho10 hb hg_ hnew_;clear hg_ hnew_;(first|rw [← Ny589.out] at ho10|(simp only [Int.reduceToNat] at ho10;rw [← Ny589.out] at ho10));have n0_:=Aside0.mk (Kd.R_lower ho10 (below_size (by repeat (first|(with_reducible first|exact HB.out|apply below_alloc|apply pw_below_drewN|apply below_drew1)|exact HB.out))));have n1_:=Aside0.mk (below_step (by repeat (first|(with_reducible first|exact HB.out|apply below_alloc|apply pw_below_drewN|apply below_drew1)|exact HB.out)) hb);clear HB;have HO591:=n0_;have HB:=n1_;clear n0_ n1_;clear hb ho10;obtain ⟨Ao11,co11,eo11⟩:=Kd.R_slice HO591.out;subst eo11)|(go_at_call 12;(with_reducible refine (garboardlaw01_long.calls k _ _ y589 t592 _ ?side1 ?side2 A7.out).mono ?_);(case side1=>repeat (first|exact (Kd.R_reads' HO591.out).2.2|(with_reducible refine Kd.C_alloc ?_ _)|(with_reducible refine Kd.C_drewN ?_ _)|(with_reducible refine Kd.C_drew ?_)));(case side2=>exact (Kd.R_reads' HO591.out).2.1);rintro e w' ⟨rfl,⟨nd,rfl⟩⟩))
   go_meet
   case rel=>exact ⟨_,(t592),(by first|rfl|(simp;done)|(simp [*];done)),H',⟨by first|omega|exact Nat.le_refl _⟩,⟨by repeat (first|(with_reducible first|exact HB.out|apply below_alloc|apply pw_below_drewN|apply below_drew1)|exact HB.out)⟩⟩
  ·replace c6:=Bool.eq_false_iff.mpr c6
   subst c6
   have H1:(garboardlaw01_NaturalRing.j0 k a0 a1 a2 true) = some r:=by rw [if_neg (show ¬ (false = true) by decide)] at H;exact H
   clear H
   have H:=H1
   clear H1
   have H':=Aside0.mk H
   clear H
   go_wp2_with (first|((with_reducible refine gate_callee (f:=11) rfl ?_);refine goesL_ (some 9) rfl rfl Tryd.func11 (by kernel_rfl) rfl #[] rfl (by (try simp only [List.map_toArray,List.map_cons,List.map_nil]);first|done|rfl|(simp only [List.length_drop,List.length_take];rfl)) ?_;(with_reducible refine (garboardlaw01_awake.calls k  false _ ?side1 A5.out).mono ?_);(case side1=>exact HLW.out.below (by repeat (first|(with_reducible first|exact HB.out|apply below_alloc|apply pw_below_drewN|apply below_drew1)|exact HB.out)));rintro e w12 ⟨rfl,hb⟩;refine ⟨_,rfl,?_⟩;have n0_:=Aside0.mk (below_step (by repeat (first|(with_reducible first|exact HB.out|apply below_alloc|apply pw_below_drewN|apply below_drew1)|exact HB.out)) hb);clear HB;have HB:=n0_;clear n0_;(try clear hb);(try clear hb2);(try clear hk);(try clear hi)))
   go_meet
   case rel=>exact ⟨_,(true),(by first|rfl|(simp;done)|(simp [*];done)),H',⟨by first|omega|exact Nat.le_refl _⟩,⟨by repeat (first|(with_reducible first|exact HB.out|apply below_alloc|apply pw_below_drewN|apply below_drew1)|exact HB.out)⟩⟩
 case rest =>
  clear HC4
  try clear c1
  try clear p2
  try clear c6
  try clear c7
  try clear c11
  obtain ⟨kq,x17_3,rfl,HA,HJ3,HB⟩:=hcut
  cases kq with
  | zero=>exact absurd HA.out (by simp [garboardlaw01_NaturalRing.j0])
  | succ kj3 =>
   have H:=HA.out
   clear HA
   simp only [garboardlaw01_NaturalRing.j0] at H
   by_cases c13:x17_3 = true
   ·subst c13
    have H1:((garboardlaw01_awake.f kj3).bind fun t593=>(some t593)) = some r:=by rw [if_pos rfl] at H;exact H
    clear H
    have H:=H1
    clear H1
    replace H:=Option.bind_eq_some_iff.mp H
    obtain ⟨t593,A140,H⟩:=H
    replace H:(some t593) = some r:=H
    have A14:=Aside0.mk A140
    clear A140
    obtain rfl:=Option.some.inj H
    go_wp2_with (first|((with_reducible refine gate_callee (f:=11) rfl ?_);refine goesL_ (some 18) rfl rfl Tryd.func11 (by kernel_rfl) rfl #[] rfl (by (try simp only [List.map_toArray,List.map_cons,List.map_nil]);first|done|rfl|(simp only [List.length_drop,List.length_take];rfl)) ?_;(with_reducible refine (garboardlaw01_awake.calls kj3  t593 _ ?side1 A14.out).mono ?_);(case side1=>exact HLW.out.below (by repeat (first|(with_reducible first|exact HB.out|apply below_alloc|apply pw_below_drewN|apply below_drew1)|exact HB.out)));rintro e w15 ⟨rfl,hb⟩;refine ⟨_,rfl,?_⟩;have n0_:=Aside0.mk (below_step (by repeat (first|(with_reducible first|exact HB.out|apply below_alloc|apply pw_below_drewN|apply below_drew1)|exact HB.out)) hb);clear HB;have HB:=n0_;clear n0_;(try clear hb);(try clear hb2);(try clear hk);(try clear hi)))
    go_ret
    exact ⟨by first|rfl|(simp [errW_none,errW_some]<;>rfl)|(simp [*,errW_none,errW_some]<;>rfl),by repeat (first|(with_reducible first|exact HB.out|apply below_alloc|apply pw_below_drewN|apply below_drew1)|exact HB.out)⟩
   ·replace c13:=Bool.eq_false_iff.mpr c13
    subst c13
    have H1:((natural_Valid.f kj3 a0).bind fun t594=>(if t594 = true then ((natural_Valid.f kj3 a1).bind fun t595=>(if t595 = true then ((natural_Valid.f kj3 a2).bind fun t596=>(garboardlaw01_NaturalRing.j1 kj3 a0 a1 a2 (!t596))) else (garboardlaw01_NaturalRing.j1 kj3 a0 a1 a2 true))) else (garboardlaw01_NaturalRing.j1 kj3 a0 a1 a2 true))) = some r:=by rw [if_neg (show ¬ (false = true) by decide)] at H;exact H
    clear H
    have H:=H1
    clear H1
    have HC16:=Aside0.mk H
    clear H
    go_upto_region 3 with (fail)
    go_cut [31] (fun v31 wc=>∃ (kq:Nat) (x31_15:Bool),v31 = .bool x31_15∧Aside0 (garboardlaw01_NaturalRing.j1 kq a0 a1 a2 x31_15 = some r)∧Aside0 (kq≤kj3)∧Aside0 (Below w.heap.size w wc))
    case first =>
     have H:=HC16.out
     clear HC16
     replace H:=Option.bind_eq_some_iff.mp H
     obtain ⟨t594,A170,H⟩:=H
     replace H:(if t594 = true then ((natural_Valid.f kj3 a1).bind fun t595=>(if t595 = true then ((natural_Valid.f kj3 a2).bind fun t596=>(garboardlaw01_NaturalRing.j1 kj3 a0 a1 a2 (!t596))) else (garboardlaw01_NaturalRing.j1 kj3 a0 a1 a2 true))) else (garboardlaw01_NaturalRing.j1 kj3 a0 a1 a2 true)) = some r:=H
     have A17:=Aside0.mk A170
     clear A170
     by_cases c18:t594 = true
     ·subst c18
      have H1:((natural_Valid.f kj3 a1).bind fun t595=>(if t595 = true then ((natural_Valid.f kj3 a2).bind fun t596=>(garboardlaw01_NaturalRing.j1 kj3 a0 a1 a2 (!t596))) else (garboardlaw01_NaturalRing.j1 kj3 a0 a1 a2 true))) = some r:=by rw [if_pos rfl] at H;exact H
      clear H
      have H:=H1
      clear H1
      replace H:=Option.bind_eq_some_iff.mp H
      obtain ⟨t595,A190,H⟩:=H
      replace H:(if t595 = true then ((natural_Valid.f kj3 a2).bind fun t596=>(garboardlaw01_NaturalRing.j1 kj3 a0 a1 a2 (!t596))) else (garboardlaw01_NaturalRing.j1 kj3 a0 a1 a2 true)) = some r:=H
      have A19:=Aside0.mk A190
      clear A190
      by_cases c20:t595 = true
      ·subst c20
       have H1:((natural_Valid.f kj3 a2).bind fun t596=>(garboardlaw01_NaturalRing.j1 kj3 a0 a1 a2 (!t596))) = some r:=by rw [if_pos rfl] at H;exact H
       clear H
       have H:=H1
       clear H1
       replace H:=Option.bind_eq_some_iff.mp H
       obtain ⟨t596,A210,H⟩:=H
       replace H:(garboardlaw01_NaturalRing.j1 kj3 a0 a1 a2 (!t596)) = some r:=H
       have A21:=Aside0.mk A210
       clear A210
       have H':=Aside0.mk H
       clear H
       go_wp2_with (first|((with_reducible refine gate_callee (f:=15) rfl ?_);refine goesL_ (some 20) rfl rfl Tryd.func15 (by kernel_rfl) rfl #[.string a0] rfl (by (try simp only [List.map_toArray,List.map_cons,List.map_nil]);first|done|rfl|(simp only [List.length_drop,List.length_take];rfl)) ?_;(with_reducible refine (natural_Valid.calls kj3 a0 true _ A17.out).mono ?_);rintro e w' ⟨rfl,⟨nd,rfl⟩⟩;refine ⟨_,rfl,?_⟩)|(go_at_call 15;(with_reducible refine (natural_Valid.calls kj3 a1 true _ A19.out).mono ?_);rintro e w' ⟨rfl,⟨nd,rfl⟩⟩)|(go_at_call 15;(with_reducible refine (natural_Valid.calls kj3 a2 t596 _ A21.out).mono ?_);rintro e w' ⟨rfl,⟨nd,rfl⟩⟩))
       go_meet
       case rel=>exact ⟨_,(!t596),(by first|rfl|(simp;done)|(simp [*];done)),H',⟨by have:=HJ3.out;first|omega|exact Nat.le_refl _⟩,⟨by repeat (first|(with_reducible first|exact HB.out|apply below_alloc|apply pw_below_drewN|apply below_drew1)|exact HB.out)⟩⟩
      ·replace c20:=Bool.eq_false_iff.mpr c20
       subst c20
       have H1:(garboardlaw01_NaturalRing.j1 kj3 a0 a1 a2 true) = some r:=by rw [if_neg (show ¬ (false = true) by decide)] at H;exact H
       clear H
       have H:=H1
       clear H1
       have H':=Aside0.mk H
       clear H
       go_wp2_with (first|((with_reducible refine gate_callee (f:=15) rfl ?_);refine goesL_ (some 20) rfl rfl Tryd.func15 (by kernel_rfl) rfl #[.string a0] rfl (by (try simp only [List.map_toArray,List.map_cons,List.map_nil]);first|done|rfl|(simp only [List.length_drop,List.length_take];rfl)) ?_;(with_reducible refine (natural_Valid.calls kj3 a0 true _ A17.out).mono ?_);rintro e w' ⟨rfl,⟨nd,rfl⟩⟩;refine ⟨_,rfl,?_⟩)|(go_at_call 15;(with_reducible refine (natural_Valid.calls kj3 a1 false _ A19.out).mono ?_);rintro e w' ⟨rfl,⟨nd,rfl⟩⟩))
       go_meet
       case rel=>exact ⟨_,(true),(by first|rfl|(simp;done)|(simp [*];done)),H',⟨by have:=HJ3.out;first|omega|exact Nat.le_refl _⟩,⟨by repeat (first|(with_reducible first|exact HB.out|apply below_alloc|apply pw_below_drewN|apply below_drew1)|exact HB.out)⟩⟩
     ·replace c18:=Bool.eq_false_iff.mpr c18
      subst c18
      have H1:(garboardlaw01_NaturalRing.j1 kj3 a0 a1 a2 true) = some r:=by rw [if_neg (show ¬ (false = true) by decide)] at H;exact H
      clear H
      have H:=H1
      clear H1
      have H':=Aside0.mk H
      clear H
      go_wp2_with (first|((with_reducible refine gate_callee (f:=15) rfl ?_);refine goesL_ (some 20) rfl rfl Tryd.func15 (by kernel_rfl) rfl #[.string a0] rfl (by (try simp only [List.map_toArray,List.map_cons,List.map_nil]);first|done|rfl|(simp only [List.length_drop,List.length_take];rfl)) ?_;(with_reducible refine (natural_Valid.calls kj3 a0 false _ A17.out).mono ?_);rintro e w' ⟨rfl,⟨nd,rfl⟩⟩;refine ⟨_,rfl,?_⟩))
      go_meet
      case rel=>exact ⟨_,(true),(by first|rfl|(simp;done)|(simp [*];done)),H',⟨by have:=HJ3.out;first|omega|exact Nat.le_refl _⟩,⟨by repeat (first|(with_reducible first|exact HB.out|apply below_alloc|apply pw_below_drewN|apply below_drew1)|exact HB.out)⟩⟩
    case rest =>
     clear HC16
     try clear c1
     try clear c2
     try clear p2
     try clear c6
     try clear c7
     try clear c11
     try clear c13
     try clear c15
     try clear c18
     try clear c20
     try clear p2
     obtain ⟨kq,x31_15,rfl,HA,HJ15,HB⟩:=hcut
     cases kq with
     | zero=>exact absurd HA.out (by simp [garboardlaw01_NaturalRing.j1])
     | succ kj15 =>
      have H:=HA.out
      clear HA
      simp only [garboardlaw01_NaturalRing.j1] at H
      by_cases c22:x31_15 = true
      ·subst c22
       have H1:(some true) = some r:=by rw [if_pos rfl] at H;exact H
       clear H
       have H:=H1
       clear H1
       obtain rfl:=Option.some.inj H
       go_wp2
       go_ret
       exact ⟨by first|rfl|(simp [errW_none,errW_some]<;>rfl)|(simp [*,errW_none,errW_some]<;>rfl),by repeat (first|(with_reducible first|exact HB.out|apply below_alloc|apply pw_below_drewN|apply below_drew1)|exact HB.out)⟩
      ·replace c22:=Bool.eq_false_iff.mpr c22
       subst c22
       have H1:((garboardlaw01_NaturalRing_1.f a0 a1).bind fun t597=>((garboardlaw01_NaturalRing_1.f a1 a0).bind fun t598=>(if t597.toList = t598.toList then ((garboardlaw01_NaturalRing_1.f a0 a1).bind fun t599=>((garboardlaw01_NaturalRing_1.f t599 a2).bind fun t600=>((garboardlaw01_NaturalRing_1.f a1 a2).bind fun t601=>((garboardlaw01_NaturalRing_1.f a0 t601).bind fun t602=>(if t600.toList = t602.toList then ((garboardlaw01_NaturalRing_2.f a0 a1).bind fun t603=>((garboardlaw01_NaturalRing_2.f a1 a0).bind fun t604=>(if t603.toList = t604.toList then ((garboardlaw01_NaturalRing_2.f a0 a1).bind fun t605=>((garboardlaw01_NaturalRing_2.f t605 a2).bind fun t606=>((garboardlaw01_NaturalRing_2.f a1 a2).bind fun t607=>((garboardlaw01_NaturalRing_2.f a0 t607).bind fun t608=>(if t606.toList = t608.toList then ((garboardlaw01_NaturalRing_1.f a1 a2).bind fun t609=>((garboardlaw01_NaturalRing_2.f a0 t609).bind fun t610=>((garboardlaw01_NaturalRing_2.f a0 a1).bind fun t611=>((garboardlaw01_NaturalRing_2.f a0 a2).bind fun t612=>((garboardlaw01_NaturalRing_1.f t611 t612).bind fun t613=>(if t610.toList = t613.toList then ((garboardlaw01_NaturalRing_2.f a0 (⟨#[49]⟩:ByteArray)).bind fun t614=>(if t614.toList = a0.toList then ((garboardlaw01_NaturalRing_2.f a0 (⟨#[48]⟩:ByteArray)).bind fun t615=>(if t615.toList = ([48]:List UInt8) then ((garboardlaw01_NaturalRing_1.f a0 (⟨#[48]⟩:ByteArray)).bind fun t616=>(if t616.toList = a0.toList then ((garboardlaw01_NaturalRing_2.f a0 a1).bind fun t617=>((natural_Valid.f kj15 t617).bind fun t618=>(some t618))) else (some false))) else (some false))) else (some false))) else (some false))))))) else (some false)))))) else (some false)))) else (some false)))))) else (some false)))) = some r:=by rw [if_neg (show ¬ (false = true) by decide)] at H;exact H
       clear H
       have H:=H1
       clear H1
       replace H:=Option.bind_eq_some_iff.mp H
       obtain ⟨t597,A230,H⟩:=H
       replace H:((garboardlaw01_NaturalRing_1.f a1 a0).bind fun t598=>(if t597.toList = t598.toList then ((garboardlaw01_NaturalRing_1.f a0 a1).bind fun t599=>((garboardlaw01_NaturalRing_1.f t599 a2).bind fun t600=>((garboardlaw01_NaturalRing_1.f a1 a2).bind fun t601=>((garboardlaw01_NaturalRing_1.f a0 t601).bind fun t602=>(if t600.toList = t602.toList then ((garboardlaw01_NaturalRing_2.f a0 a1).bind fun t603=>((garboardlaw01_NaturalRing_2.f a1 a0).bind fun t604=>(if t603.toList = t604.toList then ((garboardlaw01_NaturalRing_2.f a0 a1).bind fun t605=>((garboardlaw01_NaturalRing_2.f t605 a2).bind fun t606=>((garboardlaw01_NaturalRing_2.f a1 a2).bind fun t607=>((garboardlaw01_NaturalRing_2.f a0 t607).bind fun t608=>(if t606.toList = t608.toList then ((garboardlaw01_NaturalRing_1.f a1 a2).bind fun t609=>((garboardlaw01_NaturalRing_2.f a0 t609).bind fun t610=>((garboardlaw01_NaturalRing_2.f a0 a1).bind fun t611=>((garboardlaw01_NaturalRing_2.f a0 a2).bind fun t612=>((garboardlaw01_NaturalRing_1.f t611 t612).bind fun t613=>(if t610.toList = t613.toList then ((garboardlaw01_NaturalRing_2.f a0 (⟨#[49]⟩:ByteArray)).bind fun t614=>(if t614.toList = a0.toList then ((garboardlaw01_NaturalRing_2.f a0 (⟨#[48]⟩:ByteArray)).bind fun t615=>(if t615.toList = ([48]:List UInt8) then ((garboardlaw01_NaturalRing_1.f a0 (⟨#[48]⟩:ByteArray)).bind fun t616=>(if t616.toList = a0.toList then ((garboardlaw01_NaturalRing_2.f a0 a1).bind fun t617=>((natural_Valid.f kj15 t617).bind fun t618=>(some t618))) else (some false))) else (some false))) else (some false))) else (some false))))))) else (some false)))))) else (some false)))) else (some false)))))) else (some false))) = some r:=H
       have A23:=Aside0.mk A230
       clear A230
       replace H:=Option.bind_eq_some_iff.mp H
       obtain ⟨t598,A240,H⟩:=H
       replace H:(if t597.toList = t598.toList then ((garboardlaw01_NaturalRing_1.f a0 a1).bind fun t599=>((garboardlaw01_NaturalRing_1.f t599 a2).bind fun t600=>((garboardlaw01_NaturalRing_1.f a1 a2).bind fun t601=>((garboardlaw01_NaturalRing_1.f a0 t601).bind fun t602=>(if t600.toList = t602.toList then ((garboardlaw01_NaturalRing_2.f a0 a1).bind fun t603=>((garboardlaw01_NaturalRing_2.f a1 a0).bind fun t604=>(if t603.toList = t604.toList then ((garboardlaw01_NaturalRing_2.f a0 a1).bind fun t605=>((garboardlaw01_NaturalRing_2.f t605 a2).bind fun t606=>((garboardlaw01_NaturalRing_2.f a1 a2).bind fun t607=>((garboardlaw01_NaturalRing_2.f a0 t607).bind fun t608=>(if t606.toList = t608.toList then ((garboardlaw01_NaturalRing_1.f a1 a2).bind fun t609=>((garboardlaw01_NaturalRing_2.f a0 t609).bind fun t610=>((garboardlaw01_NaturalRing_2.f a0 a1).bind fun t611=>((garboardlaw01_NaturalRing_2.f a0 a2).bind fun t612=>((garboardlaw01_NaturalRing_1.f t611 t612).bind fun t613=>(if t610.toList = t613.toList then ((garboardlaw01_NaturalRing_2.f a0 (⟨#[49]⟩:ByteArray)).bind fun t614=>(if t614.toList = a0.toList then ((garboardlaw01_NaturalRing_2.f a0 (⟨#[48]⟩:ByteArray)).bind fun t615=>(if t615.toList = ([48]:List UInt8) then ((garboardlaw01_NaturalRing_1.f a0 (⟨#[48]⟩:ByteArray)).bind fun t616=>(if t616.toList = a0.toList then ((garboardlaw01_NaturalRing_2.f a0 a1).bind fun t617=>((natural_Valid.f kj15 t617).bind fun t618=>(some t618))) else (some false))) else (some false))) else (some false))) else (some false))))))) else (some false)))))) else (some false)))) else (some false)))))) else (some false)) = some r:=H
       have A24:=Aside0.mk A240
       clear A240
       by_cases c25:t597.toList = t598.toList
       ·rw [if_pos c25] at H
        have c25b0:(t597.toList == t598.toList) = true:=beq_iff_eq.mpr c25
        have c25b1:(t597.toList != t598.toList) = false:=bne_eq_false_iff_eq.mpr c25
        clear c25
        replace H:=Option.bind_eq_some_iff.mp H
        obtain ⟨t599,A260,H⟩:=H
        replace H:((garboardlaw01_NaturalRing_1.f t599 a2).bind fun t600=>((garboardlaw01_NaturalRing_1.f a1 a2).bind fun t601=>((garboardlaw01_NaturalRing_1.f a0 t601).bind fun t602=>(if t600.toList = t602.toList then ((garboardlaw01_NaturalRing_2.f a0 a1).bind fun t603=>((garboardlaw01_NaturalRing_2.f a1 a0).bind fun t604=>(if t603.toList = t604.toList then ((garboardlaw01_NaturalRing_2.f a0 a1).bind fun t605=>((garboardlaw01_NaturalRing_2.f t605 a2).bind fun t606=>((garboardlaw01_NaturalRing_2.f a1 a2).bind fun t607=>((garboardlaw01_NaturalRing_2.f a0 t607).bind fun t608=>(if t606.toList = t608.toList then ((garboardlaw01_NaturalRing_1.f a1 a2).bind fun t609=>((garboardlaw01_NaturalRing_2.f a0 t609).bind fun t610=>((garboardlaw01_NaturalRing_2.f a0 a1).bind fun t611=>((garboardlaw01_NaturalRing_2.f a0 a2).bind fun t612=>((garboardlaw01_NaturalRing_1.f t611 t612).bind fun t613=>(if t610.toList = t613.toList then ((garboardlaw01_NaturalRing_2.f a0 (⟨#[49]⟩:ByteArray)).bind fun t614=>(if t614.toList = a0.toList then ((garboardlaw01_NaturalRing_2.f a0 (⟨#[48]⟩:ByteArray)).bind fun t615=>(if t615.toList = ([48]:List UInt8) then ((garboardlaw01_NaturalRing_1.f a0 (⟨#[48]⟩:ByteArray)).bind fun t616=>(if t616.toList = a0.toList then ((garboardlaw01_NaturalRing_2.f a0 a1).bind fun t617=>((natural_Valid.f kj15 t617).bind fun t618=>(some t618))) else (some false))) else (some false))) else (some false))) else (some false))))))) else (some false)))))) else (some false)))) else (some false))))) = some r:=H
        have A26:=Aside0.mk A260
        clear A260
        replace H:=Option.bind_eq_some_iff.mp H
        obtain ⟨t600,A270,H⟩:=H
        replace H:((garboardlaw01_NaturalRing_1.f a1 a2).bind fun t601=>((garboardlaw01_NaturalRing_1.f a0 t601).bind fun t602=>(if t600.toList = t602.toList then ((garboardlaw01_NaturalRing_2.f a0 a1).bind fun t603=>((garboardlaw01_NaturalRing_2.f a1 a0).bind fun t604=>(if t603.toList = t604.toList then ((garboardlaw01_NaturalRing_2.f a0 a1).bind fun t605=>((garboardlaw01_NaturalRing_2.f t605 a2).bind fun t606=>((garboardlaw01_NaturalRing_2.f a1 a2).bind fun t607=>((garboardlaw01_NaturalRing_2.f a0 t607).bind fun t608=>(if t606.toList = t608.toList then ((garboardlaw01_NaturalRing_1.f a1 a2).bind fun t609=>((garboardlaw01_NaturalRing_2.f a0 t609).bind fun t610=>((garboardlaw01_NaturalRing_2.f a0 a1).bind fun t611=>((garboardlaw01_NaturalRing_2.f a0 a2).bind fun t612=>((garboardlaw01_NaturalRing_1.f t611 t612).bind fun t613=>(if t610.toList = t613.toList then ((garboardlaw01_NaturalRing_2.f a0 (⟨#[49]⟩:ByteArray)).bind fun t614=>(if t614.toList = a0.toList then ((garboardlaw01_NaturalRing_2.f a0 (⟨#[48]⟩:ByteArray)).bind fun t615=>(if t615.toList = ([48]:List UInt8) then ((garboardlaw01_NaturalRing_1.f a0 (⟨#[48]⟩:ByteArray)).bind fun t616=>(if t616.toList = a0.toList then ((garboardlaw01_NaturalRing_2.f a0 a1).bind fun t617=>((natural_Valid.f kj15 t617).bind fun t618=>(some t618))) else (some false))) else (some false))) else (some false))) else (some false))))))) else (some false)))))) else (some false)))) else (some false)))) = some r:=H
        have A27:=Aside0.mk A270
        clear A270
        replace H:=Option.bind_eq_some_iff.mp H
        obtain ⟨t601,A280,H⟩:=H
        replace H:((garboardlaw01_NaturalRing_1.f a0 t601).bind fun t602=>(if t600.toList = t602.toList then ((garboardlaw01_NaturalRing_2.f a0 a1).bind fun t603=>((garboardlaw01_NaturalRing_2.f a1 a0).bind fun t604=>(if t603.toList = t604.toList then ((garboardlaw01_NaturalRing_2.f a0 a1).bind fun t605=>((garboardlaw01_NaturalRing_2.f t605 a2).bind fun t606=>((garboardlaw01_NaturalRing_2.f a1 a2).bind fun t607=>((garboardlaw01_NaturalRing_2.f a0 t607).bind fun t608=>(if t606.toList = t608.toList then ((garboardlaw01_NaturalRing_1.f a1 a2).bind fun t609=>((garboardlaw01_NaturalRing_2.f a0 t609).bind fun t610=>((garboardlaw01_NaturalRing_2.f a0 a1).bind fun t611=>((garboardlaw01_NaturalRing_2.f a0 a2).bind fun t612=>((garboardlaw01_NaturalRing_1.f t611 t612).bind fun t613=>(if t610.toList = t613.toList then ((garboardlaw01_NaturalRing_2.f a0 (⟨#[49]⟩:ByteArray)).bind fun t614=>(if t614.toList = a0.toList then ((garboardlaw01_NaturalRing_2.f a0 (⟨#[48]⟩:ByteArray)).bind fun t615=>(if t615.toList = ([48]:List UInt8) then ((garboardlaw01_NaturalRing_1.f a0 (⟨#[48]⟩:ByteArray)).bind fun t616=>(if t616.toList = a0.toList then ((garboardlaw01_NaturalRing_2.f a0 a1).bind fun t617=>((natural_Valid.f kj15 t617).bind fun t618=>(some t618))) else (some false))) else (some false))) else (some false))) else (some false))))))) else (some false)))))) else (some false)))) else (some false))) = some r:=H
        have A28:=Aside0.mk A280
        clear A280
        replace H:=Option.bind_eq_some_iff.mp H
        obtain ⟨t602,A290,H⟩:=H
        replace H:(if t600.toList = t602.toList then ((garboardlaw01_NaturalRing_2.f a0 a1).bind fun t603=>((garboardlaw01_NaturalRing_2.f a1 a0).bind fun t604=>(if t603.toList = t604.toList then ((garboardlaw01_NaturalRing_2.f a0 a1).bind fun t605=>((garboardlaw01_NaturalRing_2.f t605 a2).bind fun t606=>((garboardlaw01_NaturalRing_2.f a1 a2).bind fun t607=>((garboardlaw01_NaturalRing_2.f a0 t607).bind fun t608=>(if t606.toList = t608.toList then ((garboardlaw01_NaturalRing_1.f a1 a2).bind fun t609=>((garboardlaw01_NaturalRing_2.f a0 t609).bind fun t610=>((garboardlaw01_NaturalRing_2.f a0 a1).bind fun t611=>((garboardlaw01_NaturalRing_2.f a0 a2).bind fun t612=>((garboardlaw01_NaturalRing_1.f t611 t612).bind fun t613=>(if t610.toList = t613.toList then ((garboardlaw01_NaturalRing_2.f a0 (⟨#[49]⟩:ByteArray)).bind fun t614=>(if t614.toList = a0.toList then ((garboardlaw01_NaturalRing_2.f a0 (⟨#[48]⟩:ByteArray)).bind fun t615=>(if t615.toList = ([48]:List UInt8) then ((garboardlaw01_NaturalRing_1.f a0 (⟨#[48]⟩:ByteArray)).bind fun t616=>(if t616.toList = a0.toList then ((garboardlaw01_NaturalRing_2.f a0 a1).bind fun t617=>((natural_Valid.f kj15 t617).bind fun t618=>(some t618))) else (some false))) else (some false))) else (some false))) else (some false))))))) else (some false)))))) else (some false)))) else (some false)) = some r:=H
        have A29:=Aside0.mk A290
        clear A290
        by_cases c30:t600.toList = t602.toList
        ·rw [if_pos c30] at H
         have c30b0:(t600.toList == t602.toList) = true:=beq_iff_eq.mpr c30
         have c30b1:(t600.toList != t602.toList) = false:=bne_eq_false_iff_eq.mpr c30
         clear c30
         replace H:=Option.bind_eq_some_iff.mp H
         obtain ⟨t603,A310,H⟩:=H
         replace H:((garboardlaw01_NaturalRing_2.f a1 a0).bind fun t604=>(if t603.toList = t604.toList then ((garboardlaw01_NaturalRing_2.f a0 a1).bind fun t605=>((garboardlaw01_NaturalRing_2.f t605 a2).bind fun t606=>((garboardlaw01_NaturalRing_2.f a1 a2).bind fun t607=>((garboardlaw01_NaturalRing_2.f a0 t607).bind fun t608=>(if t606.toList = t608.toList then ((garboardlaw01_NaturalRing_1.f a1 a2).bind fun t609=>((garboardlaw01_NaturalRing_2.f a0 t609).bind fun t610=>((garboardlaw01_NaturalRing_2.f a0 a1).bind fun t611=>((garboardlaw01_NaturalRing_2.f a0 a2).bind fun t612=>((garboardlaw01_NaturalRing_1.f t611 t612).bind fun t613=>(if t610.toList = t613.toList then ((garboardlaw01_NaturalRing_2.f a0 (⟨#[49]⟩:ByteArray)).bind fun t614=>(if t614.toList = a0.toList then ((garboardlaw01_NaturalRing_2.f a0 (⟨#[48]⟩:ByteArray)).bind fun t615=>(if t615.toList = ([48]:List UInt8) then ((garboardlaw01_NaturalRing_1.f a0 (⟨#[48]⟩:ByteArray)).bind fun t616=>(if t616.toList = a0.toList then ((garboardlaw01_NaturalRing_2.f a0 a1).bind fun t617=>((natural_Valid.f kj15 t617).bind fun t618=>(some t618))) else (some false))) else (some false))) else (some false))) else (some false))))))) else (some false)))))) else (some false))) = some r:=H
         have A31:=Aside0.mk A310
         clear A310
         replace H:=Option.bind_eq_some_iff.mp H
         obtain ⟨t604,A320,H⟩:=H
         replace H:(if t603.toList = t604.toList then ((garboardlaw01_NaturalRing_2.f a0 a1).bind fun t605=>((garboardlaw01_NaturalRing_2.f t605 a2).bind fun t606=>((garboardlaw01_NaturalRing_2.f a1 a2).bind fun t607=>((garboardlaw01_NaturalRing_2.f a0 t607).bind fun t608=>(if t606.toList = t608.toList then ((garboardlaw01_NaturalRing_1.f a1 a2).bind fun t609=>((garboardlaw01_NaturalRing_2.f a0 t609).bind fun t610=>((garboardlaw01_NaturalRing_2.f a0 a1).bind fun t611=>((garboardlaw01_NaturalRing_2.f a0 a2).bind fun t612=>((garboardlaw01_NaturalRing_1.f t611 t612).bind fun t613=>(if t610.toList = t613.toList then ((garboardlaw01_NaturalRing_2.f a0 (⟨#[49]⟩:ByteArray)).bind fun t614=>(if t614.toList = a0.toList then ((garboardlaw01_NaturalRing_2.f a0 (⟨#[48]⟩:ByteArray)).bind fun t615=>(if t615.toList = ([48]:List UInt8) then ((garboardlaw01_NaturalRing_1.f a0 (⟨#[48]⟩:ByteArray)).bind fun t616=>(if t616.toList = a0.toList then ((garboardlaw01_NaturalRing_2.f a0 a1).bind fun t617=>((natural_Valid.f kj15 t617).bind fun t618=>(some t618))) else (some false))) else (some false))) else (some false))) else (some false))))))) else (some false)))))) else (some false)) = some r:=H
         have A32:=Aside0.mk A320
         clear A320
         by_cases c33:t603.toList = t604.toList
         ·rw [if_pos c33] at H
          have c33b0:(t603.toList == t604.toList) = true:=beq_iff_eq.mpr c33
          have c33b1:(t603.toList != t604.toList) = false:=bne_eq_false_iff_eq.mpr c33
          clear c33
          replace H:=Option.bind_eq_some_iff.mp H
          obtain ⟨t605,A340,H⟩:=H
          replace H:((garboardlaw01_NaturalRing_2.f t605 a2).bind fun t606=>((garboardlaw01_NaturalRing_2.f a1 a2).bind fun t607=>((garboardlaw01_NaturalRing_2.f a0 t607).bind fun t608=>(if t606.toList = t608.toList then ((garboardlaw01_NaturalRing_1.f a1 a2).bind fun t609=>((garboardlaw01_NaturalRing_2.f a0 t609).bind fun t610=>((garboardlaw01_NaturalRing_2.f a0 a1).bind fun t611=>((garboardlaw01_NaturalRing_2.f a0 a2).bind fun t612=>((garboardlaw01_NaturalRing_1.f t611 t612).bind fun t613=>(if t610.toList = t613.toList then ((garboardlaw01_NaturalRing_2.f a0 (⟨#[49]⟩:ByteArray)).bind fun t614=>(if t614.toList = a0.toList then ((garboardlaw01_NaturalRing_2.f a0 (⟨#[48]⟩:ByteArray)).bind fun t615=>(if t615.toList = ([48]:List UInt8) then ((garboardlaw01_NaturalRing_1.f a0 (⟨#[48]⟩:ByteArray)).bind fun t616=>(if t616.toList = a0.toList then ((garboardlaw01_NaturalRing_2.f a0 a1).bind fun t617=>((natural_Valid.f kj15 t617).bind fun t618=>(some t618))) else (some false))) else (some false))) else (some false))) else (some false))))))) else (some false))))) = some r:=H
          have A34:=Aside0.mk A340
          clear A340
          replace H:=Option.bind_eq_some_iff.mp H
          obtain ⟨t606,A350,H⟩:=H
          replace H:((garboardlaw01_NaturalRing_2.f a1 a2).bind fun t607=>((garboardlaw01_NaturalRing_2.f a0 t607).bind fun t608=>(if t606.toList = t608.toList then ((garboardlaw01_NaturalRing_1.f a1 a2).bind fun t609=>((garboardlaw01_NaturalRing_2.f a0 t609).bind fun t610=>((garboardlaw01_NaturalRing_2.f a0 a1).bind fun t611=>((garboardlaw01_NaturalRing_2.f a0 a2).bind fun t612=>((garboardlaw01_NaturalRing_1.f t611 t612).bind fun t613=>(if t610.toList = t613.toList then ((garboardlaw01_NaturalRing_2.f a0 (⟨#[49]⟩:ByteArray)).bind fun t614=>(if t614.toList = a0.toList then ((garboardlaw01_NaturalRing_2.f a0 (⟨#[48]⟩:ByteArray)).bind fun t615=>(if t615.toList = ([48]:List UInt8) then ((garboardlaw01_NaturalRing_1.f a0 (⟨#[48]⟩:ByteArray)).bind fun t616=>(if t616.toList = a0.toList then ((garboardlaw01_NaturalRing_2.f a0 a1).bind fun t617=>((natural_Valid.f kj15 t617).bind fun t618=>(some t618))) else (some false))) else (some false))) else (some false))) else (some false))))))) else (some false)))) = some r:=H
          have A35:=Aside0.mk A350
          clear A350
          replace H:=Option.bind_eq_some_iff.mp H
          obtain ⟨t607,A360,H⟩:=H
          replace H:((garboardlaw01_NaturalRing_2.f a0 t607).bind fun t608=>(if t606.toList = t608.toList then ((garboardlaw01_NaturalRing_1.f a1 a2).bind fun t609=>((garboardlaw01_NaturalRing_2.f a0 t609).bind fun t610=>((garboardlaw01_NaturalRing_2.f a0 a1).bind fun t611=>((garboardlaw01_NaturalRing_2.f a0 a2).bind fun t612=>((garboardlaw01_NaturalRing_1.f t611 t612).bind fun t613=>(if t610.toList = t613.toList then ((garboardlaw01_NaturalRing_2.f a0 (⟨#[49]⟩:ByteArray)).bind fun t614=>(if t614.toList = a0.toList then ((garboardlaw01_NaturalRing_2.f a0 (⟨#[48]⟩:ByteArray)).bind fun t615=>(if t615.toList = ([48]:List UInt8) then ((garboardlaw01_NaturalRing_1.f a0 (⟨#[48]⟩:ByteArray)).bind fun t616=>(if t616.toList = a0.toList then ((garboardlaw01_NaturalRing_2.f a0 a1).bind fun t617=>((natural_Valid.f kj15 t617).bind fun t618=>(some t618))) else (some false))) else (some false))) else (some false))) else (some false))))))) else (some false))) = some r:=H
          have A36:=Aside0.mk A360
          clear A360
          replace H:=Option.bind_eq_some_iff.mp H
          obtain ⟨t608,A370,H⟩:=H
          replace H:(if t606.toList = t608.toList then ((garboardlaw01_NaturalRing_1.f a1 a2).bind fun t609=>((garboardlaw01_NaturalRing_2.f a0 t609).bind fun t610=>((garboardlaw01_NaturalRing_2.f a0 a1).bind fun t611=>((garboardlaw01_NaturalRing_2.f a0 a2).bind fun t612=>((garboardlaw01_NaturalRing_1.f t611 t612).bind fun t613=>(if t610.toList = t613.toList then ((garboardlaw01_NaturalRing_2.f a0 (⟨#[49]⟩:ByteArray)).bind fun t614=>(if t614.toList = a0.toList then ((garboardlaw01_NaturalRing_2.f a0 (⟨#[48]⟩:ByteArray)).bind fun t615=>(if t615.toList = ([48]:List UInt8) then ((garboardlaw01_NaturalRing_1.f a0 (⟨#[48]⟩:ByteArray)).bind fun t616=>(if t616.toList = a0.toList then ((garboardlaw01_NaturalRing_2.f a0 a1).bind fun t617=>((natural_Valid.f kj15 t617).bind fun t618=>(some t618))) else (some false))) else (some false))) else (some false))) else (some false))))))) else (some false)) = some r:=H
          have A37:=Aside0.mk A370
          clear A370
          by_cases c38:t606.toList = t608.toList
          ·rw [if_pos c38] at H
           have c38b0:(t606.toList == t608.toList) = true:=beq_iff_eq.mpr c38
           have c38b1:(t606.toList != t608.toList) = false:=bne_eq_false_iff_eq.mpr c38
           clear c38
           replace H:=Option.bind_eq_some_iff.mp H
           obtain ⟨t609,A390,H⟩:=H
           replace H:((garboardlaw01_NaturalRing_2.f a0 t609).bind fun t610=>((garboardlaw01_NaturalRing_2.f a0 a1).bind fun t611=>((garboardlaw01_NaturalRing_2.f a0 a2).bind fun t612=>((garboardlaw01_NaturalRing_1.f t611 t612).bind fun t613=>(if t610.toList = t613.toList then ((garboardlaw01_NaturalRing_2.f a0 (⟨#[49]⟩:ByteArray)).bind fun t614=>(if t614.toList = a0.toList then ((garboardlaw01_NaturalRing_2.f a0 (⟨#[48]⟩:ByteArray)).bind fun t615=>(if t615.toList = ([48]:List UInt8) then ((garboardlaw01_NaturalRing_1.f a0 (⟨#[48]⟩:ByteArray)).bind fun t616=>(if t616.toList = a0.toList then ((garboardlaw01_NaturalRing_2.f a0 a1).bind fun t617=>((natural_Valid.f kj15 t617).bind fun t618=>(some t618))) else (some false))) else (some false))) else (some false))) else (some false)))))) = some r:=H
           have A39:=Aside0.mk A390
           clear A390
           replace H:=Option.bind_eq_some_iff.mp H
           obtain ⟨t610,A400,H⟩:=H
           replace H:((garboardlaw01_NaturalRing_2.f a0 a1).bind fun t611=>((garboardlaw01_NaturalRing_2.f a0 a2).bind fun t612=>((garboardlaw01_NaturalRing_1.f t611 t612).bind fun t613=>(if t610.toList = t613.toList then ((garboardlaw01_NaturalRing_2.f a0 (⟨#[49]⟩:ByteArray)).bind fun t614=>(if t614.toList = a0.toList then ((garboardlaw01_NaturalRing_2.f a0 (⟨#[48]⟩:ByteArray)).bind fun t615=>(if t615.toList = ([48]:List UInt8) then ((garboardlaw01_NaturalRing_1.f a0 (⟨#[48]⟩:ByteArray)).bind fun t616=>(if t616.toList = a0.toList then ((garboardlaw01_NaturalRing_2.f a0 a1).bind fun t617=>((natural_Valid.f kj15 t617).bind fun t618=>(some t618))) else (some false))) else (some false))) else (some false))) else (some false))))) = some r:=H
           have A40:=Aside0.mk A400
           clear A400
           replace H:=Option.bind_eq_some_iff.mp H
           obtain ⟨t611,A410,H⟩:=H
           replace H:((garboardlaw01_NaturalRing_2.f a0 a2).bind fun t612=>((garboardlaw01_NaturalRing_1.f t611 t612).bind fun t613=>(if t610.toList = t613.toList then ((garboardlaw01_NaturalRing_2.f a0 (⟨#[49]⟩:ByteArray)).bind fun t614=>(if t614.toList = a0.toList then ((garboardlaw01_NaturalRing_2.f a0 (⟨#[48]⟩:ByteArray)).bind fun t615=>(if t615.toList = ([48]:List UInt8) then ((garboardlaw01_NaturalRing_1.f a0 (⟨#[48]⟩:ByteArray)).bind fun t616=>(if t616.toList = a0.toList then ((garboardlaw01_NaturalRing_2.f a0 a1).bind fun t617=>((natural_Valid.f kj15 t617).bind fun t618=>(some t618))) else (some false))) else (some false))) else (some false))) else (some false)))) = some r:=H
           have A41:=Aside0.mk A410
           clear A410
           replace H:=Option.bind_eq_some_iff.mp H
           obtain ⟨t612,A420,H⟩:=H
           replace H:((garboardlaw01_NaturalRing_1.f t611 t612).bind fun t613=>(if t610.toList = t613.toList then ((garboardlaw01_NaturalRing_2.f a0 (⟨#[49]⟩:ByteArray)).bind fun t614=>(if t614.toList = a0.toList then ((garboardlaw01_NaturalRing_2.f a0 (⟨#[48]⟩:ByteArray)).bind fun t615=>(if t615.toList = ([48]:List UInt8) then ((garboardlaw01_NaturalRing_1.f a0 (⟨#[48]⟩:ByteArray)).bind fun t616=>(if t616.toList = a0.toList then ((garboardlaw01_NaturalRing_2.f a0 a1).bind fun t617=>((natural_Valid.f kj15 t617).bind fun t618=>(some t618))) else (some false))) else (some false))) else (some false))) else (some false))) = some r:=H
           have A42:=Aside0.mk A420
           clear A420
           replace H:=Option.bind_eq_some_iff.mp H
           obtain ⟨t613,A430,H⟩:=H
           replace H:(if t610.toList = t613.toList then ((garboardlaw01_NaturalRing_2.f a0 (⟨#[49]⟩:ByteArray)).bind fun t614=>(if t614.toList = a0.toList then ((garboardlaw01_NaturalRing_2.f a0 (⟨#[48]⟩:ByteArray)).bind fun t615=>(if t615.toList = ([48]:List UInt8) then ((garboardlaw01_NaturalRing_1.f a0 (⟨#[48]⟩:ByteArray)).bind fun t616=>(if t616.toList = a0.toList then ((garboardlaw01_NaturalRing_2.f a0 a1).bind fun t617=>((natural_Valid.f kj15 t617).bind fun t618=>(some t618))) else (some false))) else (some false))) else (some false))) else (some false)) = some r:=H
           have A43:=Aside0.mk A430
           clear A430
           by_cases c44:t610.toList = t613.toList
           ·rw [if_pos c44] at H
            have c44b0:(t610.toList == t613.toList) = true:=beq_iff_eq.mpr c44
            have c44b1:(t610.toList != t613.toList) = false:=bne_eq_false_iff_eq.mpr c44
            clear c44
            replace H:=Option.bind_eq_some_iff.mp H
            obtain ⟨t614,A450,H⟩:=H
            replace H:(if t614.toList = a0.toList then ((garboardlaw01_NaturalRing_2.f a0 (⟨#[48]⟩:ByteArray)).bind fun t615=>(if t615.toList = ([48]:List UInt8) then ((garboardlaw01_NaturalRing_1.f a0 (⟨#[48]⟩:ByteArray)).bind fun t616=>(if t616.toList = a0.toList then ((garboardlaw01_NaturalRing_2.f a0 a1).bind fun t617=>((natural_Valid.f kj15 t617).bind fun t618=>(some t618))) else (some false))) else (some false))) else (some false)) = some r:=H
            have A45:=Aside0.mk A450
            clear A450
            by_cases c46:t614.toList = a0.toList
            ·rw [if_pos c46] at H
             have c46b0:(t614.toList == a0.toList) = true:=beq_iff_eq.mpr c46
             have c46b1:(t614.toList != a0.toList) = false:=bne_eq_false_iff_eq.mpr c46
             clear c46
             replace H:=Option.bind_eq_some_iff.mp H
             obtain ⟨t615,A470,H⟩:=H
             replace H:(if t615.toList = ([48]:List UInt8) then ((garboardlaw01_NaturalRing_1.f a0 (⟨#[48]⟩:ByteArray)).bind fun t616=>(if t616.toList = a0.toList then ((garboardlaw01_NaturalRing_2.f a0 a1).bind fun t617=>((natural_Valid.f kj15 t617).bind fun t618=>(some t618))) else (some false))) else (some false)) = some r:=H
             have A47:=Aside0.mk A470
             clear A470
             by_cases c48:t615.toList = ([48]:List UInt8)
             ·rw [if_pos c48] at H
              have c48b0:(t615.toList == ([48]:List UInt8)) = true:=beq_iff_eq.mpr c48
              have c48b1:(t615.toList != ([48]:List UInt8)) = false:=bne_eq_false_iff_eq.mpr c48
              clear c48
              replace H:=Option.bind_eq_some_iff.mp H
              obtain ⟨t616,A490,H⟩:=H
              replace H:(if t616.toList = a0.toList then ((garboardlaw01_NaturalRing_2.f a0 a1).bind fun t617=>((natural_Valid.f kj15 t617).bind fun t618=>(some t618))) else (some false)) = some r:=H
              have A49:=Aside0.mk A490
              clear A490
              by_cases c50:t616.toList = a0.toList
              ·rw [if_pos c50] at H
               have c50b0:(t616.toList == a0.toList) = true:=beq_iff_eq.mpr c50
               have c50b1:(t616.toList != a0.toList) = false:=bne_eq_false_iff_eq.mpr c50
               clear c50
               replace H:=Option.bind_eq_some_iff.mp H
               obtain ⟨t617,A510,H⟩:=H
               replace H:((natural_Valid.f kj15 t617).bind fun t618=>(some t618)) = some r:=H
               have A51:=Aside0.mk A510
               clear A510
               replace H:=Option.bind_eq_some_iff.mp H
               obtain ⟨t618,A520,H⟩:=H
               replace H:(some t618) = some r:=H
               have A52:=Aside0.mk A520
               clear A520
               obtain rfl:=Option.some.inj H
               obtain rfl:t597 = t599:=Option.some.inj (A23.out.symm.trans A26.out)
               obtain rfl:t603 = t605:=Option.some.inj (A31.out.symm.trans A34.out)
               obtain rfl:t601 = t609:=Option.some.inj (A28.out.symm.trans A39.out)
               obtain rfl:t603 = t611:=Option.some.inj (A31.out.symm.trans A41.out)
               obtain rfl:t603 = t617:=Option.some.inj (A31.out.symm.trans A51.out)
               go_wp2_with (first|(go_at_call 31;(with_reducible refine (garboardlaw01_NaturalRing_1.calls a0 a1 t597 _ ?side1 A23.out).mono ?_);(case side1=>exact HLW.out.below (by repeat (first|(with_reducible first|exact HB.out|apply below_alloc|apply pw_below_drewN|apply below_drew1)|exact HB.out)));rintro e w53 ⟨rfl,hb⟩;have n0_:=Aside0.mk (below_step (by repeat (first|(with_reducible first|exact HB.out|apply below_alloc|apply pw_below_drewN|apply below_drew1)|exact HB.out)) hb);clear HB;have HB:=n0_;clear n0_;(try clear hb);(try clear hb2);(try clear hk);(try clear hi))|(go_at_call 31;(with_reducible refine (garboardlaw01_NaturalRing_1.calls a1 a0 t598 _ ?side1 A24.out).mono ?_);(case side1=>exact HLW.out.below (by repeat (first|(with_reducible first|exact HB.out|apply below_alloc|apply pw_below_drewN|apply below_drew1)|exact HB.out)));rintro e w54 ⟨rfl,hb⟩;have n0_:=Aside0.mk (below_step (by repeat (first|(with_reducible first|exact HB.out|apply below_alloc|apply pw_below_drewN|apply below_drew1)|exact HB.out)) hb);clear HB;have HB:=n0_;clear n0_;(try clear hb);(try clear hb2);(try clear hk);(try clear hi))|(go_at_call 31;(with_reducible refine (garboardlaw01_NaturalRing_1.calls a0 a1 t597 _ ?side1 A26.out).mono ?_);(case side1=>exact HLW.out.below (by repeat (first|(with_reducible first|exact HB.out|apply below_alloc|apply pw_below_drewN|apply below_drew1)|exact HB.out)));rintro e w55 ⟨rfl,hb⟩;have n0_:=Aside0.mk (below_step (by repeat (first|(with_reducible first|exact HB.out|apply below_alloc|apply pw_below_drewN|apply below_drew1)|exact HB.out)) hb);clear HB;have HB:=n0_;clear n0_;(try clear hb);(try clear hb2);(try clear hk);(try clear hi))|(go_at_call 31;(with_reducible refine (garboardlaw01_NaturalRing_1.calls t597 a2 t600 _ ?side1 A27.out).mono ?_);(case side1=>exact HLW.out.below (by repeat (first|(with_reducible first|exact HB.out|apply below_alloc|apply pw_below_drewN|apply below_drew1)|exact HB.out)));rintro e w56 ⟨rfl,hb⟩;have n0_:=Aside0.mk (below_step (by repeat (first|(with_reducible first|exact HB.out|apply below_alloc|apply pw_below_drewN|apply below_drew1)|exact HB.out)) hb);clear HB;have HB:=n0_;clear n0_;(try clear hb);(try clear hb2);(try clear hk);(try clear hi))|(go_at_call 31;(with_reducible refine (garboardlaw01_NaturalRing_1.calls a1 a2 t601 _ ?side1 A28.out).mono ?_);(case side1=>exact HLW.out.below (by repeat (first|(with_reducible first|exact HB.out|apply below_alloc|apply pw_below_drewN|apply below_drew1)|exact HB.out)));rintro e w57 ⟨rfl,hb⟩;have n0_:=Aside0.mk (below_step (by repeat (first|(with_reducible first|exact HB.out|apply below_alloc|apply pw_below_drewN|apply below_drew1)|exact HB.out)) hb);clear HB;have HB:=n0_;clear n0_;(try clear hb);(try clear hb2);(try clear hk);(try clear hi))|(go_at_call 31;(with_reducible refine (garboardlaw01_NaturalRing_1.calls a0 t601 t602 _ ?side1 A29.out).mono ?_);(case side1=>exact HLW.out.below (by repeat (first|(with_reducible first|exact HB.out|apply below_alloc|apply pw_below_drewN|apply below_drew1)|exact HB.out)));rintro e w58 ⟨rfl,hb⟩;have n0_:=Aside0.mk (below_step (by repeat (first|(with_reducible first|exact HB.out|apply below_alloc|apply pw_below_drewN|apply below_drew1)|exact HB.out)) hb);clear HB;have HB:=n0_;clear n0_;(try clear hb);(try clear hb2);(try clear hk);(try clear hi))|(go_at_call 32;(with_reducible refine (garboardlaw01_NaturalRing_2.calls a0 a1 t603 _ ?side1 A31.out).mono ?_);(case side1=>exact HLW.out.below (by repeat (first|(with_reducible first|exact HB.out|apply below_alloc|apply pw_below_drewN|apply below_drew1)|exact HB.out)));rintro e w59 ⟨rfl,hb⟩;have n0_:=Aside0.mk (below_step (by repeat (first|(with_reducible first|exact HB.out|apply below_alloc|apply pw_below_drewN|apply below_drew1)|exact HB.out)) hb);clear HB;have HB:=n0_;clear n0_;(try clear hb);(try clear hb2);(try clear hk);(try clear hi))|(go_at_call 32;(with_reducible refine (garboardlaw01_NaturalRing_2.calls a1 a0 t604 _ ?side1 A32.out).mono ?_);(case side1=>exact HLW.out.below (by repeat (first|(with_reducible first|exact HB.out|apply below_alloc|apply pw_below_drewN|apply below_drew1)|exact HB.out)));rintro e w60 ⟨rfl,hb⟩;have n0_:=Aside0.mk (below_step (by repeat (first|(with_reducible first|exact HB.out|apply below_alloc|apply pw_below_drewN|apply below_drew1)|exact HB.out)) hb);clear HB;have HB:=n0_;clear n0_;(try clear hb);(try clear hb2);(try clear hk);(try clear hi))|(go_at_call 32;(with_reducible refine (garboardlaw01_NaturalRing_2.calls a0 a1 t603 _ ?side1 A34.out).mono ?_);(case side1=>exact HLW.out.below (by repeat (first|(with_reducible first|exact HB.out|apply below_alloc|apply pw_below_drewN|apply below_drew1)|exact HB.out)));rintro e w61 ⟨rfl,hb⟩;have n0_:=Aside0.mk (below_step (by repeat (first|(with_reducible first|exact HB.out|apply below_alloc|apply pw_below_drewN|apply below_drew1)|exact HB.out)) hb);clear HB;have HB:=n0_;clear n0_;(try clear hb);(try clear hb2);(try clear hk);(try clear hi))|(go_at_call 32;(with_reducible refine (garboardlaw01_NaturalRing_2.calls t603 a2 t606 _ ?side1 A35.out).mono ?_);(case side1=>exact HLW.out.below (by repeat (first|(with_reducible first|exact HB.out|apply below_alloc|apply pw_below_drewN|apply below_drew1)|exact HB.out)));rintro e w62 ⟨rfl,hb⟩;have n0_:=Aside0.mk (below_step (by repeat (first|(with_reducible first|exact HB.out|apply below_alloc|apply pw_below_drewN|apply below_drew1)|exact HB.out)) hb);clear HB;have HB:=n0_;clear n0_;(try clear hb);(try clear hb2);(try clear hk);(try clear hi))|(go_at_call 32;(with_reducible refine (garboardlaw01_NaturalRing_2.calls a1 a2 t607 _ ?side1 A36.out).mono ?_);(case side1=>exact HLW.out.below (by repeat (first|(with_reducible first|exact HB.out|apply below_alloc|apply pw_below_drewN|apply below_drew1)|exact HB.out)));rintro e w63 ⟨rfl,hb⟩;have n0_:=Aside0.mk (below_step (by repeat (first|(with_reducible first|exact HB.out|apply below_alloc|apply pw_below_drewN|apply below_drew1)|exact HB.out)) hb);clear HB;have HB:=n0_;clear n0_;(try clear hb);(try clear hb2);(try clear hk);(try clear hi))|(go_at_call 32;(with_reducible refine (garboardlaw01_NaturalRing_2.calls a0 t607 t608 _ ?side1 A37.out).mono ?_);(case side1=>exact HLW.out.below (by repeat (first|(with_reducible first|exact HB.out|apply below_alloc|apply pw_below_drewN|apply below_drew1)|exact HB.out)));rintro e w64 ⟨rfl,hb⟩;have n0_:=Aside0.mk (below_step (by repeat (first|(with_reducible first|exact HB.out|apply below_alloc|apply pw_below_drewN|apply below_drew1)|exact HB.out)) hb);clear HB;have HB:=n0_;clear n0_;(try clear hb);(try clear hb2);(try clear hk);(try clear hi))|(go_at_call 31;(with_reducible refine (garboardlaw01_NaturalRing_1.calls a1 a2 t601 _ ?side1 A39.out).mono ?_);(case side1=>exact HLW.out.below (by repeat (first|(with_reducible first|exact HB.out|apply below_alloc|apply pw_below_drewN|apply below_drew1)|exact HB.out)));rintro e w65 ⟨rfl,hb⟩;have n0_:=Aside0.mk (below_step (by repeat (first|(with_reducible first|exact HB.out|apply below_alloc|apply pw_below_drewN|apply below_drew1)|exact HB.out)) hb);clear HB;have HB:=n0_;clear n0_;(try clear hb);(try clear hb2);(try clear hk);(try clear hi))|(go_at_call 32;(with_reducible refine (garboardlaw01_NaturalRing_2.calls a0 t601 t610 _ ?side1 A40.out).mono ?_);(case side1=>exact HLW.out.below (by repeat (first|(with_reducible first|exact HB.out|apply below_alloc|apply pw_below_drewN|apply below_drew1)|exact HB.out)));rintro e w66 ⟨rfl,hb⟩;have n0_:=Aside0.mk (below_step (by repeat (first|(with_reducible first|exact HB.out|apply below_alloc|apply pw_below_drewN|apply below_drew1)|exact HB.out)) hb);clear HB;have HB:=n0_;clear n0_;(try clear hb);(try clear hb2);(try clear hk);(try clear hi))|(go_at_call 32;(with_reducible refine (garboardlaw01_NaturalRing_2.calls a0 a1 t603 _ ?side1 A41.out).mono ?_);(case side1=>exact HLW.out.below (by repeat (first|(with_reducible first|exact HB.out|apply below_alloc|apply pw_below_drewN|apply below_drew1)|exact HB.out)));rintro e w67 ⟨rfl,hb⟩;have n0_:=Aside0.mk (below_step (by repeat (first|(with_reducible first|exact HB.out|apply below_alloc|apply pw_below_drewN|apply below_drew1)|exact HB.out)) hb);clear HB;have HB:=n0_;clear n0_;(try clear hb);(try clear hb2);(try clear hk);(try clear hi))|(go_at_call 32;(with_reducible refine (garboardlaw01_NaturalRing_2.calls a0 a2 t612 _ ?side1 A42.out).mono ?_);(case side1=>exact HLW.out.below (by repeat (first|(with_reducible first|exact HB.out|apply below_alloc|apply pw_below_drewN|apply below_drew1)|exact HB.out)));rintro e w68 ⟨rfl,hb⟩;have n0_:=Aside0.mk (below_step (by repeat (first|(with_reducible first|exact HB.out|apply below_alloc|apply pw_below_drewN|apply below_drew1)|exact HB.out)) hb);clear HB;have HB:=n0_;clear n0_;(try clear hb);(try clear hb2);(try clear hk);(try clear hi))|(go_at_call 31;(with_reducible refine (garboardlaw01_NaturalRing_1.calls t603 t612 t613 _ ?side1 A43.out).mono ?_);(case side1=>exact HLW.out.below (by repeat (first|(with_reducible first|exact HB.out|apply below_alloc|apply pw_below_drewN|apply below_drew1)|exact HB.out)));rintro e w69 ⟨rfl,hb⟩;have n0_:=Aside0.mk (below_step (by repeat (first|(with_reducible first|exact HB.out|apply below_alloc|apply pw_below_drewN|apply below_drew1)|exact HB.out)) hb);clear HB;have HB:=n0_;clear n0_;(try clear hb);(try clear hb2);(try clear hk);(try clear hi))|(go_at_call 32;(with_reducible refine (garboardlaw01_NaturalRing_2.calls a0 (⟨#[49]⟩:ByteArray) t614 _ ?side1 A45.out).mono ?_);(case side1=>exact HLW.out.below (by repeat (first|(with_reducible first|exact HB.out|apply below_alloc|apply pw_below_drewN|apply below_drew1)|exact HB.out)));rintro e w70 ⟨rfl,hb⟩;have n0_:=Aside0.mk (below_step (by repeat (first|(with_reducible first|exact HB.out|apply below_alloc|apply pw_below_drewN|apply below_drew1)|exact HB.out)) hb);clear HB;have HB:=n0_;clear n0_;(try clear hb);(try clear hb2);(try clear hk);(try clear hi))|(go_at_call 32;(with_reducible refine (garboardlaw01_NaturalRing_2.calls a0 (⟨#[48]⟩:ByteArray) t615 _ ?side1 A47.out).mono ?_);(case side1=>exact HLW.out.below (by repeat (first|(with_reducible first|exact HB.out|apply below_alloc|apply pw_below_drewN|apply below_drew1)|exact HB.out)));rintro e w71 ⟨rfl,hb⟩;have n0_:=Aside0.mk (below_step (by repeat (first|(with_reducible first|exact HB.out|apply below_alloc|apply pw_below_drewN|apply below_drew1)|exact HB.out)) hb);clear HB;have HB:=n0_;clear n0_;(try clear hb);(try clear hb2);(try clear hk);(try clear hi))|(go_at_call 31;(with_reducible refine (garboardlaw01_NaturalRing_1.calls a0 (⟨#[48]⟩:ByteArray) t616 _ ?side1 A49.out).mono ?_);(case side1=>exact HLW.out.below (by repeat (first|(with_reducible first|exact HB.out|apply below_alloc|apply pw_below_drewN|apply below_drew1)|exact HB.out)));rintro e w72 ⟨rfl,hb⟩;have n0_:=Aside0.mk (below_step (by repeat (first|(with_reducible first|exact HB.out|apply below_alloc|apply pw_below_drewN|apply below_drew1)|exact HB.out)) hb);clear HB;have HB:=n0_;clear n0_;(try clear hb);(try clear hb2);(try clear hk);(try clear hi))|(go_at_call 32;(with_reducible refine (garboardlaw01_NaturalRing_2.calls a0 a1 t603 _ ?side1 A51.out).mono ?_);(case side1=>exact HLW.out.below (by repeat (first|(with_reducible first|exact HB.out|apply below_alloc|apply pw_below_drewN|apply below_drew1)|exact HB.out)));rintro e w73 ⟨rfl,hb⟩;have n0_:=Aside0.mk (below_step (by repeat (first|(with_reducible first|exact HB.out|apply below_alloc|apply pw_below_drewN|apply below_drew1)|exact HB.out)) hb);clear HB;have HB:=n0_;clear n0_;(try clear hb);(try clear hb2);(try clear hk);(try clear hi))|(go_at_call 15;(with_reducible refine (natural_Valid.calls kj15 t603 t618 _ A52.out).mono ?_);rintro e w' ⟨rfl,⟨nd,rfl⟩⟩))
               go_ret
               exact ⟨by first|rfl|(simp [errW_none,errW_some]<;>rfl)|(simp [*,errW_none,errW_some]<;>rfl),by repeat (first|(with_reducible first|exact HB.out|apply below_alloc|apply pw_below_drewN|apply below_drew1)|exact HB.out)⟩
              ·rw [if_neg c50] at H
               have c50b0:(t616.toList == a0.toList) = false:=beq_eq_false_iff_ne.mpr c50
               have c50b1:(t616.toList != a0.toList) = true:=bne_iff_ne.mpr c50
               exact absurd (Option.some.inj H) (by rw [HRT.out];decide)
             ·rw [if_neg c48] at H
              have c48b0:(t615.toList == ([48]:List UInt8)) = false:=beq_eq_false_iff_ne.mpr c48
              have c48b1:(t615.toList != ([48]:List UInt8)) = true:=bne_iff_ne.mpr c48
              exact absurd (Option.some.inj H) (by rw [HRT.out];decide)
            ·rw [if_neg c46] at H
             have c46b0:(t614.toList == a0.toList) = false:=beq_eq_false_iff_ne.mpr c46
             have c46b1:(t614.toList != a0.toList) = true:=bne_iff_ne.mpr c46
             exact absurd (Option.some.inj H) (by rw [HRT.out];decide)
           ·rw [if_neg c44] at H
            have c44b0:(t610.toList == t613.toList) = false:=beq_eq_false_iff_ne.mpr c44
            have c44b1:(t610.toList != t613.toList) = true:=bne_iff_ne.mpr c44
            exact absurd (Option.some.inj H) (by rw [HRT.out];decide)
          ·rw [if_neg c38] at H
           have c38b0:(t606.toList == t608.toList) = false:=beq_eq_false_iff_ne.mpr c38
           have c38b1:(t606.toList != t608.toList) = true:=bne_iff_ne.mpr c38
           exact absurd (Option.some.inj H) (by rw [HRT.out];decide)
         ·rw [if_neg c33] at H
          have c33b0:(t603.toList == t604.toList) = false:=beq_eq_false_iff_ne.mpr c33
          have c33b1:(t603.toList != t604.toList) = true:=bne_iff_ne.mpr c33
          exact absurd (Option.some.inj H) (by rw [HRT.out];decide)
        ·rw [if_neg c30] at H
         have c30b0:(t600.toList == t602.toList) = false:=beq_eq_false_iff_ne.mpr c30
         have c30b1:(t600.toList != t602.toList) = true:=bne_iff_ne.mpr c30
         exact absurd (Option.some.inj H) (by rw [HRT.out];decide)
       ·rw [if_neg c25] at H
        have c25b0:(t597.toList == t598.toList) = false:=beq_eq_false_iff_ne.mpr c25
        have c25b1:(t597.toList != t598.toList) = true:=bne_iff_ne.mpr c25
        exact absurd (Option.some.inj H) (by rw [HRT.out];decide)
end Go.Proofs.YtaopmkcghancmaaDoor.Pr
set_option linter.unusedVariables false
set_option linter.unusedSimpArgs false
namespace Go.Proofs.YtaopmkcghancmaaDoor.Pr
open Go.RowKit Go.Lib Go.Proofs.YtaopmkcghancmaaDoorW.PrintWords Go.Proofs.YtaopmkcghancmaaDoorW.PrintLast Go.Proofs.YtaopmkcghancmaaDoorW.PrintMore Go.Proofs.YtaopmkcghancmaaDoor.NatTh
theorem ra {m n:Nat} (hm:Sh (num m)) (hn:Sh (num n)):garboardlaw01_NaturalRing_1.f (num m) (num n) = some (num (m + n)):=by
 unfold garboardlaw01_NaturalRing_1.f
 rw [add_f hm hn]
 rfl
theorem rm {m n:Nat} (hm:Sh (num m)) (hn:Sh (num n)):garboardlaw01_NaturalRing_2.f (num m) (num n) = some (num (m * n)):=by
 unfold garboardlaw01_NaturalRing_2.f
 rw [mul_f hm hn]
 rfl
theorem Ring_j1 (a b c:Nat) (ha:Sz 120 a) (hb:Sz 120 b) (hc:Sz 120 c):Ev (fun k=>garboardlaw01_NaturalRing.j1 k (num a) (num b) (num c) false) true:=by
 have sa:=ha.sh (by omega) (by omega)
 have sb:=hb.sh (by omega) (by omega)
 have sc:=hc.sh (by omega) (by omega)
 have sab:=(ha.add hb).sh (by omega) (by omega)
 have sbc:=(hb.add hc).sh (by omega) (by omega)
 have pab:=(ha.mul hb).sh (by omega) (by omega)
 have pac:=(ha.mul hc).sh (by omega) (by omega)
 have pbc:=(hb.mul hc).sh (by omega) (by omega)
 have s0:Sh (num 0):=Sz.sh (e:=1) (by unfold Sz;omega) (by omega) (by omega)
 have s1:Sh (num 1):=Sz.sh (e:=1) (by unfold Sz;omega) (by omega) (by omega)
 have v:=Valid_ev (num (a * b)) (Nat.lt_of_le_of_lt pab (by omega))
 rw [nv_num] at v
 refine Ev.step (f:=fun k=>(natural_Valid.f k (num (a * b))).bind fun t=>some t) (fun k=>?_) (Ev.bind v (Ev.now _))
 rw [garboardlaw01_NaturalRing.j1,if_neg (by simp),str0,str1]
 rw [ra sa sb,Option.bind_some,ra sb sa,Option.bind_some,if_pos (by rw [Nat.add_comm]),Option.bind_some,ra sab sc,Option.bind_some,ra sb sc,Option.bind_some,ra sa sbc,Option.bind_some,if_pos (by rw [Nat.add_assoc])]
 rw [rm sa sb,Option.bind_some,rm sb sa,Option.bind_some,if_pos (by rw [Nat.mul_comm]),Option.bind_some,rm pab sc,Option.bind_some,rm sb sc,Option.bind_some,rm sa pbc,Option.bind_some,if_pos (by rw [Nat.mul_assoc])]
 rw [Option.bind_some,rm sa sbc,Option.bind_some,Option.bind_some,rm sa sc,Option.bind_some,ra pab pac,Option.bind_some,if_pos (by rw [Nat.mul_add])]
 rw [rm sa s1,Option.bind_some,if_pos (by rw [Nat.mul_one]),rm sa s0,Option.bind_some,if_pos (by rw [Nat.mul_zero];exact num0),ra sa s0,Option.bind_some,if_pos (by rw [Nat.add_zero]),Option.bind_some]
theorem Ring_law (a b c:ByteArray):Ev (fun k=>garboardlaw01_NaturalRing.f k a b c) true:=by
 refine law_head [a,b,c] (by simp) (fun k t=>garboardlaw01_NaturalRing.j0 k a b c t) _ (fun k=>rfl) (fun k=>by rw [garboardlaw01_NaturalRing.j0,if_pos rfl]) (fun hs=>?_)
 have ha:=hs a (by simp)
 have hb:=hs b (by simp)
 have hc:=hs c (by simp)
 have va:=Valid_ev a (by omega)
 have vb:=Valid_ev b (by omega)
 have vc:=Valid_ev c (by omega)
 refine Ev.step (fun k=>by rw [garboardlaw01_NaturalRing.j0,if_neg (by simp)]) (Ev.bind va ?_)
 cases h1:nv a with
 | false=>exact Ev.congr (fun k=>if_neg (by simp)) (Ev.step (fun k=>by rw [garboardlaw01_NaturalRing.j1,if_pos (by simp)]) (Ev.now _))
 | true =>
  refine Ev.congr (fun k=>if_pos rfl) (Ev.bind vb ?_)
  cases h2:nv b with
  | false=>exact Ev.congr (fun k=>if_neg (by simp)) (Ev.step (fun k=>by rw [garboardlaw01_NaturalRing.j1,if_pos (by simp)]) (Ev.now _))
  | true =>
   refine Ev.congr (fun k=>if_pos rfl) (Ev.bind vc ?_)
   cases h3:nv c with
   | false=>exact Ev.step (fun k=>by rw [garboardlaw01_NaturalRing.j1,if_pos (by simp)]) (Ev.now _)
   | true =>
    obtain ⟨m,rfl,hm⟩:=is_num h1 ha
    obtain ⟨n,rfl,hn⟩:=is_num h2 hb
    obtain ⟨x,rfl,hx⟩:=is_num h3 hc
    exact Ring_j1 m n x hm hn hx
end Go.Proofs.YtaopmkcghancmaaDoor.Pr
namespace Go.Proofs.YtaopmkcghancmaaDoor.Pr
set_option linter.unusedVariables false
set_option linter.unusedSimpArgs false
open Go.ChangeShapes Go.WideShapes Go.ChangeAt Go.RowKit Go.Proofs.YtaopmkcghancmaaDoorW.PrintWords
set_option maxRecDepth 100000 in
theorem naturalRing_lifted (os:Os) (started:os.Started) (H:Type) (enc:TypeId × Value→H) :
  ReturnsInHanded {} Tryd.checked os 7 .any (fun w args=>(Rows.naturalRingSpec.pre enc Tryd.prog Tryd.f7 [] false w args∧laidMetH Tryd.prog laid5 w)∧sizedMet enc Tryd.prog Tryd.f7 (OpenSpec.ofChange Rows.naturalRingSpec) false w args)
   (Rows.naturalRingSpec.post enc Tryd.prog Tryd.f7 false true false false):=by
 refine returnsInHanded_of_change_and (C:=Tryd.checked) (X:=fun w _=>laidMetH Tryd.prog laid5 w) (fun _ _ _ hh h=>h.of_heap hh) own started (by kernel_rfl) Tryd.func7
  (ChangeSpec.witness_shaped (enc:=enc) (C:=Tryd.checked) (os:=os) (X:=fun w _=>laidMetH Tryd.prog laid5 w) false (World.doorLaid Tryd.prog 400 os) #[.string ⟨#[]⟩,.string ⟨#[]⟩,.string ⟨#[]⟩] 8 rfl (World.shaped_of_RefB (by kernel_rfl) (by kernel_rfl)) (by kernel_rfl) (by kernel_rfl) (by kernel_rfl) (door_met os _)) ?_
 intro W base args ds gs before hval0 hW _ _ hL _
 have hval:∀ (j:Nat) t v,Tryd.f7.params[j]? = some t→args[j]? = some v→Value.okWide Tryd.prog W .any base t v:=hval0
 have hW':=hW
 obtain ⟨p,q,hA0,hV,rfl,hfz,hnd⟩:=hW
 have hA:DataW.TrodAll enc Tryd.prog W 0 (fun _=>true) true Tryd.f7.params.toList args.toList ds p:=hA0
 rw [Tryd.params7] at hA hval
 obtain ⟨v0,vs0,d0,ds0,p0,q0,hargs,rfl,rfl,h0,r0⟩:=trodAll_cons hA
 obtain ⟨v1,vs1,d1,ds1,p1,q1,rfl,rfl,rfl,h1,r1⟩:=trodAll_cons r0
 obtain ⟨v2,vs2,d2,ds2,p2,q2,rfl,rfl,rfl,h2,r2⟩:=trodAll_cons r1
 obtain ⟨rfl,rfl,rfl⟩:=trodAll_nil r2
 obtain rfl:args = #[v0,v1,v2]:=by cases args;simp_all
 obtain ⟨rfl,rfl⟩:=trodVars_none hV
 have lt0:∀ x ∈ p0,x.block < W.heap.size:=by obtain ⟨m,hm⟩:=h0;exact DataW.trod_lt m _ _ _ hm
 have lt1:∀ x ∈ p1,x.block < W.heap.size:=by obtain ⟨m,hm⟩:=h1;exact DataW.trod_lt m _ _ _ hm
 have lt2:∀ x ∈ p2,x.block < W.heap.size:=by obtain ⟨m,hm⟩:=h2;exact DataW.trod_lt m _ _ _ hm
 have k0:=h0
 have k1:=h1
 have k2:=h2
 obtain ⟨a0,rfl⟩:=openS (hval 0 9 v0 rfl rfl) h0
 obtain ⟨a1,rfl⟩:=openS (hval 1 9 v1 rfl rfl) h1
 obtain ⟨a2,rfl⟩:=openS (hval 2 9 v2 rfl rfl) h2
 have hT:=laid_tab hL
 clear hA0 hval0 hval
 obtain ⟨k,hk⟩:=(Ring_law a0 a1 a2).rounds
 refine (garboardlaw01_NaturalRing.calls k a0 a1 a2 true W hT hk rfl).mono fun e W' ⟨he,bel⟩=>?_
 subst he
 exact ⟨_,rfl,_,_,_,[],_,[],hW',trodAll_mk1 (shut_bool Tryd.underlying4 _),(trodAll_cons_mk (Below.trod laidOut (by kernel_rfl) (of_decide_eq_true (by kernel_rfl)) k0 bel lt0) (trodAll_cons_mk (Below.trod laidOut (by kernel_rfl) (of_decide_eq_true (by kernel_rfl)) k1 bel lt1) (trodAll_cons_mk (Below.trod laidOut (by kernel_rfl) (of_decide_eq_true (by kernel_rfl)) k2 bel lt2) trodAll_mk0))),rfl,bel.frame _,fun h=>by cases h⟩
theorem naturalRing_row:Rows.NaturalRingSaid :=
 OpenClaim.holds_of_wide 7 Tryd.f7 rfl rfl rfl rfl rfl rfl rfl ⟨rfl,rfl,rfl,rfl,rfl⟩ rfl rfl rfl rfl rfl (by kernel_rfl) Tryd.func7 (by kernel_rfl)
  (of_decide_eq_true (by kernel_rfl)) (by unfold Func.isWrapper;first|(rw [if_pos (by decide +kernel)];kernel_rfl)|(rw [if_neg (by decide +kernel)];exact ⟨rfl,rfl⟩))
  (fun os started H enc _=>naturalRing_lifted os started H enc)
end Go.Proofs.YtaopmkcghancmaaDoor.Pr
namespace Go.Proofs.YtaopmkcghancmaaDoor
open Go
theorem naturalRing_card_holds:Rows.NaturalRingCardSaid :=
 Claim7.holds_tied_plain_at .later [] [.data,.data,.data,.sentinel,.sentinel] true (true, "15e2bb534210d3ebfac1118a7fbd3a9c70502882d4f4aec048f40a6a26db7ede") true
  Pr.naturalRing_row (fun _ h=>by cases h) (by kernel_rfl) (fun _ h=>by cases h) naturalRing_row_tie rfl ⟨rfl,rfl⟩ (by kernel_rfl) rfl
  (fun f fn hf hfn=>by
   obtain rfl:f = 7:=Option.some.inj ((show Tryd.prog.funcNamed "garboard/garboardlaw01.NaturalRing" = some 7 by kernel_rfl).symm.trans hf) |>.symm
   obtain rfl:fn = Tryd.f7:=(Option.some.inj (Tryd.func7.symm.trans hfn)).symm
   exact ⟨by kernel_rfl,fun j t ht=>by
    rw [Tryd.params7] at ht
    have hm:t ∈ [9,9,9]:=by simpa using Array.mem_of_getElem? ht
    have hall:([9,9,9].all fun u=>!Tryd.prog.wantsStandIn u) = true:=by kernel_rfl
    exact (show Tryd.prog.wantsStandIn t = false by simpa using List.all_eq_true.1 hall t hm)⟩)
  (by kernel_rfl)
end Go.Proofs.YtaopmkcghancmaaDoor
