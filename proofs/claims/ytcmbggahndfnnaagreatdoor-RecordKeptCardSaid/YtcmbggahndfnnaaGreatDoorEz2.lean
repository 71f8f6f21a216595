/- Part 2 of 6: walks and laws of functions that the last part joins. The words of the print (W..) are the kit's, cut down by program to what is used here. -/
import Derived.Test.YtcmbggahndfnnaaGreatDoorProg
import Derived.Below
import Derived.Deep.Draws
import Derived.Deep.AppendLies
import Derived.Maps.AppendAt
import Derived.OwnWalk
import Derived.Laws.BytesArg
import Derived.Laws.MakeOwn
import Derived.Laws.OwnMore
import Derived.Deep.OwnRows
import Derived.Tactics
import Derived.Lib.ConvBytes
import Derived.Laws.Slices
import Derived.WalkKit
import Derived.KernelRfl
import Derived.RowKit3
import Derived.Deep.LoopGhost
import Derived.Deep.QuietTactic
import Derived.BigQuiet
import Derived.WideLaws
import Derived.Deep.DeepCutAuto
import Derived.Deep.CutBlock
import Derived.Deep.RegionHeld3
import Derived.Laws.Rows
import Derived.Lib.AppendStr
import Derived.ArgAppend
import Derived.Laws.IdiomCopy
import Derived.OrdersHeld
import Derived.Laws.BitsLemmas
import Derived.RowKit
import Derived.Lib.AppendIntMem
import Derived.Shelf.LaysM
import Derived.Shelf.Strconv.Itoa3
import Derived.Lib.SmallJoins
import Derived.LaidMore
import Derived.ProofKit
import Derived.Stop.Joined
import Derived.SizedLaws
import Derived.DataShut
import Derived.Shelf.Abstract
import Derived.Shelf.Strings.Builder1
import Derived.Shelf.Strings.Builder2
import Derived.Shelf.Small.Wraps
import Derived.Shelf.Strings.BuilderF
import Derived.Shelf.Strings.BuilderK
import Derived.Shelf.Strings.Builder2Cap
import Derived.Shelf.Strconv.Itoa0
import Derived.Shelf.Strconv.Itoa1
import Derived.Shelf.Strconv.Itoa2
import Derived.Shelf.Strconv.Clone
import Derived.Shelf.Strconv.SyntaxError
import Derived.Shelf.Strconv.Lower
import Derived.Shelf.Strconv.ParseUint10
import Derived.Shelf.Strconv.ParseUint10Empty
import Derived.Shelf.Strconv.RangeError
import Derived.Shelf.Strconv.ParseUintEmpty
import Derived.Shelf.Strconv.ParseUint10b64
import Derived.Shelf.Strconv.ParseUint10b32
import Derived.Shelf.Strconv.ParseUint10b16
import Derived.Shelf.Strconv.ParseUint10b8
import Derived.Ground.MpProg
import Derived.Shelf.Pu.ParseUintPublic10
import Derived.Shelf.Strings.Prefix
import Derived.Shelf.Bits.Mul64
import Derived.Shelf.Strings.Repeat
import Derived.Ground.Names2Prog
import Derived.Shelf.Slices.SearchI
import Derived.Lib.AtoiErrMem
import Derived.Lib.ItoaNum
import Derived.Lib.ParseIntB
import Derived.RangeFuncFrom
import Derived.RangeFuncBox
import Derived.RangeFuncLeaves
import Derived.RangeFuncCalls
import Derived.RangeFuncBound
import Derived.OwnWalkIn
import Derived.TacticsInMore
import Derived.LoopNIn
import Derived.LoopIn
import Derived.Lib.Hide
import Derived.Lib.FrozenHead
import Derived.Test.YtcmbggahndfnnaaGreatDoorEz1
import Derived.Test.YtcmbggahndfnnaaGreatDoorCards
import Derived.Test.YtcmbggahndfnnaaGreatDoorTie
set_option linter.unusedVariables false
set_option linter.unusedSimpArgs false
namespace Go.Proofs.YtcmbggahndfnnaaGreatDoor.Pr
open Go.RowKit Go.Proofs.YtcmbggahndfnnaaGreatDoorW.PrintWords Go.Proofs.YtcmbggahndfnnaaGreatDoorW.PrintLast Go.Proofs.YtcmbggahndfnnaaGreatDoorW.PrintMore
attribute [local go_sem] max2_int min2_int max_two min_two max_three min_three max_four min_four
def errW:Option Int→Value
 | none=>.nilIface
 | some c=>.iface 200 (.int .i64 c)
theorem errW_none:errW none = .nilIface:=rfl
theorem errW_some (c:Int):errW (some c) = .iface 200 (.int .i64 c):=rfl
theorem info3:(Tryz.prog.info? 3).map (fun i=>(i.zero,i.size,i.bytes)) = some (some (.int .i64 0),1,8):=by kernel_rfl
theorem info5:(Tryz.prog.info? 5).map (fun i=>(i.zero,i.size,i.bytes)) = some (some (.int .u8 0),1,1):=by kernel_rfl
theorem info9:(Tryz.prog.info? 9).map (fun i=>(i.zero,i.size,i.bytes)) = some (some (.string ⟨#[]⟩),1,16):=by kernel_rfl
theorem info26:(Tryz.prog.info? 26).map (fun i=>(i.zero,i.size,i.bytes)) = some (some (.agg #[(.int .i64 0),(.int .i64 0),(.int .i64 0),(.slice none 0 0),(.slice none 0 0),(.slice none 0 0)]),6,96):=by kernel_rfl
theorem info52:(Tryz.prog.info? 52).map (fun i=>(i.zero,i.size,i.bytes)) = some (some (.agg #[(.int .i64 0),(.int .i64 0),(.int .i64 0),(.slice none 0 0),(.slice none 0 0),(.slice none 0 0),(.string ⟨#[]⟩)]),7,112):=by kernel_rfl
theorem info65:(Tryz.prog.info? 65).map (fun i=>(i.zero,i.size,i.bytes)) = some (some (.string ⟨#[]⟩),1,16):=by kernel_rfl
theorem info101:(Tryz.prog.info? 101).map (fun i=>(i.zero,i.size,i.bytes)) = some (some (.int .u32 0),1,4):=by kernel_rfl
structure S26 where
 f0:Int
 f1:Int
 f2:Int
 f3:(List Int)
 f4:(List ByteArray)
 f5:(List ByteArray)
def z26:S26:=⟨(0:Int),(0:Int),(0:Int),([]:List Int),([]:List ByteArray),([]:List ByteArray)⟩
def k26:Kd S26:=Kd.iso (Kd.pair (Kd.int .i64) (Kd.pair (Kd.int .i64) (Kd.pair (Kd.int .i64) (Kd.pair (Kd.slice 3 (Kd.int .i64)) (Kd.pair (Kd.slice 65 Kd.string) (Kd.slice 9 Kd.string)))))) (fun x:S26=>(x.f0,x.f1,x.f2,x.f3,x.f4,x.f5))
theorem k26_open {w:World} {x:S26} {cs:List Value} (h:k26.K w x cs):∃ A3 c3 A4 c4 A5 c5,cs = [.int .i64 x.f0,.int .i64 x.f1,.int .i64 x.f2,.slice A3 x.f3.length c3,.slice A4 x.f4.length c4,.slice A5 x.f5.length c5]∧x.f3.length≤c3∧(Kd.int .i64).C w A3 x.f3.length x.f3∧x.f4.length≤c4∧Kd.string.C w A4 x.f4.length x.f4∧x.f5.length≤c5∧Kd.string.C w A5 x.f5.length x.f5:=by
 obtain ⟨_,_,rfl,rfl,⟨_,_,rfl,rfl,⟨_,_,rfl,rfl,⟨_,_,rfl,⟨A3,c3,rfl,l3,g3⟩,⟨_,_,rfl,⟨A4,c4,rfl,l4,g4⟩,⟨A5,c5,rfl,l5,g5⟩⟩⟩⟩⟩⟩:=h
 exact ⟨A3,c3,A4,c4,A5,c5,rfl,l3,g3,l4,g4,l5,g5⟩
theorem k26_openM {w:World} {base:Nat} {ok:Nat→Prop} {x:S26} {cs:List Value} (h:k26.M w base ok x cs):∃ v3 v4 v5,cs = [.int .i64 x.f0,.int .i64 x.f1,.int .i64 x.f2,v3,v4,v5]∧(Kd.int .i64).R 3 w base ok v3 x.f3∧Kd.string.R 65 w base ok v4 x.f4∧Kd.string.R 9 w base ok v5 x.f5:=by
 obtain ⟨_,_,rfl,rfl,⟨_,_,rfl,rfl,⟨_,_,rfl,rfl,⟨_,_,rfl,⟨v3,rfl,g3⟩,⟨_,_,rfl,⟨v4,rfl,g4⟩,⟨v5,rfl,g5⟩⟩⟩⟩⟩⟩:=h
 exact ⟨v3,v4,v5,rfl,g3,g4,g5⟩
theorem k26_mk (w:World) (x:S26) {A3:Option Addr} {c3:Nat} (l3:x.f3.length≤c3) (g3:(Kd.int .i64).C w A3 x.f3.length x.f3) {A4:Option Addr} {c4:Nat} (l4:x.f4.length≤c4) (g4:Kd.string.C w A4 x.f4.length x.f4) {A5:Option Addr} {c5:Nat} (l5:x.f5.length≤c5) (g5:Kd.string.C w A5 x.f5.length x.f5):k26.K w x [.int .i64 x.f0,.int .i64 x.f1,.int .i64 x.f2,.slice A3 x.f3.length c3,.slice A4 x.f4.length c4,.slice A5 x.f5.length c5]:=⟨[.int .i64 x.f0],[.int .i64 x.f1,.int .i64 x.f2,.slice A3 x.f3.length c3,.slice A4 x.f4.length c4,.slice A5 x.f5.length c5],rfl,rfl,⟨[.int .i64 x.f1],[.int .i64 x.f2,.slice A3 x.f3.length c3,.slice A4 x.f4.length c4,.slice A5 x.f5.length c5],rfl,rfl,⟨[.int .i64 x.f2],[.slice A3 x.f3.length c3,.slice A4 x.f4.length c4,.slice A5 x.f5.length c5],rfl,rfl,⟨[.slice A3 x.f3.length c3],[.slice A4 x.f4.length c4,.slice A5 x.f5.length c5],rfl,⟨A3,c3,rfl,l3,g3⟩,⟨[.slice A4 x.f4.length c4],[.slice A5 x.f5.length c5],rfl,⟨A4,c4,rfl,l4,g4⟩,⟨A5,c5,rfl,l5,g5⟩⟩⟩⟩⟩⟩
theorem k26_mkM (w:World) (base:Nat) (ok:Nat→Prop) (x:S26) {v3:Value} (g3:(Kd.int .i64).R 3 w base ok v3 x.f3) {v4:Value} (g4:Kd.string.R 65 w base ok v4 x.f4) {v5:Value} (g5:Kd.string.R 9 w base ok v5 x.f5):k26.M w base ok x [.int .i64 x.f0,.int .i64 x.f1,.int .i64 x.f2,v3,v4,v5]:=⟨[.int .i64 x.f0],[.int .i64 x.f1,.int .i64 x.f2,v3,v4,v5],rfl,rfl,⟨[.int .i64 x.f1],[.int .i64 x.f2,v3,v4,v5],rfl,rfl,⟨[.int .i64 x.f2],[v3,v4,v5],rfl,rfl,⟨[v3],[v4,v5],rfl,⟨v3,rfl,g3⟩,⟨[v4],[v5],rfl,⟨v4,rfl,g4⟩,⟨v5,rfl,g5⟩⟩⟩⟩⟩⟩
def rd_T26 (xs:List S26) (i:Int):S26:=xs.getD i.toNat z26
theorem at_T26 {w:World} {A:Option Addr} {n:Nat} {xs:List S26} (h:Kd.C k26 w A n xs) (i:Int) (h0:0≤i) (h1:i < n):∃ ad A3 c3 A4 c4 A5 c5,A = some ad∧w.cell? (ad.add (i.toNat * 6)) = some (.int .i64 (rd_T26 xs i).f0)∧w.cell? ⟨(ad.add (i.toNat * 6)).block,(ad.add (i.toNat * 6)).off + 1,none⟩ = some (.int .i64 (rd_T26 xs i).f1)∧w.cell? ⟨(ad.add (i.toNat * 6)).block,(ad.add (i.toNat * 6)).off + 2,none⟩ = some (.int .i64 (rd_T26 xs i).f2)∧w.cell? ⟨(ad.add (i.toNat * 6)).block,(ad.add (i.toNat * 6)).off + 3,none⟩ = some (.slice A3 (rd_T26 xs i).f3.length c3)∧w.cell? ⟨(ad.add (i.toNat * 6)).block,(ad.add (i.toNat * 6)).off + 4,none⟩ = some (.slice A4 (rd_T26 xs i).f4.length c4)∧w.cell? ⟨(ad.add (i.toNat * 6)).block,(ad.add (i.toNat * 6)).off + 5,none⟩ = some (.slice A5 (rd_T26 xs i).f5.length c5)∧(rd_T26 xs i).f3.length≤c3∧(Kd.int .i64).C w A3 (rd_T26 xs i).f3.length (rd_T26 xs i).f3∧(rd_T26 xs i).f4.length≤c4∧Kd.string.C w A4 (rd_T26 xs i).f4.length (rd_T26 xs i).f4∧(rd_T26 xs i).f5.length≤c5∧Kd.string.C w A5 (rd_T26 xs i).f5.length (rd_T26 xs i).f5:=by
 obtain ⟨ad,c,e,_,hK,Aa⟩:=Kd.C_get h z26 i h0 h1
 have hc:∀ j u,c[j]? = some u→w.cell? (ad.add (i.toNat * 6 + j)) = some u:=Aa
 obtain ⟨A3,c3,A4,c4,A5,c5,rfl,l3,g3,l4,g4,l5,g5⟩:=k26_open hK
 exact ⟨ad,A3,c3,A4,c4,A5,c5,e,hc 0 _ rfl,by rw [← add_field _ _ 1 (by omega)];exact hc 1 _ rfl,by rw [← add_field _ _ 2 (by omega)];exact hc 2 _ rfl,by rw [← add_field _ _ 3 (by omega)];exact hc 3 _ rfl,by rw [← add_field _ _ 4 (by omega)];exact hc 4 _ rfl,by rw [← add_field _ _ 5 (by omega)];exact hc 5 _ rfl,l3,g3,l4,g4,l5,g5⟩
structure S52 where
 f0:S26
 f1:ByteArray
def z52:S52:=⟨z26,(⟨#[]⟩:ByteArray)⟩
def k52:Kd S52:=Kd.iso (Kd.pair k26 Kd.string) (fun x:S52=>(x.f0,x.f1))
theorem k52_open {w:World} {x:S52} {cs:List Value} (h:k52.K w x cs):∃ A3 c3 A4 c4 A5 c5,cs = [.int .i64 x.f0.f0,.int .i64 x.f0.f1,.int .i64 x.f0.f2,.slice A3 x.f0.f3.length c3,.slice A4 x.f0.f4.length c4,.slice A5 x.f0.f5.length c5,.string x.f1]∧x.f0.f3.length≤c3∧(Kd.int .i64).C w A3 x.f0.f3.length x.f0.f3∧x.f0.f4.length≤c4∧Kd.string.C w A4 x.f0.f4.length x.f0.f4∧x.f0.f5.length≤c5∧Kd.string.C w A5 x.f0.f5.length x.f0.f5:=by
 obtain ⟨_,_,rfl,s0,rfl⟩:=h
 obtain ⟨A3,c3,A4,c4,A5,c5,rfl,l3,g3,l4,g4,l5,g5⟩:=k26_open s0
 exact ⟨A3,c3,A4,c4,A5,c5,rfl,l3,g3,l4,g4,l5,g5⟩
theorem k52_openM {w:World} {base:Nat} {ok:Nat→Prop} {x:S52} {cs:List Value} (h:k52.M w base ok x cs):∃ v3 v4 v5,cs = [.int .i64 x.f0.f0,.int .i64 x.f0.f1,.int .i64 x.f0.f2,v3,v4,v5,.string x.f1]∧(Kd.int .i64).R 3 w base ok v3 x.f0.f3∧Kd.string.R 65 w base ok v4 x.f0.f4∧Kd.string.R 9 w base ok v5 x.f0.f5:=by
 obtain ⟨_,_,rfl,s0,rfl⟩:=h
 obtain ⟨v3,v4,v5,rfl,g3,g4,g5⟩:=k26_openM s0
 exact ⟨v3,v4,v5,rfl,g3,g4,g5⟩
theorem k52_mkM (w:World) (base:Nat) (ok:Nat→Prop) (x:S52) {v3:Value} (g3:(Kd.int .i64).R 3 w base ok v3 x.f0.f3) {v4:Value} (g4:Kd.string.R 65 w base ok v4 x.f0.f4) {v5:Value} (g5:Kd.string.R 9 w base ok v5 x.f0.f5):k52.M w base ok x [.int .i64 x.f0.f0,.int .i64 x.f0.f1,.int .i64 x.f0.f2,v3,v4,v5,.string x.f1]:=⟨[.int .i64 x.f0.f0,.int .i64 x.f0.f1,.int .i64 x.f0.f2,v3,v4,v5],[.string x.f1],rfl,(k26_mkM w base ok x.f0 g3 g4 g5),rfl⟩
def rd_T52 (xs:List S52) (i:Int):S52:=xs.getD i.toNat z52
theorem at_T52 {w:World} {A:Option Addr} {n:Nat} {xs:List S52} (h:Kd.C k52 w A n xs) (i:Int) (h0:0≤i) (h1:i < n):∃ ad A3 c3 A4 c4 A5 c5,A = some ad∧w.cell? (ad.add (i.toNat * 7)) = some (.int .i64 (rd_T52 xs i).f0.f0)∧w.cell? ⟨(ad.add (i.toNat * 7)).block,(ad.add (i.toNat * 7)).off + 1,none⟩ = some (.int .i64 (rd_T52 xs i).f0.f1)∧w.cell? ⟨(ad.add (i.toNat * 7)).block,(ad.add (i.toNat * 7)).off + 2,none⟩ = some (.int .i64 (rd_T52 xs i).f0.f2)∧w.cell? ⟨(ad.add (i.toNat * 7)).block,(ad.add (i.toNat * 7)).off + 3,none⟩ = some (.slice A3 (rd_T52 xs i).f0.f3.length c3)∧w.cell? ⟨(ad.add (i.toNat * 7)).block,(ad.add (i.toNat * 7)).off + 4,none⟩ = some (.slice A4 (rd_T52 xs i).f0.f4.length c4)∧w.cell? ⟨(ad.add (i.toNat * 7)).block,(ad.add (i.toNat * 7)).off + 5,none⟩ = some (.slice A5 (rd_T52 xs i).f0.f5.length c5)∧w.cell? ⟨(ad.add (i.toNat * 7)).block,(ad.add (i.toNat * 7)).off + 6,none⟩ = some (.string (rd_T52 xs i).f1)∧(rd_T52 xs i).f0.f3.length≤c3∧(Kd.int .i64).C w A3 (rd_T52 xs i).f0.f3.length (rd_T52 xs i).f0.f3∧(rd_T52 xs i).f0.f4.length≤c4∧Kd.string.C w A4 (rd_T52 xs i).f0.f4.length (rd_T52 xs i).f0.f4∧(rd_T52 xs i).f0.f5.length≤c5∧Kd.string.C w A5 (rd_T52 xs i).f0.f5.length (rd_T52 xs i).f0.f5:=by
 obtain ⟨ad,c,e,_,hK,Aa⟩:=Kd.C_get h z52 i h0 h1
 have hc:∀ j u,c[j]? = some u→w.cell? (ad.add (i.toNat * 7 + j)) = some u:=Aa
 obtain ⟨A3,c3,A4,c4,A5,c5,rfl,l3,g3,l4,g4,l5,g5⟩:=k52_open hK
 exact ⟨ad,A3,c3,A4,c4,A5,c5,e,hc 0 _ rfl,by rw [← add_field _ _ 1 (by omega)];exact hc 1 _ rfl,by rw [← add_field _ _ 2 (by omega)];exact hc 2 _ rfl,by rw [← add_field _ _ 3 (by omega)];exact hc 3 _ rfl,by rw [← add_field _ _ 4 (by omega)];exact hc 4 _ rfl,by rw [← add_field _ _ 5 (by omega)];exact hc 5 _ rfl,by rw [← add_field _ _ 6 (by omega)];exact hc 6 _ rfl,l3,g3,l4,g4,l5,g5⟩
open Go.Lib
def LaidW (w:World):Prop:=Lib.TabIs Tryz.prog w "internal/strconv.uint64pow10" .u64 Lib.pow10Tab
theorem LaidW.below {w w':World} (h:LaidW w) (hb:Below w.heap.size w w'):LaidW w':=by
 unfold LaidW Lib.TabIs World.var? at h ⊢
 cases hg:Tryz.prog.globalNamed "internal/strconv.uint64pow10" with
 | none=>rw [hg] at h;simp at h
 | some g =>
  rw [hg] at h
  simp only [Option.bind_some] at h ⊢
  have hlt:g < w.heap.size:=by
   rcases Nat.lt_or_ge g w.heap.size with h'|h'
   ·exact h'
   ·rw [Array.getElem?_eq_none h'] at h;cases h
  rw [hb.block g hlt]
  exact h
end Go.Proofs.YtcmbggahndfnnaaGreatDoor.Pr
namespace Go.Proofs.YtcmbggahndfnnaaGreatDoor.Pr
open Go.ChangeShapes Go.WideShapes Go.ChangeAt Go.Deep Go.Joins Go.RowKit Go.Proofs.YtcmbggahndfnnaaGreatDoorW.PrintWords
theorem own:ownKnob Tryz.prog.godebug = none:=by kernel_rfl
theorem laidOut:laidOutB Tryz.prog = true:=by kernel_rfl
def laid5:List (String × DataW Unit):=[("math/bits.deBruijn32tab",Rows.laid_math_bits_deBruijn32tab),("math/bits.deBruijn64tab",Rows.laid_math_bits_deBruijn64tab),("internal/strconv.uint64pow10",Rows.laid_internal_strconv_uint64pow10),("strconv.ErrRange",Rows.laid_strconv_ErrRange),("strconv.ErrSyntax",Rows.laid_strconv_ErrSyntax)]
theorem gPow:Tryz.prog.globalNamed "internal/strconv.uint64pow10" = some 3:=by kernel_rfl
theorem gPowType:(Tryz.prog.globals[3]?).map (·.type) = some 218:=by kernel_rfl
theorem laid_tab {W:World} (h:laidMetH Tryz.prog laid5 W):LaidW W:=by
 rw [MakeChecks.laidMetH_plain _ _ _ (by kernel_rfl)] at h
 obtain ⟨ps,⟨g0,t0,cs0,f0,p0,q0,hg0,ht0,hv0,hd0,⟨g1,t1,cs1,f1,p1,q1,hg1,ht1,hv1,hd1,⟨g2,t2,cs2,f2,p2,q2,hg2,ht2,hv2,hd2,_,_⟩,_⟩,_⟩,_⟩:=h
 obtain rfl:=Option.some.inj (gPow.symm.trans hg2)
 obtain rfl:=Option.some.inj (gPowType.symm.trans ht2)
 have e:(Rows.laid_internal_strconv_uint64pow10:DataW Unit) = Lib.tabData .u64 Lib.pow10Tab:=rfl
 rw [e] at hd2
 unfold LaidW Lib.TabIs
 rw [hv2,← Lib.cells_of_tab Tryz.underlying218 Tryz.underlying104 (by kernel_rfl) (by kernel_rfl) hd2]
theorem door_met (os:Os) (args:Array Value):laidMetH Tryz.prog laid5 ((World.doorLaid Tryz.prog 400 os).forCall (fun _ _=>0) ⟨#[],args,[]⟩).memory :=
 laidMetH_of_parts3 (fuel:=8) (laidMet_of_run' 8 (by kernel_rfl) (by kernel_rfl)) (by kernel_rfl) (by kernel_rfl)
open Go.Proofs.YtcmbggahndfnnaaGreatDoorW.PrintLast Go.Proofs.YtcmbggahndfnnaaGreatDoorW.PrintMore
def fidx {α:Type} (p:α→Bool):List α→Nat→Int
 | [],_=>-1
 | x :: xs,i=>if p x then (i:Int) else fidx p xs (i + 1)
theorem fidx_miss {α:Type} (p:α→Bool) (xs:List α) (i:Nat) (h:∀ x ∈ xs,p x = false):fidx p xs i = -1:=by
 induction xs generalizing i with
 | nil=>rfl
 | cons x xs ih =>
  unfold fidx
  rw [if_neg (by rw [h x (by simp)];simp)]
  exact ih (i + 1) (fun y hy=>h y (by simp [hy]))
theorem fidx_hit {α:Type} (p:α→Bool) (xs:List α) (i k:Nat) (y:α) (hy:xs[k]? = some y) (hp:p y = true) (h:∀ j z,j < k→xs[j]? = some z→p z = false):fidx p xs i = ((i + k:Nat):Int):=by
 induction xs generalizing i k with
 | nil=>simp at hy
 | cons x xs ih =>
  unfold fidx
  cases k with
  | zero =>
   have:x = y:=by simpa using hy
   subst this
   rw [if_pos hp]
   rfl
  | succ k =>
   rw [if_neg (by rw [h 0 x (by omega) (by simp)];simp)]
   rw [ih (i + 1) k (by simpa using hy) (fun j z hj hz=>h (j + 1) z (by omega) (by simpa using hz))]
   congr 1
   omega
theorem fidx_any {α:Type} (p:α→Bool) (xs:List α) (i:Nat):xs.any p = decide (0≤fidx p xs i):=by
 induction xs generalizing i with
 | nil=>rfl
 | cons x xs ih =>
  unfold fidx
  by_cases hx:p x = true
  ·rw [if_pos hx,List.any_cons,hx]
   simp
  ·rw [if_neg hx,List.any_cons,← ih (i + 1)]
   simp [hx]
end Go.Proofs.YtcmbggahndfnnaaGreatDoor.Pr
namespace Go.Proofs.YtcmbggahndfnnaaGreatDoor
open Go.RowKit Go.Proofs.YtcmbggahndfnnaaGreatDoorW.PrintWords Go.Proofs.YtcmbggahndfnnaaGreatDoorW.PrintLast Go.Proofs.YtcmbggahndfnnaaGreatDoorW.PrintMore
theorem far_ {w:World} {g:Nat} {t:TypeId} {cs:Array Value} {p:Addr} (u:Value) (hp:g≠p.block) (h:w.heap[g]? = some (.cells cs t (0,0))):(w.setCell p u).heap[g]? = some (.cells cs t (0,0)):=blk_far h hp u
theorem bx_ {p:Prop} (h:p:=by repeat (first|(with_reducible first|exact Aside0.out (by assumption)|apply below_alloc|apply pw_below_drewN|apply below_drew1|refine below_set ?_ (Aside0.out (by assumption)))|exact Aside0.out (by assumption))):p:=h
theorem bk_ {p:Prop} (h:p:=by (repeat (first|(with_reducible first|refine blk_drewN ?_ _|refine blk_drew ?_|refine blk_alloc ?_ _)|(apply far_;exact Aside0.out (by assumption))|apply blk_put));exact Aside0.out (by assumption);all_goals rfl):p:=h
theorem rf_ {p:Prop} (h:p:=by first|rfl|(simp [errW_none,errW_some]<;>rfl)|(simp [*,errW_none,errW_some]<;>rfl)):p:=h
theorem hc_ {p:Prop} (h:p:=by first|exact trivial|((repeat' (first|refine And.intro ?_ ?_|exact (blk_cell (Aside0.out (by assumption)) _).trans rfl)))):p:=h
theorem bb_ {w W w2:World} {g:Nat} {o:Obj} (B:Aside0 (w.heap[g]? = some o)) (hb:Below W.heap.size W w2) (h:W.heap[g]? = some o:=by (with_reducible repeat (first|refine blk_drewN ?_ _|refine blk_drew ?_|refine blk_alloc ?_ _));exact Aside0.out (by assumption)):Aside0 (w2.heap[g]? = some o):=⟨blk_below h hb⟩
theorem bs_ {w W w2:World} (hb:Below W.heap.size W w2) (h:Below w.heap.size w W:=by repeat (first|(with_reducible first|exact Aside0.out (by assumption)|apply below_alloc|apply pw_below_drewN|apply below_drew1|refine below_set ?_ (Aside0.out (by assumption)))|exact Aside0.out (by assumption))):Aside0 (Below w.heap.size w w2):=⟨below_step h hb⟩
theorem nl_ {w W:World} {g g':Nat} {o:Obj} (B:Aside0 (w.heap[g]? = some o)) (hg:g' = W.heap.size) (h:W.heap[g]? = some o:=by (with_reducible repeat (first|refine blk_drewN ?_ _|refine blk_drew ?_|refine blk_alloc ?_ _));exact Aside0.out (by assumption)):Aside0 (g≠g'):=⟨by rw [hg];exact Nat.ne_of_lt (blk_lt h)⟩
theorem ng_ {w W:World} {g g':Nat} {o:Obj} (B:Aside0 (w.heap[g]? = some o)) (hg:g' = W.heap.size) (h:W.heap[g]? = some o:=by (with_reducible repeat (first|refine blk_drewN ?_ _|refine blk_drew ?_|refine blk_alloc ?_ _));exact Aside0.out (by assumption)):Aside0 (g'≠g):=⟨by rw [hg];exact Nat.ne_of_gt (blk_lt h)⟩
theorem ol_ {w W w2:World} {g g':Nat} {o:Obj} (B:Aside0 (w.heap[g]? = some o)) (hg:g' = W.heap.size) (hb:Below W.heap.size W w2) (h:W.heap[g]? = some o:=by (with_reducible repeat (first|refine blk_drewN ?_ _|refine blk_drew ?_|refine blk_alloc ?_ _));exact Aside0.out (by assumption)):Aside0 (w2.heap[g]? = some o)∧Aside0 (g≠g')∧Aside0 (g'≠g):=⟨⟨blk_below h hb⟩,nl_ ⟨h⟩ hg h,ng_ ⟨h⟩ hg h⟩
theorem dr_ {w:World} {g:Nat} {o:Obj} (B:Aside0 (w.heap[g]? = some o)):Aside0 (w.drew.heap[g]? = some o):=⟨blk_drew B.out⟩
theorem db_ {w W:World} (B:Aside0 (Below w.heap.size w W)):Aside0 (Below w.heap.size w W.drew):=⟨below_drew1 B.out⟩
theorem gk_ {W W2:World} {g:Nat} {o:Obj} (hw:W = W2) (h:W.heap[g]? = some o:=by (repeat (first|(with_reducible first|refine blk_drewN ?_ _|refine blk_drew ?_|refine blk_alloc ?_ _)|(apply far_;exact Aside0.out (by assumption))|apply blk_put));exact Aside0.out (by assumption);all_goals rfl):Aside0 (W2.heap[g]? = some o):=hw ▸ ⟨h⟩
theorem gb_ {w W W2:World} (hw:W = W2) (h:Below w.heap.size w W:=by repeat (first|(with_reducible first|exact Aside0.out (by assumption)|apply below_alloc|apply pw_below_drewN|apply below_drew1|refine below_set ?_ (Aside0.out (by assumption)))|exact Aside0.out (by assumption))):Aside0 (Below w.heap.size w W2):=hw ▸ ⟨h⟩
theorem kr_ {p:Prop} (h:p:=by kernel_rfl):p:=h
theorem de_ {p:Prop} (h:p:=by decide):p:=h
theorem sm_ {p:Prop} (h:p:=by simp):p:=h
theorem ne_nil_b (l:List UInt8):(l != []) = !l.isEmpty:=by cases l<;>rfl
theorem rg_ {p:Prop} (h:p:=by first|rfl|(simp;done)|(simp [*];done)|(simp [ne_nil_b];done)):p:=h
theorem kx_ {p:Prop} (h:p:=by repeat (first|(with_reducible first|exact Aside0.out (by assumption)|apply KeepBut.set_|apply keep_drewN|apply keep_drew|apply keep_alloc)|exact Aside0.out (by assumption))):p:=h
theorem da_ {p:Prop} [Decidable p] (h:decide p = true:=by first|(with_reducible assumption)|assumption):p:=of_decide_eq_true h
theorem mn_ {p:Prop} (h:p:=by repeat' first|(with_reducible exact LeO.refl _)|(with_reducible exact LeO.none _)|(with_reducible apply_assumption)|(with_reducible refine LeO.ite ?_ ?_)|(with_reducible refine LeO.bind ?_ (fun _=>?_))|exact LeO.none _|apply_assumption|refine LeO.ite ?_ ?_|refine LeO.bind ?_ (fun _=>?_)):p:=h
theorem cx_ {p q:Prop} (t:p) (h:p→q:=by intro t_;repeat (first|exact t_|(with_reducible refine Kd.C_alloc ?_ _)|(with_reducible refine Kd.C_drewN ?_ _)|(with_reducible refine Kd.C_drew ?_))):q:=h t
theorem vb_ {α:Type} {d:Kd α} {e:TypeId} {w W w2:World} {base:Nat} {ok:Nat→Prop} {v:Value} {xs:List α} (B:Aside0 (d.V e w base ok v xs)) (hb:Below W.heap.size W w2) (h:d.V e W base ok v xs:=by (with_reducible repeat (first|apply Kd.V_alloc|apply Kd.V_drewN|apply Kd.V_drew));exact Aside0.out (by assumption)):Aside0 (d.V e w2 base ok v xs):=⟨Kd.V_below h hb⟩
theorem rb_ {α:Type} {d:Kd α} {e:TypeId} {w W w2:World} {base:Nat} {ok:Nat→Prop} {v:Value} {xs:List α} (B:Aside0 (d.R e w base ok v xs)) (hb:Below W.heap.size W w2) (h:d.R e W base ok v xs:=by (with_reducible repeat (first|apply Kd.R_alloc|apply Kd.R_drewN|apply Kd.R_drew));exact Aside0.out (by assumption)):Aside0 (d.R e w2 base ok v xs):=⟨Kd.R_below h hb⟩
theorem c2_ {w:World} {g:Nat} {a b:Value} {t:TypeId} (B:Aside0 (w.heap[g]? = some (.cells #[a,b] t (0,0)))):w.cell? ⟨g,0,none⟩ = some a∧w.cell? ⟨g,1,none⟩ = some b∧w.frozen? ⟨g,0,none⟩ = false∧w.frozen? ⟨g,1,none⟩ = false:=⟨(blk_cell B.out 0).trans rfl,(blk_cell B.out 1).trans rfl,blk_frozen B.out 0,blk_frozen B.out 1⟩
theorem c6_ {w:World} {g:Nat} {a b c d e f:Value} {t:TypeId} (B:Aside0 (w.heap[g]? = some (.cells #[a,b,c,d,e,f] t (0,0)))):w.cell? ⟨g,0,none⟩ = some a∧w.cell? ⟨g,1,none⟩ = some b∧w.cell? ⟨g,2,none⟩ = some c∧w.cell? ⟨g,3,none⟩ = some d∧w.cell? ⟨g,4,none⟩ = some e∧w.cell? ⟨g,5,none⟩ = some f∧w.frozen? ⟨g,0,none⟩ = false∧w.frozen? ⟨g,1,none⟩ = false∧w.frozen? ⟨g,2,none⟩ = false∧w.frozen? ⟨g,3,none⟩ = false∧w.frozen? ⟨g,4,none⟩ = false∧w.frozen? ⟨g,5,none⟩ = false:=⟨(blk_cell B.out 0).trans rfl,(blk_cell B.out 1).trans rfl,(blk_cell B.out 2).trans rfl,(blk_cell B.out 3).trans rfl,(blk_cell B.out 4).trans rfl,(blk_cell B.out 5).trans rfl,blk_frozen B.out 0,blk_frozen B.out 1,blk_frozen B.out 2,blk_frozen B.out 3,blk_frozen B.out 4,blk_frozen B.out 5⟩
theorem c7_ {w:World} {g:Nat} {a b c d e f p:Value} {t:TypeId} (B:Aside0 (w.heap[g]? = some (.cells #[a,b,c,d,e,f,p] t (0,0)))):w.cell? ⟨g,0,none⟩ = some a∧w.cell? ⟨g,1,none⟩ = some b∧w.cell? ⟨g,2,none⟩ = some c∧w.cell? ⟨g,3,none⟩ = some d∧w.cell? ⟨g,4,none⟩ = some e∧w.cell? ⟨g,5,none⟩ = some f∧w.cell? ⟨g,6,none⟩ = some p∧w.frozen? ⟨g,0,none⟩ = false∧w.frozen? ⟨g,1,none⟩ = false∧w.frozen? ⟨g,2,none⟩ = false∧w.frozen? ⟨g,3,none⟩ = false∧w.frozen? ⟨g,4,none⟩ = false∧w.frozen? ⟨g,5,none⟩ = false∧w.frozen? ⟨g,6,none⟩ = false:=⟨(blk_cell B.out 0).trans rfl,(blk_cell B.out 1).trans rfl,(blk_cell B.out 2).trans rfl,(blk_cell B.out 3).trans rfl,(blk_cell B.out 4).trans rfl,(blk_cell B.out 5).trans rfl,(blk_cell B.out 6).trans rfl,blk_frozen B.out 0,blk_frozen B.out 1,blk_frozen B.out 2,blk_frozen B.out 3,blk_frozen B.out 4,blk_frozen B.out 5,blk_frozen B.out 6⟩
theorem bn_ {α β:Type} {x:Option α} {f:α→Option β} {b:β} (h:x.bind f = some b):∃ a,Aside0 (x = some a)∧f a = some b:=by
 obtain ⟨a,ha,hb⟩:=Option.bind_eq_some_iff.mp h
 exact ⟨a,⟨ha⟩,hb⟩
section
variable {P : Program} {ops : Array Oper} {rest : List Oper} {o : Oper} {a : Act} {Q : Exit → Act → World → Prop}
theorem bv_ {w W:World} (cs:Array Value) (t:TypeId) {N:Tmp}
  (h:∀ g,g = W.heap.size→∀ w1,Aside0 (w1.heap[g]? = some (.cells cs t (0,0)))→Aside0 (w.heap.size≤g)→Below W.heap.size W w1→Aside0 (Below w.heap.size w w1)→wpList P ops Q rest (a.put o.dst (.pointer (some ⟨g,0,none⟩))) w1)
  (hd:o.dst = some N:=by rfl) (hgd:o.guard = none:=by rfl)
  (hrun:(execOp a.eval o).run P W = .ok (.value (.pointer (some ⟨W.heap.size,0,none⟩))) (W.alloc (.cells cs t (0,0))):=by first|(go_simp;done)|(go_simp;rfl))
  (hb:Below w.heap.size w W:=by repeat (first|(with_reducible first|exact Aside0.out (by assumption)|apply below_alloc|apply pw_below_drewN|apply below_drew1|refine below_set ?_ (Aside0.out (by assumption)))|exact Aside0.out (by assumption))):wpList P ops Q (o :: rest) a W :=
 box_event hgd hd hrun fun g hg w1 Aa k=>h g hg w1 ⟨Aa⟩ ⟨by rw [hg];exact below_size hb⟩ k ⟨below_step hb k⟩
theorem gm_ {w:World} (N:Option Tmp) {f:FuncId} {fn:Func} {as_:Array Operand} {ts:Array TypeId} (hf:P.funcs[f]? = some fn) (args:Array Value)
  (h:Calls P f args w fun e w'=>∃ v,e = .returned v∧wpList P ops Q rest (a.put N v) w')
  (hd:o.dst = N:=by rfl) (hg:o.guard = none:=by rfl) (hname:(fn.name == "runtime.NumGoroutine") = false:=by kernel_rfl) (hb:fn.body.isSome = true:=by rfl)
  (hop:o.op = .call { callee:=.value (.func f),args:=as_,argTypes:=ts }:=by rfl)
  (hargs:as_.map a.eval = args:=by (try simp only [List.map_toArray,List.map_cons,List.map_nil]);first|done|rfl|(simp only [List.length_drop,List.length_take];rfl)):wpList P ops Q (o :: rest) a w :=
 goesL_ N hd hg hf hname hb args hop hargs h
theorem gl_ {w W:World} (N:Option Tmp) {f:FuncId} {fn:Func} {as_:Array Operand} {ts:Array TypeId} (hf:P.funcs[f]? = some fn) (args:Array Value) {v:Value}
  (C:Calls P f args W fun e w'=>e = .returned v∧Below W.heap.size W w')
  (h:∀ w',Below W.heap.size W w'→Aside0 (Below w.heap.size w w')→wpList P ops Q rest (a.put N v) w')
  (hd:o.dst = N:=by rfl) (hg:o.guard = none:=by rfl) (hname:(fn.name == "runtime.NumGoroutine") = false:=by kernel_rfl) (hb:fn.body.isSome = true:=by rfl)
  (hop:o.op = .call { callee:=.value (.func f),args:=as_,argTypes:=ts }:=by rfl)
  (hargs:as_.map a.eval = args:=by (try simp only [List.map_toArray,List.map_cons,List.map_nil]);first|done|rfl|(simp only [List.length_drop,List.length_take];rfl))
  (k:Below w.heap.size w W:=by repeat (first|(with_reducible first|exact Aside0.out (by assumption)|apply below_alloc|apply pw_below_drewN|apply below_drew1|refine below_set ?_ (Aside0.out (by assumption)))|exact Aside0.out (by assumption))):wpList P ops Q (o :: rest) a W :=
 goesL_ N hd hg hf hname hb args hop hargs (C.mono fun _ w' hw=>⟨v,hw.1,h w' hw.2 ⟨below_step k hw.2⟩⟩)
end
section
variable {P : Program} {ops : Array Oper} {Q : Exit → Act → World → Prop} {md : Region.Mode} {S : World → Prop} {ds : List Nat}
theorem pu_ {oi:Oper} {v:Value} {fuel:Nat} {l:Array Bool} {a a':Act} {w:World} (i:Nat) (N:Option Tmp) (l':Array Bool) (h:wpAnyLast P md ops Q S ds fuel l' a' w)
  (hi:ops[i]? = some oi:=by rfl) (hN:oi.dst = N:=by rfl) (hc:anyB md ops l l' i = true:=by first|exact any_of (Aside0.out (by assumption)) (by kernel_rfl)|kernel_rfl)
  (hy:Yields P ops oi v a:=by exact Or.inl ⟨by rfl,by intro w';go_simp;with_reducible rfl⟩)
  (hQ:∀ c a w,Q (.panic c) (a.put oi.dst v) w→Q (.panic c) a w:=by exact fun _ _ _ h=>h)
  (ha:a.put N v = a':=by simp only [Act.put,List.setIfInBounds_toArray,List.set_cons_zero,List.set_cons_succ,i64_w,i32_w];rfl):wpAnyLast P md ops Q S ds (fuel + 1) l a w :=
 pure_ l' hi hN hc hQ hy ha h
theorem tk_ {oi:Oper} {v:Value} {fuel:Nat} {l:Array Bool} {a a':Act} {w:World} (i:Nat) (N:Option Tmp) (l':Array Bool) (hS:S w) (h:wpAnyLast P md ops Q S ds fuel l' a' w)
  (hi:ops[i]? = some oi:=by rfl) (hN:oi.dst = N:=by rfl) (hc:takeB md ops ds l l' i = true:=by first|exact take_ofW (Aside0.out (by assumption)) (Aside0.out (by assumption)) (by kernel_rfl)|exact take_of (Aside0.out (by assumption)) (by kernel_rfl)|kernel_rfl)
  (hy:YieldsIf P ops S oi v a:=by exact Or.inl ⟨by rfl,by intro w' Aa;(iterate 40 (try (obtain ⟨_,Aa⟩:=Aa)));go_simp;with_reducible rfl⟩)
  (hQ:∀ c a w,Q (.panic c) (a.put oi.dst v) w→Q (.panic c) a w:=by exact fun _ _ _ h=>h)
  (ha:a.put N v = a':=by simp only [Act.put,List.setIfInBounds_toArray,List.set_cons_zero,List.set_cons_succ,i64_w,i32_w];rfl):wpAnyLast P md ops Q S ds (fuel + 1) l a w :=
 take_ l' hi hN hc hQ hy hS ha h
theorem oc_ {oi:Oper} {fuel:Nat} {l:Array Bool} {a:Act} {w:World} (i:Nat) (N:Option Tmp) (l':Array Bool) {f:FuncId} {fn:Func} {as_:Array Operand} {ts:Array TypeId} (hf:P.funcs[f]? = some fn) (args:Array Value)
  (h:∀ K:Act→World→Prop,Shut (∀ a' w',S w'→(S w'→wpAnyLast P md ops Q S ds fuel l' a' w')→K a' w')→Calls P f args w fun e w'=>∃ v,e = .returned v∧K (a.put N v) w')
  (hi:ops[i]? = some oi:=by rfl) (hN:oi.dst = N:=by rfl) (hc:readyB md ops l l' i = true:=by first|exact one_of (Aside0.out (by assumption)) (by kernel_rfl)|kernel_rfl) (hd:i ∉ ds:=by decide)
  (hname:(fn.name == "runtime.NumGoroutine") = false:=by kernel_rfl) (hb:fn.body.isSome = true:=by rfl) (hw:Region.wanted oi (yielded ops a.tmps) = true:=by rfl)
  (hop:oi.op = .call { callee:=.value (.func f),args:=as_,argTypes:=ts }:=by rfl)
  (hargs:as_.map a.eval = args:=by (try simp only [List.map_toArray,List.map_cons,List.map_nil]);first|done|rfl|(simp only [List.length_drop,List.length_take];rfl)):wpAnyLast P md ops Q S ds (fuel + 1) l a w :=
 one_ l' hi hN hc hd fun K hK=>goes_ hf hname hb args hw hN hop hargs (h K hK)
theorem hk_ {fuel:Nat} {l:Array Bool} {a a':Act} {w:World} {K:Act→World→Prop} (hK:Shut (∀ a' w',S w'→(S w'→wpAnyLast P md ops Q S ds fuel l a' w')→K a' w')) (h:S w→wpAnyLast P md ops Q S ds fuel l a' w)
  (hS:S w:=by first|exact trivial|((repeat' (first|refine And.intro ?_ ?_|exact (blk_cell (Aside0.out (by assumption)) _).trans rfl))))
  (ha:a = a':=by show Act.put _ _ _ = _;simp only [Act.put,List.setIfInBounds_toArray,List.set_cons_zero,List.set_cons_succ,i64_w,i32_w];rfl):K a w :=
 hK.out _ _ hS fun hs=>norm_ ha (h hs)
end
end Go.Proofs.YtcmbggahndfnnaaGreatDoor
namespace Go.Proofs.YtcmbggahndfnnaaGreatDoor.Pr
open Go.RowKit Go.Proofs.YtcmbggahndfnnaaGreatDoorW.PrintWords Go.Proofs.YtcmbggahndfnnaaGreatDoorW.PrintLast Go.Proofs.YtcmbggahndfnnaaGreatDoorW.PrintMore
attribute [local go_sem] max2_int min2_int max_two min_two max_three min_three max_four min_four
set_option maxHeartbeats 8000000
set_option maxRecDepth 100000
mutual
def natural_Valid.j0:Nat→ByteArray→Bool→Option (Bool)
 | 0,_,_=>none
 | k + 1,x0,x15=>if x15 = true then (some false) else (natural_Valid.l0 k x0 (x0.size:Int) 0)
def natural_Valid.l0:Nat→ByteArray→Int→Int→Option (Bool)
 | 0,_,_,_=>none
 | k + 1,x0,x17,x18=>if x18 < x17 then (if 0≤x18 then (if x18 < (x0.size:Int) then (if (bt x0 x18) < 48 then (some false) else (if (bt x0 x18) > 57 then (some false) else (natural_Valid.l0 k x0 x17 (wrap64 (x18 + 1))))) else (none)) else (none)) else (some true)
end
def natural_Valid.f (k:Nat) (a0:ByteArray):Option (Bool):=if a0.toList = ([]:List UInt8) then (natural_Valid.j0 k a0 true) else (if (a0.size:Int) > 1 then (if 0 < (a0.size:Int) then (natural_Valid.j0 k a0 ((bt a0 0) == 48)) else (none)) else (natural_Valid.j0 k a0 false))
theorem natural_Valid.mono_l:∀ k,(∀ y0 y1,LeO (natural_Valid.j0 k y0 y1) (natural_Valid.j0 (k + 1) y0 y1))∧(∀ y0 y1 y2,LeO (natural_Valid.l0 k y0 y1 y2) (natural_Valid.l0 (k + 1) y0 y1 y2))
 | 0=>⟨fun _ _ r h=>by simp [natural_Valid.j0] at h,fun _ _ _ r h=>by simp [natural_Valid.l0] at h⟩
 | k + 1=>by
  obtain ⟨ih0,ih1⟩:=natural_Valid.mono_l k
  refine ⟨?_,?_⟩
  ·intro y0 y1
   unfold natural_Valid.j0
   repeat' first
   | (with_reducible exact ih0 _ _)
   | (with_reducible exact ih1 _ _ _)
   | (with_reducible exact LeO.refl _)
   | (with_reducible exact LeO.none _)
   | (with_reducible refine LeO.ite ?_ ?_)
   | (with_reducible refine LeO.bind ?_ (fun _=>?_))
   | exact ih0 _ _
   | exact ih1 _ _ _
   | exact LeO.none _
   | refine LeO.ite ?_ ?_
   | refine LeO.bind ?_ (fun _=>?_)
  ·intro y0 y1 y2
   unfold natural_Valid.l0
   repeat' first
   | (with_reducible exact ih0 _ _)
   | (with_reducible exact ih1 _ _ _)
   | (with_reducible exact LeO.refl _)
   | (with_reducible exact LeO.none _)
   | (with_reducible refine LeO.ite ?_ ?_)
   | (with_reducible refine LeO.bind ?_ (fun _=>?_))
   | exact ih0 _ _
   | exact ih1 _ _ _
   | exact LeO.none _
   | refine LeO.ite ?_ ?_
   | refine LeO.bind ?_ (fun _=>?_)
theorem natural_Valid.mono:∀ a0 k,LeO (natural_Valid.f k a0) (natural_Valid.f (k + 1) a0):=by
 intro a0 k
 obtain ⟨Ab,Aa⟩:=natural_Valid.mono_l k
 unfold natural_Valid.f
 repeat' first
   | (with_reducible exact Ab _ _)
   | (with_reducible exact Aa _ _ _)
   | (with_reducible exact LeO.refl _)
   | (with_reducible exact LeO.none _)
   | (with_reducible refine LeO.ite ?_ ?_)
   | (with_reducible refine LeO.bind ?_ (fun _=>?_))
   | exact Ab _ _
   | exact Aa _ _ _
   | exact LeO.none _
   | refine LeO.ite ?_ ?_
   | refine LeO.bind ?_ (fun _=>?_)
theorem natural_Valid.calls (k:Nat) (a0:ByteArray) (r:Bool) (w:World) (h:natural_Valid.f k a0 = some r) :
  Calls Tryz.prog 86 #[.string a0] w fun e w'=>e = .returned (.bool r)∧Drawn0 w w':=by
 have H:=h;clear h;unfold natural_Valid.f at H
 have At:=Aside0.mk H
 clear H
 go_enter Tryz.func86,Tryz.ntmps86
 go_upto_region 1 with (fail)
 go_cut [15] (fun Ay wc=>∃ (kq:Nat) (Ab:Bool),Ay = .bool Ab∧Aside0 (natural_Valid.j0 kq a0 Ab = some r)∧Aside0 (kq≤k)∧Drawn0 w wc)
 case first =>
  have H:=At.out
  clear At
  by_cases c3:a0.toList = ([]:List UInt8)
  ·rw [if_pos c3] at H
   have Ac:(a0.toList == ([]:List UInt8)) = true:=beq_iff_eq.mpr c3
   have As:(a0.toList != ([]:List UInt8)) = false:=bne_eq_false_iff_eq.mpr c3
   clear c3
   (first|rw [Ac]|(simp only [i64_w,i32_w];rw [Ac])|skip)
   have H':=Aside0.mk H
   clear H
   go_wp2
   go_meet
   case rel=>exact ⟨_,(true),rg_,H',⟨by first|omega|exact Nat.le_refl _⟩,by repeat (first|exact Drawn0.refl _|apply Drawn0.step)⟩
  ·rw [if_neg c3] at H
   have Ac:(a0.toList == ([]:List UInt8)) = false:=beq_eq_false_iff_ne.mpr c3
   have As:(a0.toList != ([]:List UInt8)) = true:=bne_iff_ne.mpr c3
   (first|rw [Ac]|(simp only [i64_w,i32_w];rw [Ac])|skip)
   by_cases c4:(a0.size:Int) > 1
   ·rw [if_pos c4] at H
    have Aq:decide (1 < (a0.size:Int)) = true:=decide_eq_true c4
    have Ap:decide (1 < a0.size) = true:=decide_eq_true (by omega)
    clear c4
    by_cases c5:0 < (a0.size:Int)
    ·rw [if_pos c5] at H
     have Bc:decide (0 < (a0.size:Int)) = true:=decide_eq_true c5
     have Bb:decide (0 < a0.size) = true:=decide_eq_true (by omega)
     clear c5
     have H':=Aside0.mk H
     clear H
     have p6:0≤(0:Int):=(by omega)
     have q6:0 < a0.size:=(by have:(0:Int) < (a0.size:Int):=da_;omega)
     have Bf:∀ h:0 < a0.size,((a0[0]'h).toNat:Int) = bt a0 0:=bt_at a0 0
     clear p6
     have Bd:(0 < (a0.size:Int)) = True:=eq_true (of_decide_eq_true (by first|(with_reducible assumption)|assumption))
     replace q6:=eq_true q6
     go_wp2
     go_meet
     case rel=>exact ⟨_,(((bt a0 0) == 48)),rg_,H',⟨by first|omega|exact Nat.le_refl _⟩,by repeat (first|exact Drawn0.refl _|apply Drawn0.step)⟩
    ·rw [if_neg c5] at H
     exact absurd H sm_
   ·rw [if_neg c4] at H
    have Aq:decide (1 < (a0.size:Int)) = false:=decide_eq_false c4
    have Ap:decide (1 < a0.size) = false:=decide_eq_false (by omega)
    clear c4
    have H':=Aside0.mk H
    clear H
    go_wp2
    go_meet
    case rel=>exact ⟨_,(false),rg_,H',⟨by first|omega|exact Nat.le_refl _⟩,by repeat (first|exact Drawn0.refl _|apply Drawn0.step)⟩
 case rest =>
  clear At
  obtain ⟨kq,Ab,rfl,HA,Aw,⟨Be,rfl⟩⟩:=hcut
  cases kq with
  | zero=>exact absurd HA.out (by simp [natural_Valid.j0])
  | succ kj1 =>
   have H:=HA.out
   clear HA
   simp only [natural_Valid.j0] at H
   by_cases c7:Ab = true
   ·subst c7
    have H1:(some false) = some r:=by rw [if_pos rfl] at H;exact H
    clear H
    have H:=H1
    clear H1
    obtain rfl:=Option.some.inj H
    go_wp2
    go_ret
    exact ⟨by first|rfl|(simp;done)|(simp [*];done),by repeat (first|exact Drawn0.refl _|apply Drawn0.step)⟩
   ·replace c7:=Bool.eq_false_iff.mpr c7
    subst c7
    have H1:(natural_Valid.l0 kj1 a0 (a0.size:Int) 0) = some r:=by rw [if_neg (show ¬ (false = true) by decide)] at H;exact H
    clear H
    have H:=H1
    clear H1
    have H':=Aside0.mk H
    clear H
    go_wp2
    go_loopg [18] kj1 (fun kq Ax w'=>∃ (Aa:Int),Ax = .int .i64 Aa∧Aside0 (natural_Valid.l0 kq a0 (a0.size:Int) Aa = some r)∧Aside0 (kq≤kj1)∧Drawn0 w w')
    case atStart=>exact ⟨(0),rg_,H',⟨Nat.le_refl _⟩,by repeat (first|exact Drawn0.refl _|apply Drawn0.step)⟩
    case round =>
     clear H'
     try clear c7
     obtain ⟨Aa,rfl,HA,Av,⟨m2,rfl⟩⟩:=hrel
     cases gk with
     | zero=>exact absurd HA.out (by simp [natural_Valid.l0])
     | succ k2 =>
      have H:=HA.out
      clear HA
      simp only [natural_Valid.l0] at H
      by_cases c8:Aa < (a0.size:Int)
      ·rw [if_pos c8] at H
       have Ao:decide (Aa < (a0.size:Int)) = true:=decide_eq_true c8
       clear c8
       by_cases c9:0≤Aa
       ·rw [if_pos c9] at H
        have Ba:decide (0≤Aa) = true:=decide_eq_true c9
        clear c9
        by_cases Am:Aa < (a0.size:Int)
        ·rw [if_pos Am] at H
         have Au:decide (Aa < (a0.size:Int)) = true:=decide_eq_true Am
         clear Am
         by_cases Ag:(bt a0 Aa) < 48
         ·rw [if_pos Ag] at H
          have Al:decide ((bt a0 Aa) < 48) = true:=decide_eq_true Ag
          clear Ag
          obtain rfl:=Option.some.inj H
          have Ae:0≤(Aa:Int):=da_
          have Ad:Aa < (a0.size:Int):=da_
          have Aj:=bt_at a0 Aa
          replace Ae:=eq_true Ae
          replace Ad:=eq_true Ad
          go_wp2
          go_ret
          exact ⟨by first|rfl|(simp;done)|(simp [*];done),by repeat (first|exact Drawn0.refl _|apply Drawn0.step)⟩
         ·rw [if_neg Ag] at H
          have Al:decide ((bt a0 Aa) < 48) = false:=decide_eq_false Ag
          clear Ag
          by_cases Af:(bt a0 Aa) > 57
          ·rw [if_pos Af] at H
           have Ak:decide (57 < (bt a0 Aa)) = true:=decide_eq_true Af
           clear Af
           obtain rfl:=Option.some.inj H
           have Ae:0≤(Aa:Int):=da_
           have Ad:Aa < (a0.size:Int):=da_
           have Aj:=bt_at a0 Aa
           replace Ae:=eq_true Ae
           replace Ad:=eq_true Ad
           have Ai:0≤(Aa:Int):=da_
           have Ah:Aa < (a0.size:Int):=da_
           have An:=bt_at a0 Aa
           replace Ai:=eq_true Ai
           replace Ah:=eq_true Ah
           go_wp2
           go_ret
           exact ⟨by first|rfl|(simp;done)|(simp [*];done),by repeat (first|exact Drawn0.refl _|apply Drawn0.step)⟩
          ·rw [if_neg Af] at H
           have Ak:decide (57 < (bt a0 Aa)) = false:=decide_eq_false Af
           clear Af
           have H':=Aside0.mk H
           clear H
           have Ae:0≤(Aa:Int):=da_
           have Ad:Aa < (a0.size:Int):=da_
           have Aj:=bt_at a0 Aa
           replace Ae:=eq_true Ae
           replace Ad:=eq_true Ad
           have Ai:0≤(Aa:Int):=da_
           have Ah:Aa < (a0.size:Int):=da_
           have An:=bt_at a0 Aa
           replace Ai:=eq_true Ai
           replace Ah:=eq_true Ah
           go_wp2
           go_roundg k2
           case measure=>have:=Aw.out;have:=Av.out;omega
           case rel=>exact ⟨(wrap64 (Aa + 1)),rg_,H',⟨by have:=Aw.out;have:=Av.out;omega⟩,by repeat (first|exact Drawn0.refl _|apply Drawn0.step)⟩
        ·rw [if_neg Am] at H
         exact absurd H sm_
       ·rw [if_neg c9] at H
        exact absurd H sm_
      ·rw [if_neg c8] at H
       have Ao:decide (Aa < (a0.size:Int)) = false:=decide_eq_false c8
       clear c8
       obtain rfl:=Option.some.inj H
       go_wp2
       go_ret
       exact ⟨by first|rfl|(simp;done)|(simp [*];done),by repeat (first|exact Drawn0.refl _|apply Drawn0.step)⟩
theorem eqA145 (d:Nat) (w:World) (x0 y0:Bool) (x1 y1:ByteArray) :
  (Op.equalIn (d + 2) 145 (.agg #[.bool x0,.string x1]) (.agg #[.bool y0,.string y1])).run Tryz.prog w = .ok (x0 == y0 && (x1.toList == y1.toList)) w:=by
 refine eqA_of Tryz.underlying145 (by kernel_rfl) ?_
 refine eqf_cons (by rfl) (by go_simp;rfl) (by go_simp;rfl) (by go_simp) ?_
 exact eqf_last (by rfl) (by go_simp;rfl) (by go_simp;rfl) (by go_simp)
set_option maxHeartbeats 8000000
set_option maxRecDepth 100000
def stringslite_HasPrefix.f (a0:ByteArray) (a1:ByteArray):Option (Bool):=if (a0.size:Int) ≥ (a1.size:Int) then (if 0≤(a1.size:Int) then (if (a1.size:Int)≤(a0.size:Int) then (some ((a0.extract 0 ((a1.size:Int):Int).toNat).toList == a1.toList)) else (none)) else (none)) else (some false)
theorem stringslite_HasPrefix.calls (a0:ByteArray) (a1:ByteArray) (r:Bool) (w:World) (h:stringslite_HasPrefix.f a0 a1 = some r) :
  Calls Tryz.prog 135 #[.string a0,.string a1] w fun e w'=>e = .returned (.bool r)∧Drawn0 w w':=by
 have H:=h;clear h;unfold stringslite_HasPrefix.f at H
 by_cases c3:(a0.size:Int) ≥ (a1.size:Int)
 ·rw [if_pos c3] at H
  have Ab:decide ((a1.size:Int)≤(a0.size:Int)) = true:=decide_eq_true c3
  have Aa:decide (a1.size≤a0.size) = true:=decide_eq_true (Int.ofNat_le.mp c3)
  clear c3
  by_cases c4:0≤(a1.size:Int)
  ·rw [if_pos c4] at H
   have Af:=eq_true c4
   have Ae:decide (0≤(a1.size:Int)) = true:=decide_eq_true c4
   clear c4
   by_cases c5:(a1.size:Int)≤(a0.size:Int)
   ·rw [if_pos c5] at H
    have Ad:=eq_true c5
    have Ac:decide ((a1.size:Int)≤(a0.size:Int)) = true:=decide_eq_true c5
    clear c5
    obtain rfl:=Option.some.inj H
    go_enter Tryz.func135,Tryz.ntmps135
    go_wp2
    go_ret
    exact ⟨by first|rfl|(simp;done)|(simp [*];done),by repeat (first|exact Drawn0.refl _|apply Drawn0.step)⟩
   ·rw [if_neg c5] at H
    exact absurd H sm_
  ·rw [if_neg c4] at H
   exact absurd H sm_
 ·rw [if_neg c3] at H
  have Ab:decide ((a1.size:Int)≤(a0.size:Int)) = false:=decide_eq_false c3
  have Aa:decide (a1.size≤a0.size) = false:=decide_eq_false (fun h=>c3 (Int.ofNat_le.mpr h))
  clear c3
  obtain rfl:=Option.some.inj H
  go_enter Tryz.func135,Tryz.ntmps135
  go_wp2
  go_ret
  exact ⟨by first|rfl|(simp;done)|(simp [*];done),by repeat (first|exact Drawn0.refl _|apply Drawn0.step)⟩
set_option maxHeartbeats 8000000
set_option maxRecDepth 100000
def stringslite_CutPrefix.f (a0:ByteArray) (a1:ByteArray):Option (ByteArray × Bool):=(stringslite_HasPrefix.f a0 a1).bind fun t103=>(if t103 = true then (if 0≤(a1.size:Int) then (if (a1.size:Int)≤(a0.size:Int) then (some (a0.extract ((a1.size:Int):Int).toNat a0.size,true)) else (none)) else (none)) else (some (a0,false)))
theorem stringslite_CutPrefix.calls (a0:ByteArray) (a1:ByteArray) (r1:ByteArray) (r2:Bool) (w:World) (h:stringslite_CutPrefix.f a0 a1 = some (r1,r2)) :
  Calls Tryz.prog 126 #[.string a0,.string a1] w fun e w'=>e = .returned (.tuple #[.string r1,.bool r2])∧Drawn0 w w':=by
 have H:=h;clear h;unfold stringslite_CutPrefix.f at H
 obtain ⟨Aa,A3,H⟩:=bn_ H
 by_cases c4:Aa = true
 ·subst c4
  have H1:(if 0≤(a1.size:Int) then (if (a1.size:Int)≤(a0.size:Int) then (some (a0.extract ((a1.size:Int):Int).toNat a0.size,true)) else (none)) else (none)) = some (r1,r2):=by rw [if_pos rfl] at H;exact H
  clear H
  have H:=H1
  clear H1
  by_cases c5:0≤(a1.size:Int)
  ·rw [if_pos c5] at H
   have Ae:=eq_true c5
   have Ad:decide (0≤(a1.size:Int)) = true:=decide_eq_true c5
   clear c5
   by_cases c6:(a1.size:Int)≤(a0.size:Int)
   ·rw [if_pos c6] at H
    have Ac:=eq_true c6
    have Ab:decide ((a1.size:Int)≤(a0.size:Int)) = true:=decide_eq_true c6
    clear c6
    simp only [Option.some.injEq,Prod.mk.injEq] at H
    obtain ⟨rfl,rfl⟩:=H
    go_enter Tryz.func126,Tryz.ntmps126
    go_wp2_with (first|((with_reducible refine gate_callee (f:=135) rfl ?_);refine gm_ (some 8) Tryz.func135 #[.string a0,.string a1] ?_;(with_reducible refine (stringslite_HasPrefix.calls a0 a1 true _ A3.out).mono ?_);rintro e w' ⟨rfl,⟨nd,rfl⟩⟩;refine ⟨_,rfl,?_⟩))
    go_ret2
    exact ⟨by first|rfl|(simp;done)|(simp [*];done),by repeat (first|exact Drawn0.refl _|apply Drawn0.step)⟩
   ·rw [if_neg c6] at H
    exact absurd H sm_
  ·rw [if_neg c5] at H
   exact absurd H sm_
 ·replace c4:=Bool.eq_false_iff.mpr c4
  subst c4
  have H1:(some (a0,false)) = some (r1,r2):=by rw [if_neg (show ¬ (false = true) by decide)] at H;exact H
  clear H
  have H:=H1
  clear H1
  simp only [Option.some.injEq,Prod.mk.injEq] at H
  obtain ⟨rfl,rfl⟩:=H
  go_enter Tryz.func126,Tryz.ntmps126
  go_wp2_with (first|((with_reducible refine gate_callee (f:=135) rfl ?_);refine gm_ (some 8) Tryz.func135 #[.string a0,.string a1] ?_;(with_reducible refine (stringslite_HasPrefix.calls a0 a1 false _ A3.out).mono ?_);rintro e w' ⟨rfl,⟨nd,rfl⟩⟩;refine ⟨_,rfl,?_⟩))
  go_ret2
  exact ⟨by first|rfl|(simp;done)|(simp [*];done),by repeat (first|exact Drawn0.refl _|apply Drawn0.step)⟩
set_option maxHeartbeats 8000000
set_option maxRecDepth 100000
def strings_CutPrefix.f (a0:ByteArray) (a1:ByteArray):Option (ByteArray × Bool):=(stringslite_CutPrefix.f a0 a1).bind fun bt104=>(some (bt104.1,bt104.2))
theorem strings_CutPrefix.calls (a0:ByteArray) (a1:ByteArray) (r1:ByteArray) (r2:Bool) (w:World) (h:strings_CutPrefix.f a0 a1 = some (r1,r2)) :
  Calls Tryz.prog 113 #[.string a0,.string a1] w fun e w'=>e = .returned (.tuple #[.string r1,.bool r2])∧Drawn0 w w':=by
 have H:=h;clear h;unfold strings_CutPrefix.f at H
 obtain ⟨⟨Ab,Aa⟩,A3,H⟩:=bn_ H
 dsimp only at H
 simp only [Option.some.injEq,Prod.mk.injEq] at H
 obtain ⟨rfl,rfl⟩:=H
 go_enter Tryz.func113,Tryz.ntmps113
 go_wp2_with (first|((with_reducible refine gate_callee (f:=126) rfl ?_);refine gm_ (some 8) Tryz.func126 #[.string a0,.string a1] ?_;(with_reducible refine (stringslite_CutPrefix.calls a0 a1 Ab Aa _ A3.out).mono ?_);rintro e w' ⟨rfl,⟨nd,rfl⟩⟩;refine ⟨_,rfl,?_⟩))
 go_ret2
 exact ⟨by first|rfl|(simp;done)|(simp [*];done),by repeat (first|exact Drawn0.refl _|apply Drawn0.step)⟩
def tt_ (n m:Nat):Array Bool:=((List.range n).map fun i=>m.testBit i).toArray
theorem es_ {w:World} {a:Addr} {A A':Option Addr} {n n' c c':Nat} (h:w.cell? a = some (.slice A n c)) (h':w.cell? a = some (.slice A' n' c')):A = A'∧c = c':=by
 have e:=Option.some.inj (h.symm.trans h')
 injection e with e1 e2 e3
 exact ⟨e1,e3⟩
theorem ao26_ {w W:World} {A:Option Addr} {n:Nat} {xs:List S26} (h:Aside0 (Kd.C k26 w A n xs)) (b:Aside0 (Below w.heap.size w W)) (i:Int) (h0:0≤i) (h1:i < n):∃ ad A3 c3 A4 c4 A5 c5,A = some ad∧W.cell? (ad.add (i.toNat * 6)) = some (.int .i64 (rd_T26 xs i).f0)∧W.cell? ⟨(ad.add (i.toNat * 6)).block,(ad.add (i.toNat * 6)).off + 1,none⟩ = some (.int .i64 (rd_T26 xs i).f1)∧W.cell? ⟨(ad.add (i.toNat * 6)).block,(ad.add (i.toNat * 6)).off + 2,none⟩ = some (.int .i64 (rd_T26 xs i).f2)∧W.cell? ⟨(ad.add (i.toNat * 6)).block,(ad.add (i.toNat * 6)).off + 3,none⟩ = some (.slice A3 (rd_T26 xs i).f3.length c3)∧W.cell? ⟨(ad.add (i.toNat * 6)).block,(ad.add (i.toNat * 6)).off + 4,none⟩ = some (.slice A4 (rd_T26 xs i).f4.length c4)∧W.cell? ⟨(ad.add (i.toNat * 6)).block,(ad.add (i.toNat * 6)).off + 5,none⟩ = some (.slice A5 (rd_T26 xs i).f5.length c5)∧Aside0 ((Kd.int .i64).C w A3 (rd_T26 xs i).f3.length (rd_T26 xs i).f3)∧Aside0 ((rd_T26 xs i).f3.length≤c3)∧Aside0 (Kd.string.C w A4 (rd_T26 xs i).f4.length (rd_T26 xs i).f4)∧Aside0 ((rd_T26 xs i).f4.length≤c4)∧Aside0 (Kd.string.C w A5 (rd_T26 xs i).f5.length (rd_T26 xs i).f5)∧Aside0 ((rd_T26 xs i).f5.length≤c5):=by
 obtain ⟨ad,A3,c3,A4,c4,A5,c5,e,h0,h1,h2,h3,h4,h5,l3,i3,l4,i4,l5,i5⟩:=at_T26 h.out i h0 h1
 exact ⟨ad,A3,c3,A4,c4,A5,c5,e,(b.out.cell (World.block_lt_of_cell? w _ h0)).trans h0,(b.out.cell (World.block_lt_of_cell? w _ h1)).trans h1,(b.out.cell (World.block_lt_of_cell? w _ h2)).trans h2,(b.out.cell (World.block_lt_of_cell? w _ h3)).trans h3,(b.out.cell (World.block_lt_of_cell? w _ h4)).trans h4,(b.out.cell (World.block_lt_of_cell? w _ h5)).trans h5,⟨i3⟩,⟨l3⟩,⟨i4⟩,⟨l4⟩,⟨i5⟩,⟨l5⟩⟩
theorem ao52_ {w W:World} {A:Option Addr} {n:Nat} {xs:List S52} (h:Aside0 (Kd.C k52 w A n xs)) (b:Aside0 (Below w.heap.size w W)) (i:Int) (h0:0≤i) (h1:i < n):∃ ad A3 c3 A4 c4 A5 c5,A = some ad∧W.cell? (ad.add (i.toNat * 7)) = some (.int .i64 (rd_T52 xs i).f0.f0)∧W.cell? ⟨(ad.add (i.toNat * 7)).block,(ad.add (i.toNat * 7)).off + 1,none⟩ = some (.int .i64 (rd_T52 xs i).f0.f1)∧W.cell? ⟨(ad.add (i.toNat * 7)).block,(ad.add (i.toNat * 7)).off + 2,none⟩ = some (.int .i64 (rd_T52 xs i).f0.f2)∧W.cell? ⟨(ad.add (i.toNat * 7)).block,(ad.add (i.toNat * 7)).off + 3,none⟩ = some (.slice A3 (rd_T52 xs i).f0.f3.length c3)∧W.cell? ⟨(ad.add (i.toNat * 7)).block,(ad.add (i.toNat * 7)).off + 4,none⟩ = some (.slice A4 (rd_T52 xs i).f0.f4.length c4)∧W.cell? ⟨(ad.add (i.toNat * 7)).block,(ad.add (i.toNat * 7)).off + 5,none⟩ = some (.slice A5 (rd_T52 xs i).f0.f5.length c5)∧W.cell? ⟨(ad.add (i.toNat * 7)).block,(ad.add (i.toNat * 7)).off + 6,none⟩ = some (.string (rd_T52 xs i).f1)∧Aside0 ((Kd.int .i64).C w A3 (rd_T52 xs i).f0.f3.length (rd_T52 xs i).f0.f3)∧Aside0 ((rd_T52 xs i).f0.f3.length≤c3)∧Aside0 (Kd.string.C w A4 (rd_T52 xs i).f0.f4.length (rd_T52 xs i).f0.f4)∧Aside0 ((rd_T52 xs i).f0.f4.length≤c4)∧Aside0 (Kd.string.C w A5 (rd_T52 xs i).f0.f5.length (rd_T52 xs i).f0.f5)∧Aside0 ((rd_T52 xs i).f0.f5.length≤c5):=by
 obtain ⟨ad,A3,c3,A4,c4,A5,c5,e,h0,h1,h2,h3,h4,h5,h6,l3,i3,l4,i4,l5,i5⟩:=at_T52 h.out i h0 h1
 exact ⟨ad,A3,c3,A4,c4,A5,c5,e,(b.out.cell (World.block_lt_of_cell? w _ h0)).trans h0,(b.out.cell (World.block_lt_of_cell? w _ h1)).trans h1,(b.out.cell (World.block_lt_of_cell? w _ h2)).trans h2,(b.out.cell (World.block_lt_of_cell? w _ h3)).trans h3,(b.out.cell (World.block_lt_of_cell? w _ h4)).trans h4,(b.out.cell (World.block_lt_of_cell? w _ h5)).trans h5,(b.out.cell (World.block_lt_of_cell? w _ h6)).trans h6,⟨i3⟩,⟨l3⟩,⟨i4⟩,⟨l4⟩,⟨i5⟩,⟨l5⟩⟩
theorem ap52_ {w W:World} {A:Option Addr} {n:Nat} {xs:List S52} (h:Aside0 (Kd.C k52 w A n xs)) (b:Aside0 (Below w.heap.size w W)) (i:Int) (h0:0≤i) (h1:i < n):∃ ad A3 c3 A4 c4 A5 c5,A = some ad∧w.cell? (ad.add (i.toNat * 7)) = some (.int .i64 (rd_T52 xs i).f0.f0)∧w.cell? ⟨(ad.add (i.toNat * 7)).block,(ad.add (i.toNat * 7)).off + 1,none⟩ = some (.int .i64 (rd_T52 xs i).f0.f1)∧w.cell? ⟨(ad.add (i.toNat * 7)).block,(ad.add (i.toNat * 7)).off + 2,none⟩ = some (.int .i64 (rd_T52 xs i).f0.f2)∧w.cell? ⟨(ad.add (i.toNat * 7)).block,(ad.add (i.toNat * 7)).off + 3,none⟩ = some (.slice A3 (rd_T52 xs i).f0.f3.length c3)∧w.cell? ⟨(ad.add (i.toNat * 7)).block,(ad.add (i.toNat * 7)).off + 4,none⟩ = some (.slice A4 (rd_T52 xs i).f0.f4.length c4)∧w.cell? ⟨(ad.add (i.toNat * 7)).block,(ad.add (i.toNat * 7)).off + 5,none⟩ = some (.slice A5 (rd_T52 xs i).f0.f5.length c5)∧w.cell? ⟨(ad.add (i.toNat * 7)).block,(ad.add (i.toNat * 7)).off + 6,none⟩ = some (.string (rd_T52 xs i).f1)∧W.cell? (ad.add (i.toNat * 7)) = some (.int .i64 (rd_T52 xs i).f0.f0)∧W.cell? ⟨(ad.add (i.toNat * 7)).block,(ad.add (i.toNat * 7)).off + 1,none⟩ = some (.int .i64 (rd_T52 xs i).f0.f1)∧W.cell? ⟨(ad.add (i.toNat * 7)).block,(ad.add (i.toNat * 7)).off + 2,none⟩ = some (.int .i64 (rd_T52 xs i).f0.f2)∧W.cell? ⟨(ad.add (i.toNat * 7)).block,(ad.add (i.toNat * 7)).off + 3,none⟩ = some (.slice A3 (rd_T52 xs i).f0.f3.length c3)∧W.cell? ⟨(ad.add (i.toNat * 7)).block,(ad.add (i.toNat * 7)).off + 4,none⟩ = some (.slice A4 (rd_T52 xs i).f0.f4.length c4)∧W.cell? ⟨(ad.add (i.toNat * 7)).block,(ad.add (i.toNat * 7)).off + 5,none⟩ = some (.slice A5 (rd_T52 xs i).f0.f5.length c5)∧W.cell? ⟨(ad.add (i.toNat * 7)).block,(ad.add (i.toNat * 7)).off + 6,none⟩ = some (.string (rd_T52 xs i).f1)∧Aside0 ((Kd.int .i64).C w A3 (rd_T52 xs i).f0.f3.length (rd_T52 xs i).f0.f3)∧Aside0 ((rd_T52 xs i).f0.f3.length≤c3)∧Aside0 (Kd.string.C w A4 (rd_T52 xs i).f0.f4.length (rd_T52 xs i).f0.f4)∧Aside0 ((rd_T52 xs i).f0.f4.length≤c4)∧Aside0 (Kd.string.C w A5 (rd_T52 xs i).f0.f5.length (rd_T52 xs i).f0.f5)∧Aside0 ((rd_T52 xs i).f0.f5.length≤c5):=by
 obtain ⟨ad,A3,c3,A4,c4,A5,c5,e,h0,h1,h2,h3,h4,h5,h6,l3,i3,l4,i4,l5,i5⟩:=at_T52 h.out i h0 h1
 exact ⟨ad,A3,c3,A4,c4,A5,c5,e,h0,h1,h2,h3,h4,h5,h6,(b.out.cell (World.block_lt_of_cell? w _ h0)).trans h0,(b.out.cell (World.block_lt_of_cell? w _ h1)).trans h1,(b.out.cell (World.block_lt_of_cell? w _ h2)).trans h2,(b.out.cell (World.block_lt_of_cell? w _ h3)).trans h3,(b.out.cell (World.block_lt_of_cell? w _ h4)).trans h4,(b.out.cell (World.block_lt_of_cell? w _ h5)).trans h5,(b.out.cell (World.block_lt_of_cell? w _ h6)).trans h6,⟨i3⟩,⟨l3⟩,⟨i4⟩,⟨l4⟩,⟨i5⟩,⟨l5⟩⟩
set_option maxHeartbeats 8000000
set_option maxRecDepth 100000
attribute [local go_sem high] eqA145
def integer_read.f (k:Nat) (a0:ByteArray):Option (Bool × ByteArray × Bool):=(strings_CutPrefix.f a0 (⟨#[45]⟩:ByteArray)).bind fun bt107=>((natural_Valid.f k bt107.1).bind fun t110=>(if t110 = true then (some (bt107.2,bt107.1,(!bt107.2 || (!(bt107.1.toList == ([48]:List UInt8)))))) else (some (bt107.2,bt107.1,false))))
theorem integer_read.mono:∀ a0 k,LeO (integer_read.f k a0) (integer_read.f (k + 1) a0):=by intro a0 k;unfold integer_read.f;have:=@natural_Valid.mono;exact mn_
def integer_read.T3:Bool × List (List Nat × List Nat):=(true,[([],[]),([],[]),([1],[1]),([2,2],[2]),([3],[3]),([3],[3]),([4,5,3],[3,4,5]),([3,6],[3,6]),([0,3,0],[0]),([7,8,0,1,2,3,4,5,6,7,8],[7])])
def integer_read.B3:List Nat:=[0,0,2,6,14,14,62,126,15,511]
theorem integer_read.tab3:rtab .any (opsOf Tryz.f104 3) = integer_read.T3:=by kernel_rfl
theorem integer_read.bits3:waitsOk integer_read.T3.2 integer_read.B3 = true:=by kernel_rfl
theorem integer_read.calls (k:Nat) (a0:ByteArray) (r1:Bool) (r2:ByteArray) (r3:Bool) (w:World) (h:integer_read.f k a0 = some (r1,r2,r3)) :
  Calls Tryz.prog 104 #[.string a0] w fun e w'=>e = .returned (.tuple #[.agg #[.bool r1,.string r2],.bool r3])∧Below w.heap.size w w':=by
 have Bn:=Tryz.underlying145
 have HB:=Aside0.mk (Below.refl w.heap.size w)
 have H:=h;clear h;unfold integer_read.f at H
 obtain ⟨⟨Af,Ai⟩,A2,H⟩:=bn_ H
 dsimp only at H
 obtain ⟨Bg,A3,H⟩:=bn_ H
 by_cases c4:Bg = true
 ·subst c4
  have H1:(some (Ai,Af,(!Ai || (!(Af.toList == ([48]:List UInt8)))))) = some (r1,r2,r3):=by rw [if_pos rfl] at H;exact H
  clear H
  have H:=H1
  clear H1
  simp only [Option.some.injEq,Prod.mk.injEq] at H
  obtain ⟨rfl,rfl,rfl⟩:=H
  go_enter Tryz.func104,Tryz.ntmps104
  try go_wp2_with (first|((with_reducible refine gate_dst (N:=2) rfl ?_);refine bv_ #[.bool false,.string (⟨#[]⟩:ByteArray)] 145 ?_;clear HB;intro Ac hg w5 Ab Aq hb HB;clear hb hg)|((with_reducible refine gate_callee (f:=113) rfl ?_);refine gm_ (some 9) Tryz.func113 #[.string a0,.string (⟨#[45]⟩:ByteArray)] ?_;(with_reducible refine (strings_CutPrefix.calls a0 (⟨#[45]⟩:ByteArray) Af Ai _ A2.out).mono ?_);rintro e w' ⟨rfl,⟨nd,rfl⟩⟩;refine ⟨_,rfl,?_⟩;(try (rw [drewN_self w5];generalize Al:World.drewN w5 _ = w5;have Ao:Aside0 (w5.heap[Ac]? = some (.cells #[.bool false,.string (⟨#[]⟩:ByteArray)] 145 (0,0))):=⟨by rw [← Al];exact bk_⟩;have An:Aside0 (Below w.heap.size w w5):=⟨by rw [← Al];exact bx_⟩;clear Ab HB Al;have Ab:=Ao;have HB:=An;clear Ao An)))|((with_reducible refine gate_dst (N:=6) rfl ?_);refine bv_ #[.bool false,.string (⟨#[]⟩:ByteArray)] 145 ?_;clear HB;intro Ag hg w6 Ah Ap hb HB;have x_:=ol_ Ab hg hb;clear Ab;obtain ⟨Ab,Ad,Aa⟩:=x_;clear hb hg;have Cb:=Aa.out;have Ca:=Ad.out;obtain ⟨Bk,Bj,Bi,Bh⟩:=c2_ Ah))
  generalize Aj:((w6.setCell ⟨Ag,0,none⟩ (.bool Ai)).setCell ⟨Ag,1,none⟩ (.string Af)) = w9
  replace Ab:Aside0 (w9.heap[Ac]? = some (.cells #[.bool false,.string (⟨#[]⟩:ByteArray)] 145 (0,0))):=gk_ Aj
  replace Ah:Aside0 (w9.heap[Ag]? = some (.cells #[.bool Ai,.string Af] 145 (0,0))):=gk_ Aj
  replace HB:=gb_ Aj
  clear Aj
  replace Ab:=dr_ Ab
  replace Ah:=dr_ Ah
  replace HB:=db_ HB
  refine start_ (n:=10) (S:=fun w'=>w'.cell? ⟨Ag,0,none⟩ = some (.bool Ai)∧w'.cell? ⟨Ag,1,none⟩ = some (.string Af)) (ds:=[]) #[false,false,false,false,false,false,false,false,false,false] kr_ rfl rfl hc_ (fun Ae=>?_);refine with_tabW integer_read.tab3 integer_read.bits3 (fun Ak Cc=>?_)
  generalize w9.drew = Bm at Ab Ah HB Ae ⊢
  refine pu_ 1 (some 16) (tt_ 10 2) ?_
  refine tk_ 0 (some 15) (tt_ 10 3) Ae ?_
  refine oc_ 2 (some 17) (tt_ 10 7) Tryz.func86 #[.string Af] (fun K hK=>?_)
  with_reducible refine (natural_Valid.calls k Af true _ A3.out).mono ?_
  rintro e w' ⟨rfl,⟨nd,rfl⟩⟩
  refine ⟨_,rfl,?_⟩
  refine hk_ hK (fun Ae=>?_);clear hK K
  refine pu_ 3 (some 18) (tt_ 10 15) ?_
  refine pu_ 5 (some 20) (tt_ 10 47) ?_
  refine tk_ 4 (some 19) (tt_ 10 63) Ae ?_
  refine pu_ 6 (some 21) (tt_ 10 127) ?_
  refine pu_ 7 (some 22) (tt_ 10 255) ?_
  refine one_ (i:=8) (N:=none) #[true,true,true,true,true,true,true,true,true,false] rfl rfl (one_of Ak.out kr_) de_ (fun K hK=>?_)
  have Bz:Bm.cell? ⟨Ac,0,none⟩ = some (.bool false):=(blk_cell Ab.out 0).trans rfl
  have Bu:=blk_frozen Ab.out 0
  have Av:=Aa.out
  have Ba:=Ad.out
  have By:Bm.cell? ⟨Ac,1,none⟩ = some (.string (⟨#[]⟩:ByteArray)):=(blk_cell Ab.out 1).trans rfl
  have Bt:=blk_frozen Ab.out 1
  have Au:=Aa.out
  have Ay:=Ad.out
  refine skip_ (w1:=?_) (by rfl) rfl ?_ ?_
  rotate_left
  ·go_simp
   rfl
  refine hK.out _ _ ⟨((cell_far (p:=⟨Ac,_,none⟩) Aa.out _).trans (((cell_far (p:=⟨Ac,_,none⟩) Aa.out _).trans (Ae.1)))),((cell_far (p:=⟨Ac,_,none⟩) Aa.out _).trans (((cell_far (p:=⟨Ac,_,none⟩) Aa.out _).trans (Ae.2))))⟩ (fun Ae=>?_)
  clear hK K
  refine pu_ 9 (some 3) (tt_ 10 1023) ?_
  refine done_ (done_of Ak.out kr_) ?_
  try go_wp2
  refine bodyPost_ret (results_ct rfl _ _ Ac 145 #[.bool Ai,.string Af] (0,0) _ rfl bk_ Tryz.underlying145 rfl kr_) rfl ?_
  exact ⟨rf_,bx_⟩
 ·replace c4:=Bool.eq_false_iff.mpr c4
  subst c4
  have H1:(some (Ai,Af,false)) = some (r1,r2,r3):=by rw [if_neg (show ¬ (false = true) by decide)] at H;exact H
  clear H
  have H:=H1
  clear H1
  simp only [Option.some.injEq,Prod.mk.injEq] at H
  obtain ⟨rfl,rfl,rfl⟩:=H
  go_enter Tryz.func104,Tryz.ntmps104
  try go_wp2_with (first|((with_reducible refine gate_dst (N:=2) rfl ?_);refine bv_ #[.bool false,.string (⟨#[]⟩:ByteArray)] 145 ?_;clear HB;intro Ac hg Am Ab Aq hb HB;clear hb hg)|((with_reducible refine gate_callee (f:=113) rfl ?_);refine gm_ (some 9) Tryz.func113 #[.string a0,.string (⟨#[45]⟩:ByteArray)] ?_;(with_reducible refine (strings_CutPrefix.calls a0 (⟨#[45]⟩:ByteArray) Af Ai _ A2.out).mono ?_);rintro e w' ⟨rfl,⟨nd,rfl⟩⟩;refine ⟨_,rfl,?_⟩;(try (rw [drewN_self Am];generalize Al:World.drewN Am _ = Am;have Ao:Aside0 (Am.heap[Ac]? = some (.cells #[.bool false,.string (⟨#[]⟩:ByteArray)] 145 (0,0))):=⟨by rw [← Al];exact bk_⟩;have An:Aside0 (Below w.heap.size w Am):=⟨by rw [← Al];exact bx_⟩;clear Ab HB Al;have Ab:=Ao;have HB:=An;clear Ao An)))|((with_reducible refine gate_dst (N:=6) rfl ?_);refine bv_ #[.bool false,.string (⟨#[]⟩:ByteArray)] 145 ?_;clear HB;intro Ag hg Bv Ah Ap hb HB;have x_:=ol_ Ab hg hb;clear Ab;obtain ⟨Ab,Ad,Aa⟩:=x_;clear hb hg;have Bp:=Aa.out;have Bo:=Ad.out;obtain ⟨Be,Bd,Bc,Bb⟩:=c2_ Ah))
  generalize Aj:((Bv.setCell ⟨Ag,0,none⟩ (.bool Ai)).setCell ⟨Ag,1,none⟩ (.string Af)) = Bf
  replace Ab:Aside0 (Bf.heap[Ac]? = some (.cells #[.bool false,.string (⟨#[]⟩:ByteArray)] 145 (0,0))):=gk_ Aj
  replace Ah:Aside0 (Bf.heap[Ag]? = some (.cells #[.bool Ai,.string Af] 145 (0,0))):=gk_ Aj
  replace HB:=gb_ Aj
  clear Aj
  replace Ab:=dr_ Ab
  replace Ah:=dr_ Ah
  replace HB:=db_ HB
  refine start_ (n:=10) (S:=fun w'=>w'.cell? ⟨Ag,0,none⟩ = some (.bool Ai)∧w'.cell? ⟨Ag,1,none⟩ = some (.string Af)) (ds:=[]) #[false,false,false,false,false,false,false,false,false,false] kr_ rfl rfl hc_ (fun Ae=>?_);refine with_tabW integer_read.tab3 integer_read.bits3 (fun Ak Cc=>?_)
  generalize Bf.drew = Bl at Ab Ah HB Ae ⊢
  refine pu_ 1 (some 16) (tt_ 10 2) ?_
  refine tk_ 0 (some 15) (tt_ 10 3) Ae ?_
  refine oc_ 2 (some 17) (tt_ 10 7) Tryz.func86 #[.string Af] (fun K hK=>?_)
  with_reducible refine (natural_Valid.calls k Af false _ A3.out).mono ?_
  rintro e w' ⟨rfl,⟨nd,rfl⟩⟩
  refine ⟨_,rfl,?_⟩
  refine hk_ hK (fun Ae=>?_);clear hK K
  refine pu_ 3 (some 18) (tt_ 10 15) ?_
  refine pure_ (i:=4) (N:=some 19) (v:=undef) (a':=?_) #[true,true,true,true,true,false,false,false,false,false] rfl rfl (any_of Ak.out kr_) (fun _ _ _ h=>h) (Or.inr ⟨by rfl,rfl⟩) ?_ ?_
  rotate_left
  ·simp only [Act.put,List.setIfInBounds_toArray,List.set_cons_zero,List.set_cons_succ,i64_w,i32_w]
   rfl
  refine pure_ (i:=5) (N:=some 20) (v:=undef) (a':=?_) #[true,true,true,true,true,true,false,false,false,false] rfl rfl (any_of Ak.out kr_) (fun _ _ _ h=>h) (Or.inr ⟨by rfl,rfl⟩) ?_ ?_
  rotate_left
  ·simp only [Act.put,List.setIfInBounds_toArray,List.set_cons_zero,List.set_cons_succ,i64_w,i32_w]
   rfl
  refine pure_ (i:=6) (N:=some 21) (v:=undef) (a':=?_) #[true,true,true,true,true,true,true,false,false,false] rfl rfl (any_of Ak.out kr_) (fun _ _ _ h=>h) (Or.inr ⟨by rfl,rfl⟩) ?_ ?_
  rotate_left
  ·simp only [Act.put,List.setIfInBounds_toArray,List.set_cons_zero,List.set_cons_succ,i64_w,i32_w]
   rfl
  refine pu_ 7 (some 22) (tt_ 10 255) ?_
  refine one_ (i:=8) (N:=none) #[true,true,true,true,true,true,true,true,true,false] rfl rfl (one_of Ak.out kr_) de_ (fun K hK=>?_)
  have Bx:Bl.cell? ⟨Ac,0,none⟩ = some (.bool false):=(blk_cell Ab.out 0).trans rfl
  have Br:=blk_frozen Ab.out 0
  have At:=Aa.out
  have Ax:=Ad.out
  have Bw:Bl.cell? ⟨Ac,1,none⟩ = some (.string (⟨#[]⟩:ByteArray)):=(blk_cell Ab.out 1).trans rfl
  have Bq:=blk_frozen Ab.out 1
  have As:=Aa.out
  have Aw:=Ad.out
  refine skip_ (w1:=?_) (by rfl) rfl ?_ ?_
  rotate_left
  ·go_simp
   rfl
  refine hK.out _ _ ⟨((cell_far (p:=⟨Ac,_,none⟩) Aa.out _).trans (((cell_far (p:=⟨Ac,_,none⟩) Aa.out _).trans (Ae.1)))),((cell_far (p:=⟨Ac,_,none⟩) Aa.out _).trans (((cell_far (p:=⟨Ac,_,none⟩) Aa.out _).trans (Ae.2))))⟩ (fun Ae=>?_)
  clear hK K
  refine pu_ 9 (some 3) (tt_ 10 1023) ?_
  refine done_ (done_of Ak.out kr_) ?_
  try go_wp2
  refine bodyPost_ret (results_ct rfl _ _ Ac 145 #[.bool Ai,.string Af] (0,0) _ rfl bk_ Tryz.underlying145 rfl kr_) rfl ?_
  exact ⟨rf_,bx_⟩
set_option maxHeartbeats 8000000
set_option maxRecDepth 100000
def integer_Valid.f (k:Nat) (a0:ByteArray):Option (Bool):=(integer_read.f k a0).bind fun bt111=>(some bt111.2.2)
theorem integer_Valid.mono:∀ a0 k,LeO (integer_Valid.f k a0) (integer_Valid.f (k + 1) a0):=by intro a0 k;unfold integer_Valid.f;have:=@integer_read.mono;exact mn_
theorem integer_Valid.calls (k:Nat) (a0:ByteArray) (r:Bool) (w:World) (h:integer_Valid.f k a0 = some r) :
  Calls Tryz.prog 85 #[.string a0] w fun e w'=>e = .returned (.bool r)∧Below w.heap.size w w':=by
 have Ai:=Tryz.underlying145
 have HB:=Aside0.mk (Below.refl w.heap.size w)
 have H:=h;clear h;unfold integer_Valid.f at H
 obtain ⟨⟨Ad,Ac,Ab⟩,A2,H⟩:=bn_ H
 dsimp only at H
 obtain rfl:=Option.some.inj H
 go_enter Tryz.func85,Tryz.ntmps85
 go_wp2_with (first|((with_reducible refine gate_callee (f:=104) rfl ?_);refine gl_ (some 7) Tryz.func104 #[.string a0] (integer_read.calls k a0 Ad Ac Ab _ A2.out) ?_;clear HB;intro w3 hb HB;clear hb)|((with_reducible refine gate_dst (N:=3) rfl ?_);refine bv_ #[.bool false,.string (⟨#[]⟩:ByteArray)] 145 ?_;clear HB;intro Aj hg w4 Aa Ak hb HB;clear hb hg;obtain ⟨Ah,Ag,Af,Ae⟩:=c2_ Aa))
 go_ret
 exact ⟨rf_,bx_⟩
set_option maxHeartbeats 8000000
set_option maxRecDepth 100000
def integer_zero.f :Option (Bool × ByteArray):=some (false,(⟨#[48]⟩:ByteArray))
theorem integer_zero.calls  (r1:Bool) (r2:ByteArray) (w:World) (h:integer_zero.f  = some (r1,r2)) :
  Calls Tryz.prog 136 #[] w fun e w'=>e = .returned (.agg #[.bool r1,.string r2])∧Below w.heap.size w w':=by
 have Ag:=Tryz.underlying145
 have HB:=Aside0.mk (Below.refl w.heap.size w)
 have H:=h;clear h;unfold integer_zero.f at H
 simp only [Option.some.injEq,Prod.mk.injEq] at H
 obtain ⟨rfl,rfl⟩:=H
 go_enter Tryz.func136,Tryz.ntmps136
 go_wp2_with (first|((with_reducible refine gate_dst (N:=0) rfl ?_);refine bv_ #[.bool false,.string (⟨#[]⟩:ByteArray)] 145 ?_;clear HB;intro Aa hg w1 Ab Ah hb HB;clear hb hg;obtain ⟨Af,Ae,Ad,Ac⟩:=c2_ Ab))
 refine bodyPost_ret (results_cell_row rfl _ _ Aa 145 #[.bool false,.string (⟨#[48]⟩:ByteArray)] (0,0) _ rfl bk_ Tryz.underlying145 rfl kr_) rfl ?_
 exact ⟨rf_,bx_⟩
set_option maxHeartbeats 8000000
set_option maxRecDepth 100000
def integer_both.j0:Nat→Bool→Bool→ByteArray→Bool→ByteArray→Option (Bool × ByteArray × Bool × ByteArray × Int)
 | 0,_,_,_,_,_=>none
 | k + 1,x26,x122000,x122001,x126000,x126001=>if x26 = true then ((integer_zero.f).bind fun bt126=>((integer_zero.f).bind fun bt128=>(some (bt126.1,bt126.2,bt128.1,bt128.2,1)))) else (some (x122000,x122001,x126000,x126001,0))
def integer_both.f (k:Nat) (a0:ByteArray) (a1:ByteArray):Option (Bool × ByteArray × Bool × ByteArray × Int):=(integer_read.f k a0).bind fun bt118=>((integer_read.f k a1).bind fun bt122=>(if bt118.2.2 = true then (integer_both.j0 k (!bt122.2.2) bt118.1 bt118.2.1 bt122.1 bt122.2.1) else (integer_both.j0 k true bt118.1 bt118.2.1 bt122.1 bt122.2.1)))
theorem integer_both.mono_l:∀ k,(∀ y0 y1 y2 y3 y4,LeO (integer_both.j0 k y0 y1 y2 y3 y4) (integer_both.j0 (k + 1) y0 y1 y2 y3 y4))
 | 0=>fun _ _ _ _ _ r h=>by simp [integer_both.j0] at h
 | k + 1=>by
  have ih0:=integer_both.mono_l k
  ·intro y0 y1 y2 y3 y4
   unfold integer_both.j0
   repeat' first
   | (with_reducible exact ih0 _ _ _ _ _)
   | (with_reducible exact integer_read.mono _ _)
   | (with_reducible exact LeO.refl _)
   | (with_reducible exact LeO.none _)
   | (with_reducible refine LeO.ite ?_ ?_)
   | (with_reducible refine LeO.bind ?_ (fun _=>?_))
   | exact ih0 _ _ _ _ _
   | exact integer_read.mono _ _
   | exact LeO.none _
   | refine LeO.ite ?_ ?_
   | refine LeO.bind ?_ (fun _=>?_)
theorem integer_both.mono:∀ a0 a1 k,LeO (integer_both.f k a0 a1) (integer_both.f (k + 1) a0 a1):=by
 intro a0 a1 k
 have Aa:=integer_both.mono_l k
 unfold integer_both.f
 repeat' first
   | (with_reducible exact Aa _ _ _ _ _)
   | (with_reducible exact integer_read.mono _ _)
   | (with_reducible exact LeO.refl _)
   | (with_reducible exact LeO.none _)
   | (with_reducible refine LeO.ite ?_ ?_)
   | (with_reducible refine LeO.bind ?_ (fun _=>?_))
   | exact Aa _ _ _ _ _
   | exact integer_read.mono _ _
   | exact LeO.none _
   | refine LeO.ite ?_ ?_
   | refine LeO.bind ?_ (fun _=>?_)
theorem integer_both.calls (k:Nat) (a0:ByteArray) (a1:ByteArray) (r1:Bool) (r2:ByteArray) (r3:Bool) (r4:ByteArray) (r5:Int) (w:World) (h:integer_both.f k a0 a1 = some (r1,r2,r3,r4,r5)) :
  Calls Tryz.prog 127 #[.string a0,.string a1] w fun e w'=>e = .returned (.tuple #[.agg #[.bool r1,.string r2],.agg #[.bool r3,.string r4],.int .i64 r5])∧Below w.heap.size w w':=by
 have De:=Tryz.underlying145
 have HB:=Aside0.mk (Below.refl w.heap.size w)
 have H:=h;clear h;unfold integer_both.f at H
 obtain ⟨⟨At,As,Br⟩,A3,H⟩:=bn_ H
 dsimp only at H
 obtain ⟨⟨Av,Au,Bm⟩,A4,H⟩:=bn_ H
 dsimp only at H
 have Dd:=Aside0.mk H
 clear H
 go_enter Tryz.func127,Tryz.ntmps127
 go_upto_region 3 with (first|((with_reducible refine gate_dst (N:=4) rfl ?_);refine bv_ #[.bool false,.string (⟨#[]⟩:ByteArray)] 145 ?_;clear HB;intro Ah hg w6 Aa Eg hb HB;clear hb hg)|((with_reducible refine gate_dst (N:=5) rfl ?_);refine bv_ #[.bool false,.string (⟨#[]⟩:ByteArray)] 145 ?_;clear HB;intro Ag hg w7 Ab Ef hb HB;have x_:=ol_ Aa hg hb;clear Aa;obtain ⟨Aa,Ak,Aj⟩:=x_;clear hb hg)|((with_reducible refine gate_callee (f:=104) rfl ?_);refine gl_ (some 13) Tryz.func104 #[.string a0] (integer_read.calls k a0 At As Br _ A3.out) ?_;clear HB;intro w8 hb HB;replace Aa:=bb_ Aa hb;replace Ab:=bb_ Ab hb;clear hb)|((with_reducible refine gate_dst (N:=7) rfl ?_);refine bv_ #[.bool false,.string (⟨#[]⟩:ByteArray)] 145 ?_;clear HB;intro Ax hg w9 Al Ee hb HB;have x_:=ol_ Aa hg hb;clear Aa;obtain ⟨Aa,Ap,Af⟩:=x_;have x_:=ol_ Ab hg hb;clear Ab;obtain ⟨Ab,An,Ae⟩:=x_;clear hb hg;have Dy:=Af.out;have Do:=Ap.out;have Dx:=Ae.out;have Dn:=An.out;obtain ⟨Bj,Bi,Bf,Be⟩:=c2_ Al)|((with_reducible refine gate_callee (f:=104) rfl ?_);refine gm_ (some 18) Tryz.func104 #[.string a1] ?_;(with_reducible refine (integer_read.calls k a1 Av Au Bm _ A4.out).mono ?_);rintro e Et ⟨rfl,hb⟩;refine ⟨_,rfl,?_⟩;replace Aa:=Aside0.mk (blk_below (g:=Ah) (o:=.cells #[.bool false,.string (⟨#[]⟩:ByteArray)] 145 (0,0)) bk_ hb);replace Ab:=Aside0.mk (blk_below (g:=Ag) (o:=.cells #[.bool false,.string (⟨#[]⟩:ByteArray)] 145 (0,0)) bk_ hb);replace Al:=Aside0.mk (blk_below (g:=Ax) (o:=.cells #[.bool At,.string As] 145 (0,0)) bk_ hb);replace HB:=bs_ hb;(try clear hb))|((with_reducible refine gate_dst (N:=9) rfl ?_);refine bv_ #[.bool false,.string (⟨#[]⟩:ByteArray)] 145 ?_;clear HB;intro Bb hg Es Aq Ed hb HB;have x_:=ol_ Aa hg hb;clear Aa;obtain ⟨Aa,Ao,Ad⟩:=x_;have x_:=ol_ Ab hg hb;clear Ab;obtain ⟨Ab,Am,Ac⟩:=x_;have x_:=ol_ Al hg hb;clear Al;obtain ⟨Al,Ba,Ay⟩:=x_;clear hb hg;have Dw:=Ad.out;have Dm:=Ao.out;have Dv:=Ac.out;have Dl:=Am.out;have Du:=Ay.out;have Dk:=Ba.out;obtain ⟨Bh,Bg,Bd,Bc⟩:=c2_ Aq))
 (try simp only [Act.put,List.setIfInBounds_toArray,List.set_cons_zero,List.set_cons_succ])
 go_cut [26] (fun Eh wc=>∃ (kq:Nat) (Aw:Bool),Eh = .bool Aw∧Aside0 (integer_both.j0 kq Aw At As Av Au = some (r1,r2,r3,r4,r5))∧Aside0 (kq≤k)∧Aside0 (wc.heap[Ah]? = some (.cells #[.bool false,.string (⟨#[]⟩:ByteArray)] 145 (0,0)))∧Aside0 (wc.heap[Ag]? = some (.cells #[.bool false,.string (⟨#[]⟩:ByteArray)] 145 (0,0)))∧Aside0 (wc.heap[Ax]? = some (.cells #[.bool At,.string As] 145 (0,0)))∧Aside0 (wc.heap[Bb]? = some (.cells #[.bool Av,.string Au] 145 (0,0)))∧Aside0 (Below w.heap.size w wc))
 case first =>
  have H:=Dd.out
  clear Dd
  by_cases Dc:Br = true
  ·subst Dc
   have H1:(integer_both.j0 k (!Bm) At As Av Au) = some (r1,r2,r3,r4,r5):=by rw [if_pos rfl] at H;exact H
   clear H
   have H:=H1
   clear H1
   have H':=Aside0.mk H
   clear H
   go_wp2
   go_meet
   case rel=>exact ⟨_,(!Bm),rg_,H',⟨by first|omega|exact Nat.le_refl _⟩,⟨bk_⟩,⟨bk_⟩,⟨bk_⟩,⟨bk_⟩,⟨bx_⟩⟩
  ·replace Dc:=Bool.eq_false_iff.mpr Dc
   subst Dc
   have H1:(integer_both.j0 k true At As Av Au) = some (r1,r2,r3,r4,r5):=by rw [if_neg (show ¬ (false = true) by decide)] at H;exact H
   clear H
   have H:=H1
   clear H1
   have H':=Aside0.mk H
   clear H
   go_wp2
   go_meet
   case rel=>exact ⟨_,(true),rg_,H',⟨by first|omega|exact Nat.le_refl _⟩,⟨bk_⟩,⟨bk_⟩,⟨bk_⟩,⟨bk_⟩,⟨bx_⟩⟩
 case rest =>
  clear Dd
  try clear Bj
  try clear Bi
  try clear Bh
  try clear Bg
  try clear Bf
  try clear Be
  try clear Bd
  try clear Bc
  obtain ⟨kq,Aw,rfl,HA,Eu,Aa,Ab,Al,Aq,HB⟩:=hcut
  cases kq with
  | zero=>exact absurd HA.out (by simp [integer_both.j0])
  | succ kj4 =>
   have H:=HA.out
   clear HA
   simp only [integer_both.j0] at H
   by_cases Db:Aw = true
   ·subst Db
    have H1:((integer_zero.f).bind fun Bl=>((integer_zero.f).bind fun Bk=>(some (Bl.1,Bl.2,Bk.1,Bk.2,1)))) = some (r1,r2,r3,r4,r5):=by rw [if_pos rfl] at H;exact H
    clear H
    have H:=H1
    clear H1
    obtain ⟨⟨Bq,Bp⟩,Eo,H⟩:=bn_ H
    dsimp only at H
    obtain ⟨⟨Bo,Bn⟩,Em,H⟩:=bn_ H
    dsimp only at H
    simp only [Option.some.injEq,Prod.mk.injEq] at H
    obtain ⟨rfl,rfl,rfl,rfl,rfl⟩:=H
    go_wp2_with (first|((with_reducible refine gate_callee (f:=136) rfl ?_);refine gl_ (some 27) Tryz.func136 #[] (integer_zero.calls  Bq Bp _ Eo.out) ?_;clear HB;intro Er hb HB;replace Aa:=bb_ Aa hb;replace Ab:=bb_ Ab hb;replace Al:=bb_ Al hb;replace Aq:=bb_ Aq hb;clear hb)|((with_reducible refine gate_callee (f:=136) rfl ?_);refine gl_ (some 28) Tryz.func136 #[] (integer_zero.calls  Bo Bn _ Em.out) ?_;clear HB;intro Ep hb HB;replace Aa:=bb_ Aa hb;replace Ab:=bb_ Ab hb;replace Al:=bb_ Al hb;replace Aq:=bb_ Aq hb;clear hb;have Dt:=Ak.out;have Dj:=Aj.out;have Ds:=Ap.out;have Di:=Af.out;have Dr:=Ao.out;have Dh:=Ad.out;obtain ⟨Da,Cz,Cw,Cv⟩:=c2_ Aa;have Dq:=An.out;have Dg:=Ae.out;have Dp:=Am.out;have Df:=Ac.out;obtain ⟨Cy,Cx,Cu,Ct⟩:=c2_ Ab))
    refine bodyPost_ret (results_list (rs:=[.cell 4 145,.cell 5 145,.tmp 6]) rfl sm_ (.cell Ah 145 #[.bool Bq,.string Bp] (0,0) _ rfl bk_ Tryz.underlying145 rfl kr_ (.cell Ag 145 #[.bool Bo,.string Bn] (0,0) _ rfl bk_ Tryz.underlying145 rfl kr_ (.tmp .nil)))) rfl ?_
    exact ⟨rf_,bx_⟩
   ·replace Db:=Bool.eq_false_iff.mpr Db
    subst Db
    have H1:(some (At,As,Av,Au,0)) = some (r1,r2,r3,r4,r5):=by rw [if_neg (show ¬ (false = true) by decide)] at H;exact H
    clear H
    have H:=H1
    clear H1
    simp only [Option.some.injEq,Prod.mk.injEq] at H
    obtain ⟨rfl,rfl,rfl,rfl,rfl⟩:=H
    try go_wp2
    replace Aa:=dr_ Aa
    replace Ab:=dr_ Ab
    replace Al:=dr_ Al
    replace Aq:=dr_ Aq
    replace HB:=db_ HB
    refine start_ (n:=5) (S:=fun w'=>w'.cell? ⟨Ax,0,none⟩ = some (.bool At)∧w'.cell? ⟨Ax,1,none⟩ = some (.string As)∧w'.cell? ⟨Bb,0,none⟩ = some (.bool Av)∧w'.cell? ⟨Bb,1,none⟩ = some (.string Au)) (ds:=[]) #[false,false,false,false,false] kr_ rfl rfl hc_ (fun Ai=>?_)
    generalize wc.drew = Bt at Aa Ab Al Aq HB Ai ⊢
    refine tk_ 0 (some 29) #[true,false,false,false,false] Ai ?_
    refine tk_ 1 (some 30) #[true,true,false,false,false] Ai ?_
    refine one_ (i:=2) (N:=none) #[true,true,true,false,false] rfl rfl kr_ de_ (fun K hK=>?_)
    have El:Bt.cell? ⟨Ah,0,none⟩ = some (.bool false):=(blk_cell Aa.out 0).trans rfl
    have Ec:=blk_frozen Aa.out 0
    have Cg:=Aj.out
    have Cf:=Af.out
    have Ce:=Ad.out
    have Cs:=Ak.out
    have Cr:=Ap.out
    have Cq:=Ao.out
    have Ek:Bt.cell? ⟨Ah,1,none⟩ = some (.string (⟨#[]⟩:ByteArray)):=(blk_cell Aa.out 1).trans rfl
    have Eb:=blk_frozen Aa.out 1
    have Cc:=Aj.out
    have Cb:=Af.out
    have Ca:=Ad.out
    have Cp:=Ak.out
    have Co:=Ap.out
    have Cn:=Ao.out
    refine skip_ (w1:=?_) (by rfl) rfl ?_ ?_
    rotate_left
    ·go_simp
     rfl
    refine hK.out _ _ ⟨((cell_far (p:=⟨Ah,_,none⟩) Af.out _).trans (((cell_far (p:=⟨Ah,_,none⟩) Af.out _).trans (Ai.1)))),((cell_far (p:=⟨Ah,_,none⟩) Af.out _).trans (((cell_far (p:=⟨Ah,_,none⟩) Af.out _).trans (Ai.2.1)))),((cell_far (p:=⟨Ah,_,none⟩) Ad.out _).trans (((cell_far (p:=⟨Ah,_,none⟩) Ad.out _).trans (Ai.2.2.1)))),((cell_far (p:=⟨Ah,_,none⟩) Ad.out _).trans (((cell_far (p:=⟨Ah,_,none⟩) Ad.out _).trans (Ai.2.2.2))))⟩ (fun Ai=>?_)
    clear hK K
    refine one_ (i:=3) (N:=none) #[true,true,true,true,false] rfl rfl kr_ de_ (fun K hK=>?_)
    have Ej:Bt.cell? ⟨Ag,0,none⟩ = some (.bool false):=(blk_cell Ab.out 0).trans rfl
    have Ea:=blk_frozen Ab.out 0
    have Bz:=Ak.out
    have By:=Ae.out
    have Bx:=Ac.out
    have Cm:=Aj.out
    have Cl:=An.out
    have Ck:=Am.out
    have Ei:Bt.cell? ⟨Ag,1,none⟩ = some (.string (⟨#[]⟩:ByteArray)):=(blk_cell Ab.out 1).trans rfl
    have Dz:=blk_frozen Ab.out 1
    have Bw:=Ak.out
    have Bv:=Ae.out
    have Bu:=Ac.out
    have Cj:=Aj.out
    have Ci:=An.out
    have Ch:=Am.out
    refine skip_ (w1:=?_) (by rfl) rfl ?_ ?_
    rotate_left
    ·go_simp
     rfl
    refine hK.out _ _ ⟨((cell_far (p:=⟨Ag,_,none⟩) Ae.out _).trans (((cell_far (p:=⟨Ag,_,none⟩) Ae.out _).trans (Ai.1)))),((cell_far (p:=⟨Ag,_,none⟩) Ae.out _).trans (((cell_far (p:=⟨Ag,_,none⟩) Ae.out _).trans (Ai.2.1)))),((cell_far (p:=⟨Ag,_,none⟩) Ac.out _).trans (((cell_far (p:=⟨Ag,_,none⟩) Ac.out _).trans (Ai.2.2.1)))),((cell_far (p:=⟨Ag,_,none⟩) Ac.out _).trans (((cell_far (p:=⟨Ag,_,none⟩) Ac.out _).trans (Ai.2.2.2))))⟩ (fun Ai=>?_)
    clear hK K
    refine pu_ 4 (some 6) #[true,true,true,true,true] ?_
    refine done_ kr_ ?_
    try go_wp2
    refine bodyPost_ret (results_list (rs:=[.cell 4 145,.cell 5 145,.tmp 6]) rfl sm_ (.cell Ah 145 #[.bool At,.string As] (0,0) _ rfl bk_ Tryz.underlying145 rfl kr_ (.cell Ag 145 #[.bool Av,.string Au] (0,0) _ rfl bk_ Tryz.underlying145 rfl kr_ (.tmp .nil)))) rfl ?_
    exact ⟨rf_,bx_⟩
set_option maxHeartbeats 8000000
set_option maxRecDepth 100000
def integer_one.f (k:Nat) (a0:ByteArray):Option (Bool × ByteArray × Int):=(integer_both.f k a0 (⟨#[48]⟩:ByteArray)).bind fun bt131=>(some (bt131.1,bt131.2.1,bt131.2.2.2.2))
theorem integer_one.mono:∀ a0 k,LeO (integer_one.f k a0) (integer_one.f (k + 1) a0):=by intro a0 k;unfold integer_one.f;have:=@integer_both.mono;exact mn_
theorem integer_one.calls (k:Nat) (a0:ByteArray) (r1:Bool) (r2:ByteArray) (r3:Int) (w:World) (h:integer_one.f k a0 = some (r1,r2,r3)) :
  Calls Tryz.prog 114 #[.string a0] w fun e w'=>e = .returned (.tuple #[.agg #[.bool r1,.string r2],.int .i64 r3])∧Below w.heap.size w w':=by
 have Bd:=Tryz.underlying145
 have HB:=Aside0.mk (Below.refl w.heap.size w)
 have H:=h;clear h;unfold integer_one.f at H
 obtain ⟨⟨Aj,Ai,Ax,Aw,Av⟩,A2,H⟩:=bn_ H
 dsimp only at H
 simp only [Option.some.injEq,Prod.mk.injEq] at H
 obtain ⟨rfl,rfl,rfl⟩:=H
 go_enter Tryz.func114,Tryz.ntmps114
 go_wp2_with (first|((with_reducible refine gate_dst (N:=2) rfl ?_);refine bv_ #[.bool false,.string (⟨#[]⟩:ByteArray)] 145 ?_;clear HB;intro Ak hg w3 Aa Bk hb HB;clear hb hg)|((with_reducible refine gate_callee (f:=127) rfl ?_);refine gl_ (some 9) Tryz.func127 #[.string a0,.string (⟨#[48]⟩:ByteArray)] (integer_both.calls k a0 (⟨#[48]⟩:ByteArray) Aj Ai Ax Aw Av _ A2.out) ?_;clear HB;intro w4 hb HB;replace Aa:=bb_ Aa hb;clear hb)|((with_reducible refine gate_dst (N:=4) rfl ?_);refine bv_ #[.bool false,.string (⟨#[]⟩:ByteArray)] 145 ?_;clear HB;intro Bh hg w5 Ab Bj hb HB;have x_:=ol_ Aa hg hb;clear Aa;obtain ⟨Aa,Ah,Af⟩:=x_;clear hb hg)|((with_reducible refine gate_dst (N:=5) rfl ?_);refine bv_ #[.bool false,.string (⟨#[]⟩:ByteArray)] 145 ?_;clear HB;intro Bg hg w6 Al Bi hb HB;have x_:=ol_ Aa hg hb;clear Aa;obtain ⟨Aa,Ag,Ad⟩:=x_;have x_:=ol_ Ab hg hb;clear Ab;obtain ⟨Ab,Ae,Ac⟩:=x_;clear hb hg;have Bo:=Af.out;have Bm:=Ah.out;have Bn:=Ae.out;have Bl:=Ac.out;obtain ⟨Bc,Bb,Ba,Ay⟩:=c2_ Ab;have Bf:=Ad.out;have Be:=Ag.out;obtain ⟨Au,At,Ap,Ao⟩:=c2_ Al;obtain ⟨As,Aq,An,Am⟩:=c2_ Aa))
 refine bodyPost_ret (results_ct rfl _ _ Ak 145 #[.bool Aj,.string Ai] (0,0) _ rfl bk_ Tryz.underlying145 rfl kr_) rfl ?_
 exact ⟨rf_,bx_⟩
set_option maxHeartbeats 8000000
set_option maxRecDepth 100000
def integer_Abs.f (k:Nat) (a0:ByteArray):Option (ByteArray × Int):=(integer_one.f k a0).bind fun bt138=>(if bt138.2.2 = 0 then (some (bt138.2.1,0)) else (some ((⟨#[]⟩:ByteArray),bt138.2.2)))
theorem integer_Abs.mono:∀ a0 k,LeO (integer_Abs.f k a0) (integer_Abs.f (k + 1) a0):=by intro a0 k;unfold integer_Abs.f;have:=@integer_one.mono;exact mn_
theorem integer_Abs.calls (k:Nat) (a0:ByteArray) (r1:ByteArray) (r2:Int) (w:World) (h:integer_Abs.f k a0 = some (r1,r2)) :
  Calls Tryz.prog 105 #[.string a0] w fun e w'=>e = .returned (.tuple #[.string r1,.int .i64 r2])∧Below w.heap.size w w':=by
 have Aq:=Tryz.underlying145
 have HB:=Aside0.mk (Below.refl w.heap.size w)
 have H:=h;clear h;unfold integer_Abs.f at H
 obtain ⟨⟨Ad,Ac,Aa⟩,A2,H⟩:=bn_ H
 dsimp only at H
 by_cases c3:Aa = 0
 ·rw [if_pos c3] at H
  have Ap:(Aa == 0) = true:=beq_iff_eq.mpr c3
  have Ao:(Aa != 0) = false:=bne_eq_false_iff_eq.mpr c3
  clear c3
  simp only [Option.some.injEq,Prod.mk.injEq] at H
  obtain ⟨rfl,rfl⟩:=H
  go_enter Tryz.func105,Tryz.ntmps105
  go_wp2_with (first|((with_reducible refine gate_callee (f:=114) rfl ?_);refine gl_ (some 8) Tryz.func114 #[.string a0] (integer_one.calls k a0 Ad Ac Aa _ A2.out) ?_;clear HB;intro w4 hb HB;clear hb)|((with_reducible refine gate_dst (N:=4) rfl ?_);refine bv_ #[.bool false,.string (⟨#[]⟩:ByteArray)] 145 ?_;clear HB;intro Ae hg w5 Ab Af hb HB;clear hb hg;obtain ⟨An,Am,Aj,Ai⟩:=c2_ Ab))
  go_ret2
  exact ⟨rf_,bx_⟩
 ·rw [if_neg c3] at H
  have Ap:(Aa == 0) = false:=beq_eq_false_iff_ne.mpr c3
  have Ao:(Aa != 0) = true:=bne_iff_ne.mpr c3
  simp only [Option.some.injEq,Prod.mk.injEq] at H
  obtain ⟨rfl,rfl⟩:=H
  go_enter Tryz.func105,Tryz.ntmps105
  go_wp2_with (first|((with_reducible refine gate_callee (f:=114) rfl ?_);refine gl_ (some 8) Tryz.func114 #[.string a0] (integer_one.calls k a0 Ad Ac Aa _ A2.out) ?_;clear HB;intro w7 hb HB;clear hb)|((with_reducible refine gate_dst (N:=4) rfl ?_);refine bv_ #[.bool false,.string (⟨#[]⟩:ByteArray)] 145 ?_;clear HB;intro Ae hg w8 Ab Af hb HB;clear hb hg;obtain ⟨Al,Ak,Ah,Ag⟩:=c2_ Ab))
  go_ret2
  exact ⟨rf_,bx_⟩
end Go.Proofs.YtcmbggahndfnnaaGreatDoor.Pr
namespace Go.Proofs.YtcmbggahndfnnaaGreatDoor.NatTh
def B:Int:=1000000000
theorem B_pos:0 < B:=by decide
def val:List Int→Int
 | []=>0
 | w :: ws=>w + B * val ws
def Wd (l:List Int):Prop:=∀ w ∈ l,0≤w∧w < B
theorem Wd.nil:Wd []:=fun w h=>by simp at h
theorem Wd.cons {w:Int} {l:List Int} (hw:0≤w∧w < B) (h:Wd l):Wd (w :: l):=fun x hx=>by
 rcases List.mem_cons.1 hx with rfl|hx
 ·exact hw
 ·exact h x hx
theorem Wd.tail {w:Int} {l:List Int} (h:Wd (w :: l)):Wd l:=fun x hx=>h x (by simp [hx])
theorem Wd.append {a b:List Int} (ha:Wd a) (hb:Wd b):Wd (a ++ b):=fun x hx=>by
 rcases List.mem_append.1 hx with h|h
 ·exact ha x h
 ·exact hb x h
theorem Wd.take {a:List Int} (h:Wd a) (n:Nat):Wd (a.take n):=fun x hx=>h x (List.mem_of_mem_take hx)
theorem Wd.drop {a:List Int} (h:Wd a) (n:Nat):Wd (a.drop n):=fun x hx=>h x (List.mem_of_mem_drop hx)
theorem Wd.set {a:List Int} (h:Wd a) (n:Nat) {w:Int} (hw:0≤w∧w < B):Wd (a.set n w):=fun x hx=>by
 rcases List.mem_or_eq_of_mem_set hx with h2|rfl
 ·exact h x h2
 ·exact hw
theorem Wd.get {a:List Int} (h:Wd a) (i:Nat) (hi:i < a.length):0≤a[i]∧a[i] < B:=h _ (List.getElem_mem hi)
theorem Wd.zeros (n:Nat):Wd (List.replicate n 0):=fun x hx=>by
 rw [List.eq_of_mem_replicate hx]
 exact ⟨by omega,B_pos⟩
theorem Bpow_pos (n:Nat):0 < B ^ n:=Int.pow_pos B_pos
theorem Bpow_succ (n:Nat):B ^ (n + 1) = B * B ^ n:=by rw [Int.pow_succ,Int.mul_comm]
theorem val_append (a b:List Int):val (a ++ b) = val a + B ^ a.length * val b:=by
 induction a with
 | nil=>simp [val]
 | cons w a ih =>
  rw [List.cons_append,val,val,ih,List.length_cons,Bpow_succ,Int.mul_add,Int.add_assoc,Int.mul_assoc]
theorem val_snoc (a:List Int) (w:Int):val (a ++ [w]) = val a + B ^ a.length * w:=by
 rw [val_append]
 simp [val]
theorem val_zeros (n:Nat):val (List.replicate n 0) = 0:=by
 induction n with
 | zero=>rfl
 | succ n ih=>rw [List.replicate_succ,val,ih];simp
theorem val_nonneg {l:List Int} (h:Wd l):0≤val l:=by
 induction l with
 | nil=>simp [val]
 | cons w l ih =>
  have h1:=ih h.tail
  have h2:=h w (by simp)
  have h3:=Int.mul_nonneg (Int.le_of_lt B_pos) h1
  unfold val
  omega
theorem val_lt {l:List Int} (h:Wd l):val l < B ^ l.length:=by
 induction l with
 | nil=>simp [val]
 | cons w l ih =>
  have h1:=ih h.tail
  have h2:=h w (by simp)
  have h3:B * (val l + 1)≤B * B ^ l.length:=Int.mul_le_mul_of_nonneg_left (by omega) (Int.le_of_lt B_pos)
  rw [Int.mul_add] at h3
  rw [List.length_cons,Bpow_succ]
  unfold val
  omega
theorem val_take_succ (a:List Int) (i:Nat) (hi:i < a.length):val (a.take (i + 1)) = val (a.take i) + B ^ i * a[i]:=by
 rw [List.take_add_one,List.getElem?_eq_getElem hi,Option.toList_some,val_snoc,List.length_take,Nat.min_eq_left (by omega)]
theorem val_take_drop (a:List Int) (i:Nat) (hi:i≤a.length):val a = val (a.take i) + B ^ i * val (a.drop i):=by
 conv=>lhs;rw [← List.take_append_drop i a]
 rw [val_append,List.length_take,Nat.min_eq_left hi]
def Trim (l:List Int):Prop:=∀ w,l.getLast? = some w→w≠0
def Num (l:List Int):Prop:=Wd l∧Trim l
theorem Num.nil:Num []:=⟨Wd.nil,fun w h=>by simp at h⟩
theorem Num.tail {w:Int} {l:List Int} (h:Num (w :: l)):Num l:=⟨h.1.tail,fun x hx=>h.2 x (by
 cases l with
 | nil=>simp at hx
 | cons y l=>simpa [List.getLast?_cons_cons] using hx)⟩
theorem Num.pos {l:List Int} (h:Num l) (hn:l≠[]):0 < val l:=by
 induction l with
 | nil=>exact absurd rfl hn
 | cons w l ih =>
  have hw:=h.1 w (by simp)
  have h1:=val_nonneg h.1.tail
  have h2:=Int.mul_nonneg (Int.le_of_lt B_pos) h1
  unfold val
  by_cases hl:l = []
  ·subst hl
   have:=h.2 w (by simp)
   omega
  ·have h3:=Int.mul_pos B_pos (ih h.tail hl)
   omega
theorem Num.eq {a b:List Int} (ha:Num a) (hb:Num b) (h:val a = val b):a = b:=by
 induction a generalizing b with
 | nil =>
  cases b with
  | nil=>rfl
  | cons y b =>
   have:=hb.pos (by simp)
   rw [← h] at this
   exact absurd this (by simp [val])
 | cons x a ih =>
  cases b with
  | nil =>
   have:=ha.pos (by simp)
   rw [h] at this
   exact absurd this (by simp [val])
  | cons y b =>
   have hx:=ha.1 x (by simp)
   have hy:=hb.1 y (by simp)
   unfold val at h
   have e:x = y∧val a = val b:=by
    have h1:(x + B * val a) % B = x:=by rw [Int.add_mul_emod_self_left];exact Int.emod_eq_of_lt hx.1 hx.2
    have h2:(y + B * val b) % B = y:=by rw [Int.add_mul_emod_self_left];exact Int.emod_eq_of_lt hy.1 hy.2
    rw [h] at h1
    have e1:x = y:=h1.symm.trans h2
    subst e1
    refine ⟨rfl,?_⟩
    exact Int.eq_of_mul_eq_mul_left (Int.ne_of_gt B_pos) (by omega)
   rw [e.1,ih ha.tail hb.tail e.2]
theorem Num.len_le {a:List Int} (ha:Num a) {n:Nat} (h:val a < B ^ n):a.length≤n:=by
 by_cases e:a.length≤n
 ·exact e
 ·exfalso
  obtain ⟨m,hm⟩:∃ m,a.length = m + 1:=⟨a.length - 1,by omega⟩
  have h1:=val_take_drop a m (by omega)
  have h2:=val_nonneg (ha.1.take m)
  have h3:a.drop m = [a[m]]:=by
   rw [List.drop_eq_getElem_cons (by omega),List.drop_of_length_le (by omega)]
  have h4:a[m]≠0:=ha.2 _ (by rw [List.getLast?_eq_getElem?,show a.length - 1 = m by omega,List.getElem?_eq_getElem])
  have h5:=ha.1.get m (by omega)
  rw [h3] at h1
  have h6:B ^ n≤B ^ m:=by
   obtain ⟨d,rfl⟩:∃ d,m = n + d:=⟨m - n,by omega⟩
   rw [Int.pow_add]
   have:=Bpow_pos n
   have h8:=Bpow_pos d
   have:B ^ n * 1≤B ^ n * B ^ d:=Int.mul_le_mul_of_nonneg_left (by omega) (Int.le_of_lt (Bpow_pos n))
   omega
  have h7:B ^ m * 1≤B ^ m * a[m]:=Int.mul_le_mul_of_nonneg_left (by omega) (Int.le_of_lt (Bpow_pos m))
  simp only [val,Int.mul_zero,Int.add_zero] at h1
  omega
def trimL (l:List Int):List Int:=(l.reverse.dropWhile (· == 0)).reverse
theorem trimL_snoc_zero (l:List Int):trimL (l ++ [0]) = trimL l:=by simp [trimL]
theorem trimL_snoc (l:List Int) (w:Int) (hw:w≠0):trimL (l ++ [w]) = l ++ [w]:=by simp [trimL,hw]
theorem snoc_cases (l:List Int):l = [] ∨ ∃ a w,l = a ++ [w]:=by
 rcases List.eq_nil_or_concat l with h|⟨a,w,h⟩
 ·exact .inl h
 ·exact .inr ⟨a,w,by simpa using h⟩
theorem trimL_spec:∀ (n:Nat) (l:List Int),l.length = n→val (trimL l) = val l∧(Wd l→Num (trimL l))∧(trimL l).length≤l.length
 | 0,l,h=>by
  have:l = []:=List.eq_nil_of_length_eq_zero h
  subst this
  exact ⟨rfl,fun _=>Num.nil,Nat.le_refl _⟩
 | n + 1,l,h=>by
  rcases snoc_cases l with rfl|⟨a,w,rfl⟩
  ·simp at h
  ·by_cases e:w = 0
   ·subst e
    rw [trimL_snoc_zero]
    obtain ⟨h1,h2,h3⟩:=trimL_spec n a (by simpa using h)
    refine ⟨by rw [h1,val_snoc];simp,fun hw=>h2 (fun x hx=>hw x (by simp [hx])),by rw [List.length_append];omega⟩
   ·rw [trimL_snoc a w e]
    exact ⟨rfl,fun hw=>⟨hw,fun x hx=>by simp at hx;rw [← hx];exact e⟩,Nat.le_refl _⟩
theorem val_trimL (l:List Int):val (trimL l) = val l:=(trimL_spec _ l rfl).1
theorem num_trimL {l:List Int} (h:Wd l):Num (trimL l):=(trimL_spec _ l rfl).2.1 h
theorem len_trimL (l:List Int):(trimL l).length≤l.length:=(trimL_spec _ l rfl).2.2
def numOf (n:Nat):List Int:=if h:n = 0 then [] else ((n % 1000000000:Nat):Int) :: numOf (n / 1000000000)
 termination_by n
 decreasing_by exact Nat.div_lt_self (by omega) (by omega)
theorem numOf_zero:numOf 0 = []:=by rw [numOf];simp
theorem numOf_spec (n:Nat):Num (numOf n)∧val (numOf n) = n:=by
 induction n using Nat.strongRecOn with
 | ind n ih =>
  by_cases h:n = 0
  ·subst h
   rw [numOf_zero]
   exact ⟨Num.nil,rfl⟩
  ·rw [numOf,dif_neg h]
   obtain ⟨h1,h2⟩:=ih (n / 1000000000) (Nat.div_lt_self (by omega) (by omega))
   refine ⟨⟨Wd.cons ⟨by omega,by unfold B;omega⟩ h1.1,fun w hw=>?_⟩,?_⟩
   ·by_cases e:n / 1000000000 = 0
    ·rw [e,numOf_zero] at hw
     simp at hw
     omega
    ·have hne:numOf (n / 1000000000)≠[]:=fun h0=>by
      rw [h0] at h2
      simp [val] at h2
      omega
     obtain ⟨y,l,hl⟩:=List.exists_cons_of_ne_nil hne
     rw [hl,List.getLast?_cons_cons] at hw
     rw [hl] at h1
     exact h1.2 w hw
   ·rw [val,h2]
    unfold B
    omega
theorem num_numOf (n:Nat):Num (numOf n):=(numOf_spec n).1
theorem val_numOf (n:Nat):val (numOf n) = n:=(numOf_spec n).2
theorem Num.numOf {l:List Int} (h:Num l):l = numOf (val l).toNat:=h.eq (num_numOf _) (by
 rw [val_numOf]
 have:=val_nonneg h.1
 omega)
theorem guess_low (top v1 V X q:Int) (hX:0 < X) (hv:0 < v1) (hV:v1 * (B * X)≤V) (hq:q * V < (top + 1) * (B * X)) (hq0:0≤q):q≤top / v1:=by
 have hBX:0 < B * X:=Int.mul_pos B_pos hX
 have h1:q * (v1 * (B * X))≤q * V:=Int.mul_le_mul_of_nonneg_left hV hq0
 have h2:(q * v1) * (B * X) < (top + 1) * (B * X):=by rw [Int.mul_assoc];omega
 have h3:q * v1 < top + 1:=Int.lt_of_mul_lt_mul_right h2 (Int.le_of_lt hBX)
 exact (Int.le_ediv_iff_mul_le hv).2 (by omega)
theorem guess_too (g r top v1 v2 u2 V U X U' V':Int) (hX:0 < X) (hg:0≤g) (ht:g * v1 + r = top) (hV:V = (v1 * B + v2) * X + V') (hV':0≤V') (hU:U = (top * B + u2) * X + U') (hU':U' < X) (h:r * B + u2 < g * v2):U < g * V:=by
 have h1:g * V = (g * v1 * B + g * v2) * X + g * V':=by
  rw [hV,Int.mul_add,← Int.mul_assoc,Int.mul_add,← Int.mul_assoc]
 have h2:0≤g * V':=Int.mul_nonneg hg hV'
 have h3:top * B + u2 + 1≤g * v1 * B + g * v2:=by
  have:top * B = g * v1 * B + r * B:=by rw [← ht,Int.add_mul]
  omega
 have h4:(top * B + u2 + 1) * X≤(g * v1 * B + g * v2) * X:=Int.mul_le_mul_of_nonneg_right h3 (Int.le_of_lt hX)
 rw [Int.add_mul,Int.one_mul] at h4
 omega
theorem guess_high1 (g r top v1 v2 u2 V U X U' V':Int) (hX:0 < X) (hg:0≤g) (hgB:g < B) (hv1:1≤v1) (hv2:0≤v2) (ht:g * v1 + r = top) (hV:V = (v1 * B + v2) * X + V') (hV0:0≤V') (hV':V' < X) (hU:U = (top * B + u2) * X + U') (hU':0≤U') (h:g * v2≤r * B + u2):(g - 1) * V≤U:=by
 have h1:g * V = (g * v1 * B + g * v2) * X + g * V':=by
  rw [hV,Int.mul_add,← Int.mul_assoc,Int.mul_add,← Int.mul_assoc]
 have h3:g * v1 * B + g * v2≤top * B + u2:=by
  have:top * B = g * v1 * B + r * B:=by rw [← ht,Int.add_mul]
  omega
 have h4:(g * v1 * B + g * v2) * X≤(top * B + u2) * X:=Int.mul_le_mul_of_nonneg_right h3 (Int.le_of_lt hX)
 have h5:g * V'≤B * X:=Int.mul_le_mul (by omega) (by omega) hV0 (by decide)
 have h6:B * X≤(v1 * B + v2) * X:=Int.mul_le_mul_of_nonneg_right (by
  have:1 * B≤v1 * B:=Int.mul_le_mul_of_nonneg_right hv1 (by decide)
  omega) (Int.le_of_lt hX)
 rw [Int.sub_mul,Int.one_mul]
 omega
theorem guess_high2 (g r top v1 V U Y:Int) (hY:0 < Y) (hg:1≤g) (hgB:g≤B + v1 + 1) (ht:g * v1 + r = top) (hr:B≤r) (hV:V≤(v1 + 1) * Y) (hU:top * Y≤U):(g - 1) * V≤U:=by
 have h1:(g - 1) * V≤(g - 1) * ((v1 + 1) * Y):=Int.mul_le_mul_of_nonneg_left hV (by omega)
 have h2:(g - 1) * (v1 + 1)≤top:=by
  rw [Int.sub_mul,Int.mul_add]
  omega
 have h3:(g - 1) * (v1 + 1) * Y≤top * Y:=Int.mul_le_mul_of_nonneg_right h2 (Int.le_of_lt hY)
 rw [Int.mul_assoc] at h3
 omega
end Go.Proofs.YtcmbggahndfnnaaGreatDoor.NatTh
namespace Go.Proofs.YtcmbggahndfnnaaGreatDoor.NatTh
end Go.Proofs.YtcmbggahndfnnaaGreatDoor.NatTh
namespace Go.Proofs.YtcmbggahndfnnaaGreatDoor.NatTh
theorem take_set_succ (l:List Int) (n:Nat) (w:Int) (h:n < l.length):(l.set n w).take (n + 1) = l.take n ++ [w]:=by
 rw [List.take_set]
 rw [List.take_add_one,List.getElem?_eq_getElem h,Option.toList_some]
 have:(l.take n).length = n:=by rw [List.length_take];omega
 rw [List.set_append_right _ _ (by omega),this,Nat.sub_self]
 rfl
theorem drop_set_succ (l:List Int) (n:Nat) (w:Int):(l.set n w).drop (n + 1) = l.drop (n + 1):=by
 rw [List.drop_set_of_lt (by omega)]
theorem drop_succ_of {a b:List Int} {n:Nat} (h:a.drop n = b.drop n):a.drop (n + 1) = b.drop (n + 1):=by
 rw [← List.drop_drop,h,List.drop_drop]
theorem getD_drop {a b:List Int} {n i:Nat} (h:a.drop n = b.drop n) (hi:n≤i):a.getD i 0 = b.getD i 0:=by
 have e:(a.drop n)[i - n]? = (b.drop n)[i - n]?:=by rw [h]
 rw [List.getElem?_drop,List.getElem?_drop,show n + (i - n) = i by omega] at e
 rw [List.getD_eq_getElem?_getD,List.getD_eq_getElem?_getD,e]
theorem val_take_set (l:List Int) (n:Nat) (w:Int) (h:n < l.length):val ((l.set n w).take (n + 1)) = val (l.take n) + B ^ n * w:=by
 rw [take_set_succ l n w h,val_snoc,List.length_take,Nat.min_eq_left (by omega)]
theorem val_take_succD (a:List Int) (i:Nat) (hi:i < a.length):val (a.take (i + 1)) = val (a.take i) + B ^ i * a.getD i 0:=by
 rw [val_take_succ a i hi,List.getD_eq_getElem?_getD,List.getElem?_eq_getElem hi]
 rfl
theorem Wd.getD {a:List Int} (h:Wd a) (i:Nat):0≤a.getD i 0∧a.getD i 0 < B:=by
 rw [List.getD_eq_getElem?_getD]
 by_cases hi:i < a.length
 ·rw [List.getElem?_eq_getElem hi]
  exact h.get i hi
 ·rw [List.getElem?_eq_none (by omega)]
  exact ⟨Int.le_refl _,B_pos⟩
theorem val_take_more (a:List Int) (i:Nat):val (a.take (i + 1)) = val (a.take i) + B ^ i * a.getD i 0:=by
 by_cases hi:i < a.length
 ·exact val_take_succD a i hi
 ·rw [List.take_of_length_le (by omega),List.take_of_length_le (by omega),List.getD_eq_getElem?_getD,List.getElem?_eq_none (by omega)]
  simp
theorem val_split (a:List Int) (i:Nat) (hi:i≤a.length):val a = val (a.take i) + B ^ i * val (a.drop i):=val_take_drop a i hi
theorem val_drop_succ (a:List Int) (i:Nat) (hi:i < a.length):val (a.drop i) = a.getD i 0 + B * val (a.drop (i + 1)):=by
 rw [List.drop_eq_getElem_cons hi,val,List.getD_eq_getElem?_getD,List.getElem?_eq_getElem hi]
 rfl
structure Run (u u':List Int) (at':Nat) (T C:Int):Prop where
 wd:Wd u'
 len:u'.length = u.length
 rest:u'.drop at' = u.drop at'
 eq:val (u'.take at') + B ^ at' * C = val (u.take at') + T
theorem Run.start {u:List Int} (h:Wd u) (n:Nat):Run u u n 0 0:=⟨h,rfl,rfl,by simp⟩
theorem Run.get {u u':List Int} {n:Nat} {T C:Int} (h:Run u u' n T C):u'.getD n 0 = u.getD n 0:=getD_drop h.rest (Nat.le_refl _)
theorem Run.step {u u':List Int} {n:Nat} {T C d C' x:Int} (h:Run u u' n T C) (hn:n < u.length) (hd:0≤d∧d < B) (e:d + B * C' = u.getD n 0 + C + x) :
  Run u (u'.set n d) (n + 1) (T + B ^ n * x) C':=by
 have hl:=h.len
 refine ⟨h.wd.set n hd,by rw [List.length_set,hl],by rw [drop_set_succ];exact drop_succ_of h.rest,?_⟩
 rw [val_take_set _ _ _ (by omega),val_take_succD _ _ hn,Bpow_succ]
 have h1:=h.eq
 generalize val (u'.take n) = X at *
 generalize val (u.take n) = Y at *
 generalize B ^ n = P at *
 generalize u.getD n 0 = w at *
 grind
theorem Run.value {u u':List Int} {n:Nat} {T C:Int} (h:Run u u' n T C) (hn:n≤u.length):val u' + B ^ n * C = val u + T:=by
 rw [val_split u' n (by rw [h.len];exact hn),val_split u n hn,h.rest]
 have h1:=h.eq
 generalize val (u'.take n) = X at *
 generalize val (u.take n) = Y at *
 generalize B ^ n = P at *
 generalize val (u.drop n) = Z at *
 grind
end Go.Proofs.YtcmbggahndfnnaaGreatDoor.NatTh
namespace Go.Proofs.YtcmbggahndfnnaaGreatDoor.NatTh
theorem val_set (l:List Int) (n:Nat) (w:Int) (h:n < l.length):val (l.set n w) = val l + B ^ n * (w - l.getD n 0):=by
 rw [val_split (l.set n w) (n + 1) (by rw [List.length_set];omega),val_split l (n + 1) (by omega),val_take_set _ _ _ h,val_take_succD _ _ h,drop_set_succ]
 generalize val (l.take n) = X
 generalize B ^ n = P
 generalize B ^ (n + 1) * val (l.drop (n + 1)) = Y
 generalize l.getD n 0 = w0
 grind
theorem val_take_le {l:List Int} (h:Wd l) (n:Nat):val (l.take n) < B ^ n:=by
 have h1:=val_lt (h.take n)
 have h2:B ^ (l.take n).length≤B ^ n:=by
  obtain ⟨d,hd⟩:∃ d,n = (l.take n).length + d:=⟨n - (l.take n).length,by rw [List.length_take];omega⟩
  have h3:=Bpow_pos (l.take n).length
  have h4:=Bpow_pos d
  have:B ^ (l.take n).length * 1≤B ^ (l.take n).length * B ^ d:=Int.mul_le_mul_of_nonneg_left (by omega) (Int.le_of_lt h3)
  rw [← Int.pow_add,← hd] at this
  omega
 omega
theorem val_take_nn {l:List Int} (h:Wd l) (n:Nat):0≤val (l.take n):=val_nonneg (h.take n)
theorem val_drop_nn {l:List Int} (h:Wd l) (n:Nat):0≤val (l.drop n):=val_nonneg (h.drop n)
theorem Bpow_add (m n:Nat):B ^ (m + n) = B ^ m * B ^ n:=Int.pow_add _ _ _
theorem val_high {l:List Int} (h:Wd l) (n:Nat) (hn:n≤l.length) (hv:val l < B ^ n):val (l.drop n) = 0∧val l = val (l.take n):=by
 have h1:=val_split l n hn
 have h2:=val_take_nn h n
 have h3:=val_drop_nn h n
 have h4:val (l.drop n) = 0:=by
  by_cases e:val (l.drop n) = 0
  ·exact e
  ·have:B ^ n * 1≤B ^ n * val (l.drop n):=Int.mul_le_mul_of_nonneg_left (by omega) (Int.le_of_lt (Bpow_pos n))
   omega
 refine ⟨h4,?_⟩
 rw [h4] at h1
 simpa using h1
theorem ring1 (B t X c b a:Int):t + X * c + B * X * b + B * (B * X) * a = ((a * B + b) * B + c) * X + t:=by grind
theorem ring3 (B X a b c U':Int):((a * B + b) * B + c) * X + U' = (a * B + b + 1) * (B * X) - B * X + c * X + U':=by grind
theorem ring4 (B d:Int):(2 * B + 1) * d = d * B + d * B + d:=by grind
theorem ring2 (B t Y X c b:Int):(t + Y * c + B * Y * b) * X = (b * B + c) * (X * Y) + t * X:=by grind
structure Place (u v:List Int) (j:Nat):Prop where
 wu:Wd u
 wv:Wd v
 k2:2≤v.length
 fit:j + v.length < u.length
 top:0 < v.getD (v.length - 1) 0
 low:val u < val v * B ^ (j + 1)
def qw (u v:List Int) (j:Nat):Int:=val u / (val v * B ^ j)
namespace Place
variable {u v : List Int} {j : Nat}
theorem V_pos (h:Place u v j):0 < val v:=by
 have h1:=val_split v (v.length - 1) (by omega)
 have hk:=h.k2
 have h2:=val_drop_succ v (v.length - 1) (by omega)
 have h3:=val_take_nn h.wv (v.length - 1)
 have h4:=val_drop_nn h.wv (v.length - 1 + 1)
 have h5:=Int.mul_nonneg (Int.le_of_lt B_pos) h4
 have h6:=h.top
 have h7:0 < B ^ (v.length - 1) * val (v.drop (v.length - 1)):=Int.mul_pos (Bpow_pos _) (by omega)
 omega
theorem VB_pos (h:Place u v j):0 < val v * B ^ j:=Int.mul_pos h.V_pos (Bpow_pos j)
theorem qw_nonneg (h:Place u v j):0≤qw u v j:=Int.ediv_nonneg (val_nonneg h.wu) (Int.le_of_lt h.VB_pos)
theorem qw_lt (h:Place u v j):qw u v j < B:=by
 refine Int.ediv_lt_of_lt_mul h.VB_pos ?_
 have:=h.low
 rw [Bpow_succ] at this
 rw [show B * (val v * B ^ j) = val v * (B * B ^ j) by grind]
 exact this
theorem qw_le (h:Place u v j):qw u v j * (val v * B ^ j)≤val u:=Int.ediv_mul_le _ (Int.ne_of_gt h.VB_pos)
theorem qw_gt (h:Place u v j):val u < (qw u v j + 1) * (val v * B ^ j):=Int.lt_ediv_add_one_mul_self _ h.VB_pos
theorem le_qw (h:Place u v j) {g:Int} (hg:g * (val v * B ^ j)≤val u):g≤qw u v j:=(Int.le_ediv_iff_mul_le h.VB_pos).2 hg
theorem qw_of_lt (h:Place u v j) {g:Int} (hg:val u < g * (val v * B ^ j)):qw u v j < g:=(Int.ediv_lt_iff_lt_mul h.VB_pos).2 hg
theorem parts (h:Place u v j):∃ X U' V',0 < X∧0≤U'∧U' < X∧0≤V'∧V' < X ∧
  val u = ((u.getD (j + v.length) 0 * B + u.getD (j + v.length - 1) 0) * B + u.getD (j + v.length - 2) 0) * X + U' ∧
  val v * B ^ j = (v.getD (v.length - 1) 0 * B + v.getD (v.length - 2) 0) * X + V':=by
 have hk:=h.k2
 have hf:=h.fit
 obtain ⟨k,hk'⟩:∃ k,v.length = k + 2:=⟨v.length - 2,by omega⟩
 have hV:=val_lt h.wv
 have hb:val u < B ^ (j + v.length + 1):=by
  have h1:=h.low
  have h2:val v * B ^ (j + 1)≤B ^ v.length * B ^ (j + 1):=Int.mul_le_mul_of_nonneg_right (Int.le_of_lt hV) (Int.le_of_lt (Bpow_pos _))
  rw [← Bpow_add,show v.length + (j + 1) = j + v.length + 1 by omega] at h2
  omega
 have e1:=(val_high h.wu (j + v.length + 1) (by omega) hb).2
 rw [val_take_more,hk',show j + (k + 2) = j + k + 1 + 1 by omega,val_take_more,val_take_more] at e1
 have e2:val v = val (v.take (k + 1 + 1)):=by rw [List.take_of_length_le (by omega)]
 rw [val_take_more,val_take_more] at e2
 rw [hk',show j + (k + 2) = j + k + 1 + 1 by omega,show j + k + 1 + 1 - 1 = j + k + 1 by omega,show j + k + 1 + 1 - 2 = j + k by omega,show k + 2 - 1 = k + 1 by omega,show k + 2 - 2 = k by omega]
 refine ⟨B ^ (j + k),val (u.take (j + k)),val (v.take k) * B ^ j,Bpow_pos _,val_take_nn h.wu _,val_take_le h.wu _,Int.mul_nonneg (val_take_nn h.wv _) (Int.le_of_lt (Bpow_pos _)),?_,?_,?_⟩
 ·rw [Int.add_comm] at *
  have h1:=val_take_le h.wv k
  have h2:=Int.mul_lt_mul_of_pos_right h1 (Bpow_pos j)
  rw [← Bpow_add,Nat.add_comm k j] at h2
  exact h2
 ·rw [Bpow_succ (j + k + 1),Bpow_succ (j + k)] at e1
  rw [e1,ring1]
 ·rw [Bpow_succ] at e2
  rw [Bpow_add,e2,ring2]
end Place
structure Guess (u v:List Int) (j:Nat) (g r:Int):Prop where
 g0:0≤g
 r0:0≤r
 eq:g * v.getD (v.length - 1) 0 + r = u.getD (j + v.length) 0 * B + u.getD (j + v.length - 1) 0
 up:qw u v j≤g
 hi:g≤2 * B
namespace Guess
variable {u v : List Int} {j : Nat} {g r : Int}
theorem head_le (h:Place u v j):u.getD (j + v.length) 0≤v.getD (v.length - 1) 0:=by
 obtain ⟨X,U',V',hX,hU,hU',hV,hV',e1,e2⟩:=h.parts
 have h1:=h.low
 have h2:val v * B ^ (j + 1) = (val v * B ^ j) * B:=by rw [Bpow_succ];grind
 rw [h2,e2,e1] at h1
 have Aa:=h.wu.getD (j + v.length - 1)
 have Ac:=h.wu.getD (j + v.length - 2)
 have Ab:=h.wv.getD (v.length - 2)
 by_cases e:u.getD (j + v.length) 0≤v.getD (v.length - 1) 0
 ·exact e
 ·exfalso
  generalize u.getD (j + v.length) 0 = a at *
  generalize u.getD (j + v.length - 1) 0 = b at *
  generalize u.getD (j + v.length - 2) 0 = c at *
  generalize v.getD (v.length - 1) 0 = d at *
  generalize v.getD (v.length - 2) 0 = f at *
  have h3:((d * B + f) * X + V') * B≤(d + 1) * (B * B * X):=by
   have h4:(f * X + V')≤B * X:=by
    have:f * X + X≤B * X:=by
     have:=Int.mul_le_mul_of_nonneg_right (show f + 1≤B by omega) (Int.le_of_lt hX)
     rw [Int.add_mul,Int.one_mul] at this
     exact this
    omega
   have h5:=Int.mul_le_mul_of_nonneg_right h4 (Int.le_of_lt B_pos)
   grind
  have h4:(d + 1) * (B * B * X)≤a * (B * B * X):=Int.mul_le_mul_of_nonneg_right (by omega) (Int.mul_nonneg (by decide) (Int.le_of_lt hX))
  have h5:a * (B * B * X)≤((a * B + b) * B + c) * X:=by
   have h6:0≤(b * B + c) * X:=Int.mul_nonneg (by have:=Int.mul_nonneg Aa.1 (Int.le_of_lt B_pos);omega) (Int.le_of_lt hX)
   grind
  omega
theorem start (h:Place u v j):Guess u v j ((u.getD (j + v.length) 0 * B + u.getD (j + v.length - 1) 0) / v.getD (v.length - 1) 0) ((u.getD (j + v.length) 0 * B + u.getD (j + v.length - 1) 0) % v.getD (v.length - 1) 0):=by
 have hv:=h.top
 have hl:=head_le h
 obtain ⟨X,U',V',hX,hU,hU',hV,hV',e1,e2⟩:=h.parts
 have Ab:=h.wu.getD (j + v.length)
 have Ae:=h.wu.getD (j + v.length - 1)
 have Ad:=h.wu.getD (j + v.length - 2)
 have Aa:=h.wv.getD (v.length - 2)
 have hq:=h.qw_le
 have Ac:=h.qw_nonneg
 rw [e1,e2] at hq
 have h0:0≤u.getD (j + v.length) 0 * B + u.getD (j + v.length - 1) 0:=by
  have:=Int.mul_nonneg Ab.1 (Int.le_of_lt B_pos)
  omega
 refine ⟨Int.ediv_nonneg h0 (Int.le_of_lt hv),Int.emod_nonneg _ (Int.ne_of_gt hv),by rw [Int.mul_comm];exact Int.mul_ediv_add_emod _ _,?_,?_⟩
 ·generalize qw u v j = q at *
  generalize u.getD (j + v.length) 0 = a at *
  generalize u.getD (j + v.length - 1) 0 = b at *
  generalize u.getD (j + v.length - 2) 0 = c at *
  generalize v.getD (v.length - 1) 0 = d at *
  generalize v.getD (v.length - 2) 0 = f at *
  refine guess_low (a * B + b) d ((d * B + f) * X + V') X q hX hv ?_ ?_ Ac
  ·have:=Int.mul_nonneg Aa.1 (Int.le_of_lt hX)
   rw [Int.add_mul,Int.mul_assoc]
   omega
  ·refine Int.lt_of_le_of_lt hq ?_
   have:c * X + X≤B * X:=by
    have:=Int.mul_le_mul_of_nonneg_right (show c + 1≤B by omega) (Int.le_of_lt hX)
    rw [Int.add_mul,Int.one_mul] at this
    exact this
   rw [ring3]
   omega
 ·generalize u.getD (j + v.length) 0 = a at *
  generalize u.getD (j + v.length - 1) 0 = b at *
  generalize v.getD (v.length - 1) 0 = d at *
  refine Int.le_of_lt_add_one (Int.ediv_lt_of_lt_mul hv ?_)
  have h1:a * B≤d * B:=Int.mul_le_mul_of_nonneg_right hl (Int.le_of_lt B_pos)
  have h2:1 * B≤d * B:=Int.mul_le_mul_of_nonneg_right hv (Int.le_of_lt B_pos)
  rw [ring4]
  omega
theorem step (h:Place u v j) (G:Guess u v j g r) (hc:B≤g ∨ r * B + u.getD (j + v.length - 2) 0 < g * v.getD (v.length - 2) 0) :
  Guess u v j (g - 1) (r + v.getD (v.length - 1) 0)∧1≤g:=by
 have hv:=h.top
 obtain ⟨X,U',V',hX,hU,hU',hV,hV',e1,e2⟩:=h.parts
 have hq:qw u v j < g:=by
  rcases hc with hc|hc
  ·have:=h.qw_lt
   omega
  ·refine h.qw_of_lt ?_
   exact guess_too g r _ _ _ _ (val v * B ^ j) (val u) X U' V' hX G.g0 G.eq e2 hV e1 hU' hc
 have Aa:=h.qw_nonneg
 have h1:=G.r0
 have h2:=G.hi
 refine ⟨⟨by omega,by omega,?_,by omega,by omega⟩,by omega⟩
 rw [← G.eq,Int.sub_mul]
 omega
theorem done (h:Place u v j) (G:Guess u v j g r) (hc:B≤r ∨ (g < B∧g * v.getD (v.length - 2) 0≤r * B + u.getD (j + v.length - 2) 0)):g = qw u v j ∨ g = qw u v j + 1:=by
 have hv:=h.top
 obtain ⟨X,U',V',hX,hU,hU',hV,hV',e1,e2⟩:=h.parts
 have Ae:=h.qw_nonneg
 have hup:=G.up
 have Aa:=h.wv.getD (v.length - 2)
 have Ab:=h.wu.getD (j + v.length - 2)
 by_cases e:g = 0
 ·omega
 ·have hg:=G.g0
  have key:(g - 1) * (val v * B ^ j)≤val u:=by
   rcases hc with hc|⟨hc1,hc2⟩
   ·have Ad:=h.wu.getD (j + v.length)
    have Ac:=h.wu.getD (j + v.length - 1)
    have hl:=head_le h
    have heq:=G.eq
    refine guess_high2 g r _ (v.getD (v.length - 1) 0) (val v * B ^ j) (val u) (B * X) (Int.mul_pos B_pos hX) (by omega) ?_ G.eq hc ?_ ?_
    ·generalize u.getD (j + v.length) 0 = a at *
     generalize u.getD (j + v.length - 1) 0 = b at *
     generalize v.getD (v.length - 1) 0 = d at *
     have h1:a * B≤d * B:=Int.mul_le_mul_of_nonneg_right hl (Int.le_of_lt B_pos)
     by_cases h2:g≤B + d + 1
     ·exact h2
     ·have h3:(B + 1) * d≤g * d:=Int.mul_le_mul_of_nonneg_right (by omega) (Int.le_of_lt hv)
      grind
    ·rw [e2]
     have:v.getD (v.length - 2) 0 * X + X≤B * X:=by
      have:=Int.mul_le_mul_of_nonneg_right (show v.getD (v.length - 2) 0 + 1≤B by omega) (Int.le_of_lt hX)
      rw [Int.add_mul,Int.one_mul] at this
      exact this
     grind
    ·rw [e1]
     have:=Int.mul_nonneg Ab.1 (Int.le_of_lt hX)
     grind
   ·exact guess_high1 g r _ (v.getD (v.length - 1) 0) _ _ (val v * B ^ j) (val u) X U' V' hX hg hc1 hv Aa.1 G.eq e2 hV hV' e1 hU hc2
  have:=h.le_qw key
  omega
end Guess
theorem sub_done {u v u':List Int} {j:Nat} {g c:Int} (h:Place u v j) (hg:g = qw u v j ∨ g = qw u v j + 1) (R:Run u u' (j + v.length) (-(g * (val v * B ^ j))) (-c)) :
  (u.getD (j + v.length) 0 - c = 0∧g = qw u v j∧val (u'.set (j + v.length) 0) = val u - qw u v j * (val v * B ^ j)) ∨
  (u.getD (j + v.length) 0 - c = -1∧g = qw u v j + 1∧∀ u'' up,Run u' u'' (j + v.length) (val v * B ^ j) up→up = 1∧val (u''.set (j + v.length) 0) = val u - qw u v j * (val v * B ^ j)):=by
 have hf:=h.fit
 have hl:=R.len
 have hV:=val_lt h.wv
 have hVB:val v * B ^ j < B ^ (j + v.length):=by
  have:=Int.mul_lt_mul_of_pos_right hV (Bpow_pos j)
  rw [← Bpow_add,Nat.add_comm] at this
  exact this
 have h1:=R.value (by omega)
 have h2:=val_split u' (j + v.length) (by omega)
 have h3:=val_take_nn R.wd (j + v.length)
 have h4:=val_take_le R.wd (j + v.length)
 have hP:=Bpow_pos (j + v.length)
 have Aa:val (u'.drop (j + v.length)) = u.getD (j + v.length) 0:=by
  rw [R.rest,val_drop_succ _ _ (by omega)]
  have hb:val u < B ^ (j + v.length + 1):=by
   have h1:=h.low
   have h2:val v * B ^ (j + 1)≤B ^ v.length * B ^ (j + 1):=Int.mul_le_mul_of_nonneg_right (Int.le_of_lt hV) (Int.le_of_lt (Bpow_pos _))
   rw [← Bpow_add,show v.length + (j + 1) = j + v.length + 1 by omega] at h2
   omega
  rw [(val_high h.wu _ (by omega) hb).1]
  simp
 have Ab:u'.getD (j + v.length) 0 = u.getD (j + v.length) 0:=R.get
 have Ae:=h.qw_le
 have Ac:=h.qw_gt
 have hs:=val_set u' (j + v.length) 0 (by omega)
 rw [Aa] at h2
 rw [Ab] at hs
 rw [hs]
 have h5:val (u'.take (j + v.length)) + B ^ (j + v.length) * (u.getD (j + v.length) 0 - c) = val u - g * (val v * B ^ j):=by
  rw [Int.mul_sub]
  rw [Int.mul_neg] at h1
  omega
 rcases hg with hg|hg
 ·left
  rw [← hg] at Ae Ac ⊢
  rw [Int.add_mul,Int.one_mul] at Ac
  have h6:u.getD (j + v.length) 0 - c = 0:=by
   have ha:0≤val u - g * (val v * B ^ j):=by omega
   have hb:val u - g * (val v * B ^ j) < B ^ (j + v.length):=by omega
   rw [← h5] at ha hb
   generalize u.getD (j + v.length) 0 - c = t at *
   generalize B ^ (j + v.length) = P at *
   generalize val (u'.take (j + v.length)) = X at *
   by_cases e1:1≤t
   ·have:P * 1≤P * t:=Int.mul_le_mul_of_nonneg_left e1 (by omega)
    omega
   ·by_cases e2:t≤-1
    ·have:P * t≤P * (-1):=Int.mul_le_mul_of_nonneg_left e2 (by omega)
     omega
    ·omega
  refine ⟨h6,rfl,?_⟩
  rw [h6] at h5
  generalize B ^ (j + v.length) = P at *
  rw [h2]
  grind
 ·right
  have Ad:(g - 1) * (val v * B ^ j)≤val u:=by rw [hg,Int.add_sub_cancel];exact Ae
  have Af:val u < g * (val v * B ^ j):=by rw [hg];exact Ac
  rw [Int.sub_mul,Int.one_mul] at Ad
  have h6:u.getD (j + v.length) 0 - c = -1:=by
   have ha:-(B ^ (j + v.length)) < val u - g * (val v * B ^ j):=by omega
   have hb:val u - g * (val v * B ^ j) < 0:=by omega
   rw [← h5] at ha hb
   generalize u.getD (j + v.length) 0 - c = t at *
   generalize B ^ (j + v.length) = P at *
   generalize val (u'.take (j + v.length)) = X at *
   by_cases e1:0≤t
   ·have:0≤P * t:=Int.mul_nonneg (by omega) e1
    omega
   ·by_cases e2:t≤-2
    ·have:P * t≤P * (-2):=Int.mul_le_mul_of_nonneg_left e2 (by omega)
     omega
    ·omega
  refine ⟨h6,hg,fun u'' up R2=>?_⟩
  have Ag:=R2.len
  have k1:=R2.eq
  have k2:=val_split u'' (j + v.length) (by omega)
  rw [R2.rest,Aa] at k2
  have k3:=val_take_nn R2.wd (j + v.length)
  have k4:=val_take_le R2.wd (j + v.length)
  have k5:u''.getD (j + v.length) 0 = u.getD (j + v.length) 0:=by rw [R2.get,Ab]
  rw [val_set _ _ _ (by omega),k5]
  rw [h6] at h5
  have e9:qw u v j * (val v * B ^ j) = g * (val v * B ^ j) - val v * B ^ j:=by rw [hg];grind
  rw [e9]
  have hup:up = 1:=by
   generalize B ^ (j + v.length) = P at *
   generalize val (u'.take (j + v.length)) = X at *
   generalize val (u''.take (j + v.length)) = Y at *
   by_cases e1:2≤up
   ·have:P * 2≤P * up:=Int.mul_le_mul_of_nonneg_left e1 (by omega)
    omega
   ·by_cases e2:up≤0
    ·have:P * up≤P * 0:=Int.mul_le_mul_of_nonneg_left e2 (by omega)
     omega
    ·omega
  refine ⟨hup,?_⟩
  rw [hup] at k1
  generalize B ^ (j + v.length) = P at *
  generalize val (u'.take (j + v.length)) = X at *
  generalize val (u''.take (j + v.length)) = Y at *
  rw [k2]
  grind
end Go.Proofs.YtcmbggahndfnnaaGreatDoor.NatTh
namespace Go.Proofs.YtcmbggahndfnnaaGreatDoor.NatTh
theorem len_le {a n:Nat} (h:(a:Int) < B ^ n):(numOf a).length≤n:=(num_numOf a).len_le (by rw [val_numOf];exact h)
theorem lt_len (a:Nat):(a:Int) < B ^ (numOf a).length:=by
 have:=val_lt (num_numOf a).1
 rwa [val_numOf] at this
theorem Bpow_le {m n:Nat} (h:m≤n):B ^ m≤B ^ n:=by
 obtain ⟨d,rfl⟩:∃ d,n = m + d:=⟨n - m,by omega⟩
 have h3:=Bpow_pos m
 have h4:=Bpow_pos d
 have:B ^ m * 1≤B ^ m * B ^ d:=Int.mul_le_mul_of_nonneg_left (by omega) (Int.le_of_lt h3)
 rw [← Bpow_add] at this
 omega
theorem len_mono {a b:Nat} (h:a≤b):(numOf a).length≤(numOf b).length:=len_le (by have:=lt_len b;omega)
theorem len_mul (a b:Nat):(numOf (a * b)).length≤(numOf a).length + (numOf b).length:=by
 refine len_le ?_
 have h1:=lt_len a
 have h2:=lt_len b
 rw [Bpow_add,Int.natCast_mul]
 exact Int.mul_lt_mul' (Int.le_of_lt h1) h2 (by omega) (Bpow_pos _)
theorem numOf_nil {a:Nat}:numOf a = [] ↔ a = 0:=by
 constructor
 ·intro h
  have:=val_numOf a
  rw [h] at this
  simp [val] at this
  omega
 ·rintro rfl
  exact numOf_zero
theorem len_pos {a:Nat} (h:0 < a):0 < (numOf a).length:=by
 rw [List.length_pos_iff]
 intro e
 rw [numOf_nil] at e
 omega
theorem trim_numOf {l:List Int} (h:Wd l) {n:Nat} (e:val l = n):trimL l = numOf n:=by
 rw [(num_trimL h).numOf,val_trimL,e]
 rfl
theorem Num.ge {l:List Int} (h:Num l) (hn:l≠[]):B ^ (l.length - 1)≤val l:=by
 have hl:0 < l.length:=List.length_pos_iff.2 hn
 have h1:=val_split l (l.length - 1) (by omega)
 have h2:=val_take_nn h.1 (l.length - 1)
 have h3:=val_drop_succ l (l.length - 1) (by omega)
 rw [List.drop_of_length_le (show l.length≤l.length - 1 + 1 by omega)] at h3
 have h4:l.getD (l.length - 1) 0≠0:=by
  have:=h.2 (l.getD (l.length - 1) 0) (by rw [List.getLast?_eq_getElem?,List.getD_eq_getElem?_getD,List.getElem?_eq_getElem (by omega)];rfl)
  exact this
 have h5:=h.1.getD (l.length - 1)
 have h6:B ^ (l.length - 1) * 1≤B ^ (l.length - 1) * val (l.drop (l.length - 1)):=Int.mul_le_mul_of_nonneg_left (by rw [h3,show val ([]:List Int) = 0 from rfl];omega) (Int.le_of_lt (Bpow_pos _))
 omega
theorem top_pos (a:Nat) (h:0 < a):0 < (numOf a).getD ((numOf a).length - 1) 0:=by
 have hl:=len_pos h
 have h5:=(num_numOf a).1.getD ((numOf a).length - 1)
 have:=(num_numOf a).2 ((numOf a).getD ((numOf a).length - 1) 0) (by rw [List.getLast?_eq_getElem?,List.getD_eq_getElem?_getD,List.getElem?_eq_getElem (by omega)];rfl)
 omega
theorem lt_of_len {a b:Nat} (h:(numOf a).length < (numOf b).length):a < b:=by
 have h1:=lt_len a
 have h2:=(num_numOf b).ge (by intro e;rw [e] at h;simp at h)
 rw [val_numOf] at h2
 have h3:=Bpow_le (show (numOf a).length≤(numOf b).length - 1 by omega)
 omega
theorem lt_of_word {x y:List Int} (hx:Wd x) (hy:Wd y) (hl:x.length = y.length) {i:Nat} (hi:i < x.length) (hd:x.drop (i + 1) = y.drop (i + 1)) (h:x.getD i 0 < y.getD i 0):val x < val y:=by
 have h1:=val_split x i (by omega)
 have h2:=val_split y i (by omega)
 have h3:=val_drop_succ x i hi
 have h4:=val_drop_succ y i (by omega)
 have h5:=val_take_le hx i
 have h6:=val_take_nn hy i
 have h7:B ^ i * (val (x.drop i) + 1)≤B ^ i * val (y.drop i):=Int.mul_le_mul_of_nonneg_left (by rw [h3,h4,hd];omega) (Int.le_of_lt (Bpow_pos i))
 rw [Int.mul_add] at h7
 omega
theorem drop_eq_of {x y:List Int} (hl:x.length = y.length) {i:Nat} (hi:i < x.length) (hd:x.drop (i + 1) = y.drop (i + 1)) (h:x.getD i 0 = y.getD i 0):x.drop i = y.drop i:=by
 rw [List.drop_eq_getElem_cons hi,List.drop_eq_getElem_cons (show i < y.length by omega),hd]
 rw [List.getD_eq_getElem?_getD,List.getD_eq_getElem?_getD,List.getElem?_eq_getElem hi,List.getElem?_eq_getElem (show i < y.length by omega)] at h
 simp only [Option.getD_some] at h
 rw [h]
def ord (a b:Nat):Int:=if a < b then -1 else if b < a then 1 else 0
theorem numOf_one {a:Nat} (h:a < 1000000000) (h0:0 < a):numOf a = [(a:Int)]:=by
 rw [numOf,dif_neg (by omega),Nat.mod_eq_of_lt h,Nat.div_eq_of_lt h,numOf_zero]
theorem val_two (l:List Int) (h:l.length = 2):val l = l.getD 0 0 + B * l.getD 1 0:=by
 match l,h with
 | [a,b],_=>simp [val]
theorem val_one (l:List Int) (h:l.length = 1):val l = l.getD 0 0:=by
 match l,h with
 | [a],_=>simp [val]
end Go.Proofs.YtcmbggahndfnnaaGreatDoor.NatTh
namespace Go.Proofs.YtcmbggahndfnnaaGreatDoor.Pr
open Go.RowKit Go.Proofs.YtcmbggahndfnnaaGreatDoorW.PrintWords Go.Proofs.YtcmbggahndfnnaaGreatDoorW.PrintLast Go.Proofs.YtcmbggahndfnnaaGreatDoorW.PrintMore
attribute [local go_sem] max2_int min2_int max_two min_two max_three min_three max_four min_four
set_option maxHeartbeats 8000000
set_option maxRecDepth 100000
def natural_num_trim.l0:Nat→List Int→Option (List Int)
 | 0,_=>none
 | k + 1,x0=>if (x0.length:Int) > 0 then (if 0≤(wrap64 ((x0.length:Int) - 1)) then (if (wrap64 ((x0.length:Int) - 1)) < (x0.length:Int) then (if (rd x0 (wrap64 ((x0.length:Int) - 1))) = 0 then (if (wrap64 ((x0.length:Int) - 1))≤(x0.length:Int) then (natural_num_trim.l0 k (x0.take ((wrap64 ((x0.length:Int) - 1)):Int).toNat)) else (none)) else (some x0)) else (none)) else (none)) else (some x0)
def natural_num_trim.f (k:Nat) (l0:List Int):Option (List Int):=natural_num_trim.l0 k l0
theorem natural_num_trim.calls (k:Nat) (P0_:Nat→Prop) (A0:Option Addr) (c0:Nat) (l0:List Int) (r:List Int) (w:World) (hs0:Kd.V (Kd.int .u32) 101 w w.heap.size (fun k_=>P0_ k_) (.slice A0 l0.length c0) l0) (h:natural_num_trim.f k l0 = some r) :
  Calls Tryz.prog 138 #[.slice A0 l0.length c0] w fun e w'=>∃ v0_:Value,e = .returned (v0_)∧Kd.V (Kd.int .u32) 101 w' w.heap.size (fun k_=>(P0_ k_ ∨ w.heap.size≤k_)) v0_ r∧Below w.heap.size w w':=by
 have Bo:=Aside0.mk (show Kd.V (Kd.int .u32) 101 w w.heap.size (fun k_=>(P0_ k_ ∨ w.heap.size≤k_)) (.slice A0 l0.length c0) l0 from Kd.V_mono hs0 (fun k_ hk=>.inl hk))
 have HB:=Aside0.mk (Below.refl w.heap.size w)
 have H:=h;clear h;unfold natural_num_trim.f at H
 have H':=Aside0.mk H
 clear H
 go_enter Tryz.func138,Tryz.ntmps138
 go_wp2
 go_loopg [0] k (fun kq v0 w'=>∃ (Aa:List Int),Aside0 (natural_num_trim.l0 kq Aa = some r)∧Aside0 (kq≤k)∧Aside0 (Kd.V (Kd.int .u32) 101 w' w.heap.size (fun k_=>(P0_ k_ ∨ w.heap.size≤k_)) v0 Aa)∧Aside0 (Below w.heap.size w w'))
 case atStart=>exact ⟨(l0),H',⟨Nat.le_refl _⟩,⟨by (with_reducible repeat (first|apply Kd.V_alloc|apply Kd.V_drewN|apply Kd.V_drew));exact Bo.out⟩,⟨bx_⟩⟩
 case round =>
  clear H'
  obtain ⟨Aa,HA,Bc,Ab,HB⟩:=hrel
  cases gk with
  | zero=>exact absurd HA.out (by simp [natural_num_trim.l0])
  | succ k1 =>
   have H:=HA.out
   clear HA
   simp only [natural_num_trim.l0] at H
   by_cases c2:(Aa.length:Int) > 0
   ·rw [if_pos c2] at H
    have Ay:decide (0 < (Aa.length:Int)) = true:=decide_eq_true c2
    have Ax:decide (0 < Aa.length) = true:=decide_eq_true (by omega)
    clear c2
    obtain ⟨ji3,hji3⟩:∃ j_:Int,(wrap64 ((Aa.length:Int) - 1)) = j_:=⟨_,rfl⟩
    replace H:(if 0≤(ji3) then (if (ji3) < (Aa.length:Int) then (if (rd Aa (ji3)) = 0 then (if (ji3)≤(Aa.length:Int) then (natural_num_trim.l0 k1 (Aa.take ((ji3):Int).toNat)) else (none)) else (some Aa)) else (none)) else (none)) = some r:=by first|(rw [hji3] at H;exact H)|(simp only [hji3] at H ⊢;exact H)
    have Bb:(IntKind.i64.wrap ((Aa.length:Int) - 1)) = ji3:=(i64_w _).trans hji3
    by_cases c4:0≤(ji3)
    ·rw [if_pos c4] at H
     have Bm:decide (0≤(ji3)) = true:=decide_eq_true c4
     clear c4
     by_cases c5:(ji3) < (Aa.length:Int)
     ·rw [if_pos c5] at H
      have Bl:decide ((ji3) < (Aa.length:Int)) = true:=decide_eq_true c5
      clear c5
      by_cases c6:(rd Aa (ji3)) = 0
      ·rw [if_pos c6] at H
       have Aw:((rd Aa (ji3)) == 0) = true:=beq_iff_eq.mpr c6
       have Av:((rd Aa (ji3)) != 0) = false:=bne_eq_false_iff_eq.mpr c6
       clear c6
       have Bk:=eq_true (of_decide_eq_true (by first|(with_reducible assumption)|assumption):0≤(ji3))
       by_cases c8:(ji3)≤(Aa.length:Int)
       ·rw [if_pos c8] at H
        have Bj:=eq_true c8
        have Bi:decide ((ji3)≤(Aa.length:Int)) = true:=decide_eq_true c8
        clear c8
        obtain ⟨y177,hy177⟩:∃ y_:List Int,y_ = (Aa.take ((ji3):Int).toNat):=⟨_,rfl⟩
        replace H:(natural_num_trim.l0 k1 y177) = some r:=by first|(rw [hy177];with_reducible exact H)|(have Ba:=(Option.bind_some _ _).symm.trans H;rw [hy177];with_reducible exact Ba)|(have Ba:=(Option.bind_some _ _).symm.trans H;with_reducible exact Ba)|with_reducible exact H|(rw [hy177];exact H)|exact H
        have Ai:=Aside0.mk hy177
        clear hy177
        have H':=Aside0.mk H
        clear H
        obtain ⟨Br,Aq,Bf⟩:=Kd.V_slice Ab.out
        subst Bf
        have Ad:0≤((ji3):Int):=da_
        have Ac:(ji3) < (Aa.length:Int):=da_
        obtain ⟨Af,Am,Ag⟩:=Kd.at_int (Kd.V_reads' Ab.out).2.2 (ji3) Ad Ac
        cases Am
        replace Ad:=eq_true Ad
        replace Ac:=eq_true Ac
        have As:((ji3):Int)≤((Aa.length:Int):Int):=da_
        obtain ⟨Be,Ah,_,An,_⟩:=info_parts info101
        have Ae:Aa.length≤Aq:=(Kd.V_reads' Ab.out).2.1
        have Ao:Kd.F (Kd.int .u32) _ _ (some Af) Aa.length Aa:=(Kd.V_at (base:=w.heap.size) Ab.out).2.2
        have Al:=cut_to (P:=Tryz.prog) 161 101 .i64 Tryz.underlying161 Ah (some Af) Aa.length Aq (ji3) (of_decide_eq_true (by first|(with_reducible assumption)|assumption)) As Ae
        have Ak:=Kd.F_take (m:=((ji3):Int).toNat) Ao (by omega)
        have Aj:y177.length = ((ji3):Int).toNat:=(by rw [Ai.out,List.length_take];omega)
        rw [← Ai.out] at Ak
        rw [← Aj] at Al
        have Ap:=Aside0.mk (show Kd.V (Kd.int .u32) 101 _ w.heap.size _ (.slice (some Af) y177.length Aq) y177 from Kd.V_mk (by omega) Ak)
        have Bd:=Aside0.mk (show y177.length≤Aq from by omega)
        clear Ak Ao Ae Ah An
        have Bn:=Aside0.mk Aj
        clear Aj
        replace As:=eq_true As
        go_wp2
        go_roundg k1
        case measure=>have:=Bc.out;omega
        case rel=>exact ⟨(y177),H',⟨by have:=Bc.out;omega⟩,⟨by (with_reducible repeat (first|apply Kd.V_alloc|apply Kd.V_drewN|apply Kd.V_drew));exact Ap.out⟩,⟨bx_⟩⟩
       ·rw [if_neg c8] at H
        exact absurd H sm_
      ·rw [if_neg c6] at H
       have Aw:((rd Aa (ji3)) == 0) = false:=beq_eq_false_iff_ne.mpr c6
       have Av:((rd Aa (ji3)) != 0) = true:=bne_iff_ne.mpr c6
       obtain rfl:=Option.some.inj H
       obtain ⟨Bq,Bh,Au⟩:=Kd.V_slice Ab.out
       subst Au
       have Ad:0≤((ji3):Int):=da_
       have Ac:(ji3) < (Aa.length:Int):=da_
       obtain ⟨Af,Am,Ag⟩:=Kd.at_int (Kd.V_reads' Ab.out).2.2 (ji3) Ad Ac
       cases Am
       replace Ad:=eq_true Ad
       replace Ac:=eq_true Ac
       go_wp2
       go_ret
       exact ⟨_,by first|rfl|(simp [errW_none,errW_some]<;>rfl)|(simp only [← hji3];first|rfl|(simp [errW_none,errW_some]<;>rfl))|(simp [*,errW_none,errW_some]<;>rfl),by (with_reducible repeat (first|apply Kd.V_alloc|apply Kd.V_drewN|apply Kd.V_drew));exact Ab.out,bx_⟩
     ·rw [if_neg c5] at H
      exact absurd H sm_
    ·rw [if_neg c4] at H
     exact absurd H sm_
   ·rw [if_neg c2] at H
    have Ay:decide (0 < (Aa.length:Int)) = false:=decide_eq_false c2
    have Ax:decide (0 < Aa.length) = false:=decide_eq_false (by omega)
    clear c2
    obtain rfl:=Option.some.inj H
    obtain ⟨Bp,Bg,At⟩:=Kd.V_slice Ab.out
    subst At
    go_wp2
    go_ret
    exact ⟨_,rf_,by (with_reducible repeat (first|apply Kd.V_alloc|apply Kd.V_drewN|apply Kd.V_drew));exact Ab.out,bx_⟩
set_option maxHeartbeats 8000000
set_option maxRecDepth 100000
def garboardref01_trim.l0:Nat→List Int→Option (List Int)
 | 0,_=>none
 | k + 1,x0=>if (x0.length:Int) > 0 then (if 0≤(wrap64 ((x0.length:Int) - 1)) then (if (wrap64 ((x0.length:Int) - 1)) < (x0.length:Int) then (if (rd x0 (wrap64 ((x0.length:Int) - 1))) = 0 then (if (wrap64 ((x0.length:Int) - 1))≤(x0.length:Int) then (garboardref01_trim.l0 k (x0.take ((wrap64 ((x0.length:Int) - 1)):Int).toNat)) else (none)) else (some x0)) else (none)) else (none)) else (some x0)
def garboardref01_trim.f (k:Nat) (l0:List Int):Option (List Int):=garboardref01_trim.l0 k l0
set_option maxHeartbeats 8000000
set_option maxRecDepth 100000
def cmp_isNaN_int.f (a0:Int):Option (Bool):=some (a0 != a0)
theorem cmp_isNaN_int.calls (a0:Int) (r:Bool) (w:World) (h:cmp_isNaN_int.f a0 = some r) :
  Calls Tryz.prog 168 #[.int .i64 a0] w fun e w'=>e = .returned (.bool r)∧Drawn0 w w':=by
 have H:=h;clear h;unfold cmp_isNaN_int.f at H
 obtain rfl:=Option.some.inj H
 go_enter Tryz.func168,Tryz.ntmps168
 go_wp2
 go_ret
 exact ⟨by first|rfl|(simp;done)|(simp [*];done),by repeat (first|exact Drawn0.refl _|apply Drawn0.step)⟩
set_option maxHeartbeats 8000000
set_option maxRecDepth 100000
def cmp_Compare_int.f (a0:Int) (a1:Int):Option (Int):=(cmp_isNaN_int.f a0).bind fun t1035=>((cmp_isNaN_int.f a1).bind fun t1036=>(if t1035 = true then (if t1036 = true then (some 0) else (some (-1))) else (if t1036 = true then (some 1) else (if a0 < a1 then (some (-1)) else (if a0 > a1 then (some 1) else (some 0))))))
theorem cmp_Compare_int.calls (a0:Int) (a1:Int) (r:Int) (w:World) (h:cmp_Compare_int.f a0 a1 = some r) :
  Calls Tryz.prog 153 #[.int .i64 a0,.int .i64 a1] w fun e w'=>e = .returned (.int .i64 r)∧Drawn0 w w':=by
 have H:=h;clear h;unfold cmp_Compare_int.f at H
 obtain ⟨Ab,A3,H⟩:=bn_ H
 obtain ⟨Aa,A4,H⟩:=bn_ H
 by_cases c5:Ab = true
 ·subst c5
  have H1:(if Aa = true then (some 0) else (some (-1))) = some r:=by rw [if_pos rfl] at H;exact H
  clear H
  have H:=H1
  clear H1
  by_cases c6:Aa = true
  ·subst c6
   have H1:(some 0) = some r:=by rw [if_pos rfl] at H;exact H
   clear H
   have H:=H1
   clear H1
   obtain rfl:=Option.some.inj H
   go_enter Tryz.func153,Tryz.ntmps153
   go_wp2_with (first|((with_reducible refine gate_callee (f:=168) rfl ?_);refine gm_ (some 8) Tryz.func168 #[.int .i64 a0] ?_;(with_reducible refine (cmp_isNaN_int.calls a0 true _ A3.out).mono ?_);rintro e w' ⟨rfl,⟨nd,rfl⟩⟩;refine ⟨_,rfl,?_⟩)|((with_reducible refine gate_callee (f:=168) rfl ?_);refine gm_ (some 10) Tryz.func168 #[.int .i64 a1] ?_;(with_reducible refine (cmp_isNaN_int.calls a1 true _ A4.out).mono ?_);rintro e w' ⟨rfl,⟨nd,rfl⟩⟩;refine ⟨_,rfl,?_⟩))
   go_ret
   exact ⟨by first|rfl|(simp;done)|(simp [*];done),by repeat (first|exact Drawn0.refl _|apply Drawn0.step)⟩
  ·replace c6:=Bool.eq_false_iff.mpr c6
   subst c6
   have H1:(some (-1)) = some r:=by rw [if_neg (show ¬ (false = true) by decide)] at H;exact H
   clear H
   have H:=H1
   clear H1
   obtain rfl:=Option.some.inj H
   go_enter Tryz.func153,Tryz.ntmps153
   go_wp2_with (first|((with_reducible refine gate_callee (f:=168) rfl ?_);refine gm_ (some 8) Tryz.func168 #[.int .i64 a0] ?_;(with_reducible refine (cmp_isNaN_int.calls a0 true _ A3.out).mono ?_);rintro e w' ⟨rfl,⟨nd,rfl⟩⟩;refine ⟨_,rfl,?_⟩)|((with_reducible refine gate_callee (f:=168) rfl ?_);refine gm_ (some 10) Tryz.func168 #[.int .i64 a1] ?_;(with_reducible refine (cmp_isNaN_int.calls a1 false _ A4.out).mono ?_);rintro e w' ⟨rfl,⟨nd,rfl⟩⟩;refine ⟨_,rfl,?_⟩))
   go_ret
   exact ⟨by first|rfl|(simp;done)|(simp [*];done),by repeat (first|exact Drawn0.refl _|apply Drawn0.step)⟩
 ·replace c5:=Bool.eq_false_iff.mpr c5
  subst c5
  have H1:(if Aa = true then (some 1) else (if a0 < a1 then (some (-1)) else (if a0 > a1 then (some 1) else (some 0)))) = some r:=by rw [if_neg (show ¬ (false = true) by decide)] at H;exact H
  clear H
  have H:=H1
  clear H1
  by_cases c7:Aa = true
  ·subst c7
   have H1:(some 1) = some r:=by rw [if_pos rfl] at H;exact H
   clear H
   have H:=H1
   clear H1
   obtain rfl:=Option.some.inj H
   go_enter Tryz.func153,Tryz.ntmps153
   go_wp2_with (first|((with_reducible refine gate_callee (f:=168) rfl ?_);refine gm_ (some 8) Tryz.func168 #[.int .i64 a0] ?_;(with_reducible refine (cmp_isNaN_int.calls a0 false _ A3.out).mono ?_);rintro e w' ⟨rfl,⟨nd,rfl⟩⟩;refine ⟨_,rfl,?_⟩)|((with_reducible refine gate_callee (f:=168) rfl ?_);refine gm_ (some 10) Tryz.func168 #[.int .i64 a1] ?_;(with_reducible refine (cmp_isNaN_int.calls a1 true _ A4.out).mono ?_);rintro e w' ⟨rfl,⟨nd,rfl⟩⟩;refine ⟨_,rfl,?_⟩))
   go_ret
   exact ⟨by first|rfl|(simp;done)|(simp [*];done),by repeat (first|exact Drawn0.refl _|apply Drawn0.step)⟩
  ·replace c7:=Bool.eq_false_iff.mpr c7
   subst c7
   have H1:(if a0 < a1 then (some (-1)) else (if a0 > a1 then (some 1) else (some 0))) = some r:=by rw [if_neg (show ¬ (false = true) by decide)] at H;exact H
   clear H
   have H:=H1
   clear H1
   by_cases c8:a0 < a1
   ·rw [if_pos c8] at H
    have Ad:decide (a0 < a1) = true:=decide_eq_true c8
    clear c8
    obtain rfl:=Option.some.inj H
    go_enter Tryz.func153,Tryz.ntmps153
    go_wp2_with (first|((with_reducible refine gate_callee (f:=168) rfl ?_);refine gm_ (some 8) Tryz.func168 #[.int .i64 a0] ?_;(with_reducible refine (cmp_isNaN_int.calls a0 false _ A3.out).mono ?_);rintro e w' ⟨rfl,⟨nd,rfl⟩⟩;refine ⟨_,rfl,?_⟩)|((with_reducible refine gate_callee (f:=168) rfl ?_);refine gm_ (some 10) Tryz.func168 #[.int .i64 a1] ?_;(with_reducible refine (cmp_isNaN_int.calls a1 false _ A4.out).mono ?_);rintro e w' ⟨rfl,⟨nd,rfl⟩⟩;refine ⟨_,rfl,?_⟩))
    go_ret
    exact ⟨by first|rfl|(simp;done)|(simp [*];done),by repeat (first|exact Drawn0.refl _|apply Drawn0.step)⟩
   ·rw [if_neg c8] at H
    have Ad:decide (a0 < a1) = false:=decide_eq_false c8
    clear c8
    by_cases c9:a0 > a1
    ·rw [if_pos c9] at H
     have Ac:decide (a1 < a0) = true:=decide_eq_true c9
     clear c9
     obtain rfl:=Option.some.inj H
     go_enter Tryz.func153,Tryz.ntmps153
     go_wp2_with (first|((with_reducible refine gate_callee (f:=168) rfl ?_);refine gm_ (some 8) Tryz.func168 #[.int .i64 a0] ?_;(with_reducible refine (cmp_isNaN_int.calls a0 false _ A3.out).mono ?_);rintro e w' ⟨rfl,⟨nd,rfl⟩⟩;refine ⟨_,rfl,?_⟩)|((with_reducible refine gate_callee (f:=168) rfl ?_);refine gm_ (some 10) Tryz.func168 #[.int .i64 a1] ?_;(with_reducible refine (cmp_isNaN_int.calls a1 false _ A4.out).mono ?_);rintro e w' ⟨rfl,⟨nd,rfl⟩⟩;refine ⟨_,rfl,?_⟩))
     go_ret
     exact ⟨by first|rfl|(simp;done)|(simp [*];done),by repeat (first|exact Drawn0.refl _|apply Drawn0.step)⟩
    ·rw [if_neg c9] at H
     have Ac:decide (a1 < a0) = false:=decide_eq_false c9
     clear c9
     obtain rfl:=Option.some.inj H
     go_enter Tryz.func153,Tryz.ntmps153
     go_wp2_with (first|((with_reducible refine gate_callee (f:=168) rfl ?_);refine gm_ (some 8) Tryz.func168 #[.int .i64 a0] ?_;(with_reducible refine (cmp_isNaN_int.calls a0 false _ A3.out).mono ?_);rintro e w' ⟨rfl,⟨nd,rfl⟩⟩;refine ⟨_,rfl,?_⟩)|((with_reducible refine gate_callee (f:=168) rfl ?_);refine gm_ (some 10) Tryz.func168 #[.int .i64 a1] ?_;(with_reducible refine (cmp_isNaN_int.calls a1 false _ A4.out).mono ?_);rintro e w' ⟨rfl,⟨nd,rfl⟩⟩;refine ⟨_,rfl,?_⟩))
     go_ret
     exact ⟨by first|rfl|(simp;done)|(simp [*];done),by repeat (first|exact Drawn0.refl _|apply Drawn0.step)⟩
set_option maxHeartbeats 8000000
set_option maxRecDepth 100000
def cmp_isNaN_uint32.f (a0:Int):Option (Bool):=some (a0 != a0)
theorem cmp_isNaN_uint32.calls (a0:Int) (r:Bool) (w:World) (h:cmp_isNaN_uint32.f a0 = some r) :
  Calls Tryz.prog 169 #[.int .u32 a0] w fun e w'=>e = .returned (.bool r)∧Drawn0 w w':=by
 have H:=h;clear h;unfold cmp_isNaN_uint32.f at H
 obtain rfl:=Option.some.inj H
 go_enter Tryz.func169,Tryz.ntmps169
 go_wp2
 go_ret
 exact ⟨by first|rfl|(simp;done)|(simp [*];done),by repeat (first|exact Drawn0.refl _|apply Drawn0.step)⟩
set_option maxHeartbeats 8000000
set_option maxRecDepth 100000
def cmp_Compare_uint32.f (a0:Int) (a1:Int):Option (Int):=(cmp_isNaN_uint32.f a0).bind fun t1037=>((cmp_isNaN_uint32.f a1).bind fun t1038=>(if t1037 = true then (if t1038 = true then (some 0) else (some (-1))) else (if t1038 = true then (some 1) else (if a0 < a1 then (some (-1)) else (if a0 > a1 then (some 1) else (some 0))))))
theorem cmp_Compare_uint32.calls (a0:Int) (a1:Int) (r:Int) (w:World) (h:cmp_Compare_uint32.f a0 a1 = some r) :
  Calls Tryz.prog 154 #[.int .u32 a0,.int .u32 a1] w fun e w'=>e = .returned (.int .i64 r)∧Drawn0 w w':=by
 have H:=h;clear h;unfold cmp_Compare_uint32.f at H
 obtain ⟨Ab,A3,H⟩:=bn_ H
 obtain ⟨Aa,A4,H⟩:=bn_ H
 by_cases c5:Ab = true
 ·subst c5
  have H1:(if Aa = true then (some 0) else (some (-1))) = some r:=by rw [if_pos rfl] at H;exact H
  clear H
  have H:=H1
  clear H1
  by_cases c6:Aa = true
  ·subst c6
   have H1:(some 0) = some r:=by rw [if_pos rfl] at H;exact H
   clear H
   have H:=H1
   clear H1
   obtain rfl:=Option.some.inj H
   go_enter Tryz.func154,Tryz.ntmps154
   go_wp2_with (first|((with_reducible refine gate_callee (f:=169) rfl ?_);refine gm_ (some 8) Tryz.func169 #[.int .u32 a0] ?_;(with_reducible refine (cmp_isNaN_uint32.calls a0 true _ A3.out).mono ?_);rintro e w' ⟨rfl,⟨nd,rfl⟩⟩;refine ⟨_,rfl,?_⟩)|((with_reducible refine gate_callee (f:=169) rfl ?_);refine gm_ (some 10) Tryz.func169 #[.int .u32 a1] ?_;(with_reducible refine (cmp_isNaN_uint32.calls a1 true _ A4.out).mono ?_);rintro e w' ⟨rfl,⟨nd,rfl⟩⟩;refine ⟨_,rfl,?_⟩))
   go_ret
   exact ⟨by first|rfl|(simp;done)|(simp [*];done),by repeat (first|exact Drawn0.refl _|apply Drawn0.step)⟩
  ·replace c6:=Bool.eq_false_iff.mpr c6
   subst c6
   have H1:(some (-1)) = some r:=by rw [if_neg (show ¬ (false = true) by decide)] at H;exact H
   clear H
   have H:=H1
   clear H1
   obtain rfl:=Option.some.inj H
   go_enter Tryz.func154,Tryz.ntmps154
   go_wp2_with (first|((with_reducible refine gate_callee (f:=169) rfl ?_);refine gm_ (some 8) Tryz.func169 #[.int .u32 a0] ?_;(with_reducible refine (cmp_isNaN_uint32.calls a0 true _ A3.out).mono ?_);rintro e w' ⟨rfl,⟨nd,rfl⟩⟩;refine ⟨_,rfl,?_⟩)|((with_reducible refine gate_callee (f:=169) rfl ?_);refine gm_ (some 10) Tryz.func169 #[.int .u32 a1] ?_;(with_reducible refine (cmp_isNaN_uint32.calls a1 false _ A4.out).mono ?_);rintro e w' ⟨rfl,⟨nd,rfl⟩⟩;refine ⟨_,rfl,?_⟩))
   go_ret
   exact ⟨by first|rfl|(simp;done)|(simp [*];done),by repeat (first|exact Drawn0.refl _|apply Drawn0.step)⟩
 ·replace c5:=Bool.eq_false_iff.mpr c5
  subst c5
  have H1:(if Aa = true then (some 1) else (if a0 < a1 then (some (-1)) else (if a0 > a1 then (some 1) else (some 0)))) = some r:=by rw [if_neg (show ¬ (false = true) by decide)] at H;exact H
  clear H
  have H:=H1
  clear H1
  by_cases c7:Aa = true
  ·subst c7
   have H1:(some 1) = some r:=by rw [if_pos rfl] at H;exact H
   clear H
   have H:=H1
   clear H1
   obtain rfl:=Option.some.inj H
   go_enter Tryz.func154,Tryz.ntmps154
   go_wp2_with (first|((with_reducible refine gate_callee (f:=169) rfl ?_);refine gm_ (some 8) Tryz.func169 #[.int .u32 a0] ?_;(with_reducible refine (cmp_isNaN_uint32.calls a0 false _ A3.out).mono ?_);rintro e w' ⟨rfl,⟨nd,rfl⟩⟩;refine ⟨_,rfl,?_⟩)|((with_reducible refine gate_callee (f:=169) rfl ?_);refine gm_ (some 10) Tryz.func169 #[.int .u32 a1] ?_;(with_reducible refine (cmp_isNaN_uint32.calls a1 true _ A4.out).mono ?_);rintro e w' ⟨rfl,⟨nd,rfl⟩⟩;refine ⟨_,rfl,?_⟩))
   go_ret
   exact ⟨by first|rfl|(simp;done)|(simp [*];done),by repeat (first|exact Drawn0.refl _|apply Drawn0.step)⟩
  ·replace c7:=Bool.eq_false_iff.mpr c7
   subst c7
   have H1:(if a0 < a1 then (some (-1)) else (if a0 > a1 then (some 1) else (some 0))) = some r:=by rw [if_neg (show ¬ (false = true) by decide)] at H;exact H
   clear H
   have H:=H1
   clear H1
   by_cases c8:a0 < a1
   ·rw [if_pos c8] at H
    have Ad:decide (a0 < a1) = true:=decide_eq_true c8
    clear c8
    obtain rfl:=Option.some.inj H
    go_enter Tryz.func154,Tryz.ntmps154
    go_wp2_with (first|((with_reducible refine gate_callee (f:=169) rfl ?_);refine gm_ (some 8) Tryz.func169 #[.int .u32 a0] ?_;(with_reducible refine (cmp_isNaN_uint32.calls a0 false _ A3.out).mono ?_);rintro e w' ⟨rfl,⟨nd,rfl⟩⟩;refine ⟨_,rfl,?_⟩)|((with_reducible refine gate_callee (f:=169) rfl ?_);refine gm_ (some 10) Tryz.func169 #[.int .u32 a1] ?_;(with_reducible refine (cmp_isNaN_uint32.calls a1 false _ A4.out).mono ?_);rintro e w' ⟨rfl,⟨nd,rfl⟩⟩;refine ⟨_,rfl,?_⟩))
    go_ret
    exact ⟨by first|rfl|(simp;done)|(simp [*];done),by repeat (first|exact Drawn0.refl _|apply Drawn0.step)⟩
   ·rw [if_neg c8] at H
    have Ad:decide (a0 < a1) = false:=decide_eq_false c8
    clear c8
    by_cases c9:a0 > a1
    ·rw [if_pos c9] at H
     have Ac:decide (a1 < a0) = true:=decide_eq_true c9
     clear c9
     obtain rfl:=Option.some.inj H
     go_enter Tryz.func154,Tryz.ntmps154
     go_wp2_with (first|((with_reducible refine gate_callee (f:=169) rfl ?_);refine gm_ (some 8) Tryz.func169 #[.int .u32 a0] ?_;(with_reducible refine (cmp_isNaN_uint32.calls a0 false _ A3.out).mono ?_);rintro e w' ⟨rfl,⟨nd,rfl⟩⟩;refine ⟨_,rfl,?_⟩)|((with_reducible refine gate_callee (f:=169) rfl ?_);refine gm_ (some 10) Tryz.func169 #[.int .u32 a1] ?_;(with_reducible refine (cmp_isNaN_uint32.calls a1 false _ A4.out).mono ?_);rintro e w' ⟨rfl,⟨nd,rfl⟩⟩;refine ⟨_,rfl,?_⟩))
     go_ret
     exact ⟨by first|rfl|(simp;done)|(simp [*];done),by repeat (first|exact Drawn0.refl _|apply Drawn0.step)⟩
    ·rw [if_neg c9] at H
     have Ac:decide (a1 < a0) = false:=decide_eq_false c9
     clear c9
     obtain rfl:=Option.some.inj H
     go_enter Tryz.func154,Tryz.ntmps154
     go_wp2_with (first|((with_reducible refine gate_callee (f:=169) rfl ?_);refine gm_ (some 8) Tryz.func169 #[.int .u32 a0] ?_;(with_reducible refine (cmp_isNaN_uint32.calls a0 false _ A3.out).mono ?_);rintro e w' ⟨rfl,⟨nd,rfl⟩⟩;refine ⟨_,rfl,?_⟩)|((with_reducible refine gate_callee (f:=169) rfl ?_);refine gm_ (some 10) Tryz.func169 #[.int .u32 a1] ?_;(with_reducible refine (cmp_isNaN_uint32.calls a1 false _ A4.out).mono ?_);rintro e w' ⟨rfl,⟨nd,rfl⟩⟩;refine ⟨_,rfl,?_⟩))
     go_ret
     exact ⟨by first|rfl|(simp;done)|(simp [*];done),by repeat (first|exact Drawn0.refl _|apply Drawn0.step)⟩
set_option maxHeartbeats 8000000
set_option maxRecDepth 100000
def natural_num_compare.l0:Nat→List Int→List Int→Int→Option (Int)
 | 0,_,_,_=>none
 | k + 1,x0,x1,x5=>if x5 ≥ 0 then (if 0≤x5 then (if x5 < (x0.length:Int) then (if x5 < (x1.length:Int) then (if (rd x0 x5) = (rd x1 x5) then (natural_num_compare.l0 k x0 x1 (wrap64 (x5 - 1))) else ((cmp_Compare_uint32.f (rd x0 x5) (rd x1 x5)).bind fun t1044=>(some t1044))) else (none)) else (none)) else (none)) else (some 0)
def natural_num_compare.f (k:Nat) (l0:List Int) (l1:List Int):Option (Int):=if (l0.length:Int) = (l1.length:Int) then (natural_num_compare.l0 k l0 l1 (wrap64 ((l0.length:Int) - 1))) else ((cmp_Compare_int.f (l0.length:Int) (l1.length:Int)).bind fun t1039=>(some t1039))
theorem natural_num_compare.calls (k:Nat) (A0:Option Addr) (c0:Nat) (l0:List Int) (A1:Option Addr) (c1:Nat) (l1:List Int) (r:Int) (w:World) (hr0:Kd.C (Kd.int .u32) w A0 l0.length l0) (hc0:l0.length≤c0) (hr1:Kd.C (Kd.int .u32) w A1 l1.length l1) (hc1:l1.length≤c1) (h:natural_num_compare.f k l0 l1 = some r) :
  Calls Tryz.prog 142 #[.slice A0 l0.length c0,.slice A1 l1.length c1] w fun e w'=>e = .returned (.int .i64 r)∧Drawn0 w w':=by
 have Bg:=Aside0.mk hr0
 have Bn:=Aside0.mk hc0
 clear hr0 hc0
 have Bf:=Aside0.mk hr1
 have Bm:=Aside0.mk hc1
 clear hr1 hc1
 have H:=h;clear h;unfold natural_num_compare.f at H
 by_cases c3:(l0.length:Int) = (l1.length:Int)
 ·rw [if_pos c3] at H
  have Bb:((l0.length:Int) == (l1.length:Int)) = true:=beq_iff_eq.mpr c3
  have Ba:((l0.length:Int) != (l1.length:Int)) = false:=bne_eq_false_iff_eq.mpr c3
  have Ay:(l0.length == l1.length) = true:=by first|simpa using c3|(simp at c3 ⊢;omega)
  clear c3
  have H':=Aside0.mk H
  clear H
  go_enter Tryz.func142,Tryz.ntmps142
  go_wp2
  repeat (go_quiet (fail);try go_wp2)
  go_loopg [5] k (fun kq v5 w'=>∃ (Aa:Int),v5 = .int .i64 Aa∧Aside0 (natural_num_compare.l0 kq l0 l1 Aa = some r)∧Aside0 (kq≤k)∧Drawn0 w w')
  case atStart=>exact ⟨(wrap64 ((l0.length:Int) - 1)),rg_,H',⟨Nat.le_refl _⟩,by repeat (first|exact Drawn0.refl _|apply Drawn0.step)⟩
  case round =>
   clear H'
   try clear c1
   try clear c3
   try clear Bb
   try clear Ba
   try clear Ay
   obtain ⟨Aa,rfl,HA,Bi,⟨m1,rfl⟩⟩:=hrel
   cases gk with
   | zero=>exact absurd HA.out (by simp [natural_num_compare.l0])
   | succ k1 =>
    have H:=HA.out
    clear HA
    simp only [natural_num_compare.l0] at H
    by_cases c4:Aa ≥ 0
    ·rw [if_pos c4] at H
     have Be:decide (0≤Aa) = true:=decide_eq_true c4
     clear c4
     by_cases c5:0≤Aa
     ·rw [if_pos c5] at H
      have Bl:decide (0≤Aa) = true:=decide_eq_true c5
      clear c5
      by_cases c6:Aa < (l0.length:Int)
      ·rw [if_pos c6] at H
       have Bk:decide (Aa < (l0.length:Int)) = true:=decide_eq_true c6
       clear c6
       by_cases c7:Aa < (l1.length:Int)
       ·rw [if_pos c7] at H
        have Bj:decide (Aa < (l1.length:Int)) = true:=decide_eq_true c7
        clear c7
        by_cases c8:(rd l0 Aa) = (rd l1 Aa)
        ·rw [if_pos c8] at H
         have Bd:((rd l0 Aa) == (rd l1 Aa)) = true:=beq_iff_eq.mpr c8
         have Bc:((rd l0 Aa) != (rd l1 Aa)) = false:=bne_eq_false_iff_eq.mpr c8
         clear c8
         have H':=Aside0.mk H
         clear H
         have Ae:0≤(Aa:Int):=da_
         have Ac:Aa < (l0.length:Int):=da_
         obtain ⟨Aq,Ao,Am⟩:=Kd.at_int Bg.out Aa Ae Ac
         cases Ao
         replace Ae:=eq_true Ae
         replace Ac:=eq_true Ac
         have Ad:0≤(Aa:Int):=da_
         have Ab:Aa < (l1.length:Int):=da_
         obtain ⟨Ap,An,Al⟩:=Kd.at_int Bf.out Aa Ad Ab
         cases An
         replace Ad:=eq_true Ad
         replace Ab:=eq_true Ab
         go_wp2
         repeat (go_quiet (fail);try go_wp2)
         go_roundg k1
         case measure=>have:=Bi.out;omega
         case rel=>exact ⟨(wrap64 (Aa - 1)),rg_,H',⟨by have:=Bi.out;omega⟩,by repeat (first|exact Drawn0.refl _|apply Drawn0.step)⟩
        ·rw [if_neg c8] at H
         have Bd:((rd l0 Aa) == (rd l1 Aa)) = false:=beq_eq_false_iff_ne.mpr c8
         have Bc:((rd l0 Aa) != (rd l1 Aa)) = true:=bne_iff_ne.mpr c8
         obtain ⟨Af,A9,H⟩:=bn_ H
         obtain rfl:=Option.some.inj H
         have Ae:0≤(Aa:Int):=da_
         have Ac:Aa < (l0.length:Int):=da_
         obtain ⟨Aq,Ao,Am⟩:=Kd.at_int Bg.out Aa Ae Ac
         cases Ao
         replace Ae:=eq_true Ae
         replace Ac:=eq_true Ac
         have Ad:0≤(Aa:Int):=da_
         have Ab:Aa < (l1.length:Int):=da_
         obtain ⟨Ap,An,Al⟩:=Kd.at_int Bf.out Aa Ad Ab
         cases An
         replace Ad:=eq_true Ad
         replace Ab:=eq_true Ab
         have Ak:0≤(Aa:Int):=da_
         have Ai:Aa < (l0.length:Int):=da_
         obtain ⟨At,Ax,Av⟩:=Kd.at_int Bg.out Aa Ak Ai
         obtain rfl:Aq = At:=(by injection Ax)
         replace Ak:=eq_true Ak
         replace Ai:=eq_true Ai
         have Aj:0≤(Aa:Int):=da_
         have Ah:Aa < (l1.length:Int):=da_
         obtain ⟨As,Aw,Au⟩:=Kd.at_int Bf.out Aa Aj Ah
         obtain rfl:Ap = As:=(by injection Aw)
         replace Aj:=eq_true Aj
         replace Ah:=eq_true Ah
         go_wp2_with (first|(go_at_call 154;(with_reducible refine (cmp_Compare_uint32.calls (rd l0 Aa) (rd l1 Aa) Af _ A9.out).mono ?_);rintro e w' ⟨rfl,⟨nd,rfl⟩⟩;(try first|exact ⟨rfl,_,World.drewN_drewN _ _ _⟩|exact ⟨rfl,_,Eq.trans (World.drewN_drewN _ _ _) (congrArg (World.drewN _) (Nat.add_assoc _ _ _))⟩)))
         repeat (go_quiet (first|(go_at_call 154;(with_reducible refine (cmp_Compare_uint32.calls (rd l0 Aa) (rd l1 Aa) Af _ A9.out).mono ?_);rintro e w' ⟨rfl,⟨nd,rfl⟩⟩;(try first|exact ⟨rfl,_,World.drewN_drewN _ _ _⟩|exact ⟨rfl,_,Eq.trans (World.drewN_drewN _ _ _) (congrArg (World.drewN _) (Nat.add_assoc _ _ _))⟩)));try go_wp2_with (first|(go_at_call 154;(with_reducible refine (cmp_Compare_uint32.calls (rd l0 Aa) (rd l1 Aa) Af _ A9.out).mono ?_);rintro e w' ⟨rfl,⟨nd,rfl⟩⟩;(try first|exact ⟨rfl,_,World.drewN_drewN _ _ _⟩|exact ⟨rfl,_,Eq.trans (World.drewN_drewN _ _ _) (congrArg (World.drewN _) (Nat.add_assoc _ _ _))⟩))))
         go_ret
         exact ⟨by first|rfl|(simp;done)|(simp [*];done),by repeat (first|exact Drawn0.refl _|apply Drawn0.step)⟩
       ·rw [if_neg c7] at H
        exact absurd H sm_
      ·rw [if_neg c6] at H
       exact absurd H sm_
     ·rw [if_neg c5] at H
      exact absurd H sm_
    ·rw [if_neg c4] at H
     have Be:decide (0≤Aa) = false:=decide_eq_false c4
     clear c4
     obtain rfl:=Option.some.inj H
     go_wp2
     repeat (go_quiet (fail);try go_wp2)
     go_ret
     exact ⟨by first|rfl|(simp;done)|(simp [*];done),by repeat (first|exact Drawn0.refl _|apply Drawn0.step)⟩
 ·rw [if_neg c3] at H
  have Bb:((l0.length:Int) == (l1.length:Int)) = false:=beq_eq_false_iff_ne.mpr c3
  have Ba:((l0.length:Int) != (l1.length:Int)) = true:=bne_iff_ne.mpr c3
  have Ay:(l0.length == l1.length) = false:=by first|simpa using c3|(simp at c3 ⊢;omega)
  obtain ⟨Ag,Bh,H⟩:=bn_ H
  obtain rfl:=Option.some.inj H
  go_enter Tryz.func142,Tryz.ntmps142
  go_wp2_with (first|(go_at_call 153;(with_reducible refine (cmp_Compare_int.calls (l0.length:Int) (l1.length:Int) Ag _ Bh.out).mono ?_);rintro e w' ⟨rfl,⟨nd,rfl⟩⟩;(try first|exact ⟨rfl,_,World.drewN_drewN _ _ _⟩|exact ⟨rfl,_,Eq.trans (World.drewN_drewN _ _ _) (congrArg (World.drewN _) (Nat.add_assoc _ _ _))⟩)))
  repeat (go_quiet (first|(go_at_call 153;(with_reducible refine (cmp_Compare_int.calls (l0.length:Int) (l1.length:Int) Ag _ Bh.out).mono ?_);rintro e w' ⟨rfl,⟨nd,rfl⟩⟩;(try first|exact ⟨rfl,_,World.drewN_drewN _ _ _⟩|exact ⟨rfl,_,Eq.trans (World.drewN_drewN _ _ _) (congrArg (World.drewN _) (Nat.add_assoc _ _ _))⟩)));try go_wp2_with (first|(go_at_call 153;(with_reducible refine (cmp_Compare_int.calls (l0.length:Int) (l1.length:Int) Ag _ Bh.out).mono ?_);rintro e w' ⟨rfl,⟨nd,rfl⟩⟩;(try first|exact ⟨rfl,_,World.drewN_drewN _ _ _⟩|exact ⟨rfl,_,Eq.trans (World.drewN_drewN _ _ _) (congrArg (World.drewN _) (Nat.add_assoc _ _ _))⟩))))
  go_ret
  exact ⟨by first|rfl|(simp;done)|(simp [*];done),by repeat (first|exact Drawn0.refl _|apply Drawn0.step)⟩
set_option maxHeartbeats 8000000
set_option maxRecDepth 100000
def garboardref01_Cmp.l0:Nat→List Int→List Int→Int→Option (Int)
 | 0,_,_,_=>none
 | k + 1,x0,x1,x5=>if x5 ≥ 0 then (if 0≤x5 then (if x5 < (x0.length:Int) then (if x5 < (x1.length:Int) then (if (rd x0 x5) < (rd x1 x5) then (some (-1)) else (if (rd x0 x5) > (rd x1 x5) then (some 1) else (garboardref01_Cmp.l0 k x0 x1 (wrap64 (x5 - 1))))) else (none)) else (none)) else (none)) else (some 0)
def garboardref01_Cmp.f (k:Nat) (l0:List Int) (l1:List Int):Option (Int):=if (l0.length:Int) = (l1.length:Int) then (garboardref01_Cmp.l0 k l0 l1 (wrap64 ((l0.length:Int) - 1))) else (if (l0.length:Int) < (l1.length:Int) then (some (-1)) else (some 1))
set_option maxHeartbeats 8000000
set_option maxRecDepth 100000
def natural_num_small.f (l0:List Int):Option (Int × Bool):=if (l0.length:Int) = 0 then (some (0,true)) else (if (l0.length:Int) = 1 then (if 0 < (l0.length:Int) then (some (IntKind.u64.wrap (rd l0 0),true)) else (none)) else (if (l0.length:Int) = 2 then (if 0 < (l0.length:Int) then (if 1 < (l0.length:Int) then (some (IntKind.u64.wrap ((IntKind.u64.wrap (rd l0 0)) + (IntKind.u64.wrap (1000000000 * (IntKind.u64.wrap (rd l0 1))))),true)) else (none)) else (none)) else (some (0,false))))
theorem natural_num_small.calls (A0:Option Addr) (c0:Nat) (l0:List Int) (r1:Int) (r2:Bool) (w:World) (hr0:Kd.C (Kd.int .u32) w A0 l0.length l0) (hc0:l0.length≤c0) (h:natural_num_small.f l0 = some (r1,r2)) :
  Calls Tryz.prog 130 #[.slice A0 l0.length c0] w fun e w'=>e = .returned (.tuple #[.int .u64 r1,.bool r2])∧Drawn0 w w':=by
 have Ba:=Aside0.mk hr0
 have Bi:=Aside0.mk hc0
 clear hr0 hc0
 have H:=h;clear h;unfold natural_num_small.f at H
 by_cases c2:(l0.length:Int) = 0
 ·rw [if_pos c2] at H
  have Ax:((l0.length:Int) == 0) = true:=beq_iff_eq.mpr c2
  have Aw:((l0.length:Int) != 0) = false:=bne_eq_false_iff_eq.mpr c2
  clear c2
  simp only [Option.some.injEq,Prod.mk.injEq] at H
  obtain ⟨rfl,rfl⟩:=H
  go_enter Tryz.func130,Tryz.ntmps130
  go_wp2
  repeat (go_quiet (fail);try go_wp2)
  go_ret2
  exact ⟨by first|rfl|(simp;done)|(simp [*];done),by repeat (first|exact Drawn0.refl _|apply Drawn0.step)⟩
 ·rw [if_neg c2] at H
  have Ax:((l0.length:Int) == 0) = false:=beq_eq_false_iff_ne.mpr c2
  have Aw:((l0.length:Int) != 0) = true:=bne_iff_ne.mpr c2
  have Bh:¬ (l0 = []):=fun h_=>c2 (by rw [h_];rfl)
  by_cases c3:(l0.length:Int) = 1
  ·rw [if_pos c3] at H
   have Av:((l0.length:Int) == 1) = true:=beq_iff_eq.mpr c3
   have Au:((l0.length:Int) != 1) = false:=bne_eq_false_iff_eq.mpr c3
   clear c3
   by_cases c4:0 < (l0.length:Int)
   ·rw [if_pos c4] at H
    have Bg:decide (0 < (l0.length:Int)) = true:=decide_eq_true c4
    have Bf:decide (0 < l0.length) = true:=decide_eq_true (by omega)
    clear c4
    simp only [Option.some.injEq,Prod.mk.injEq] at H
    obtain ⟨rfl,rfl⟩:=H
    have Ai:0≤(0:Int):=(by omega)
    have Af:0 < (l0.length:Int):=da_
    obtain ⟨Ay,An,Ac⟩:=Kd.at_int Ba.out 0 Ai Af
    cases An
    have Aq:(0 < l0.length) = True:=eq_true (by omega)
    (try rw [show ((0:Int)).toNat = 0 from rfl] at Ac)
    (try rw [Addr.add_zero'] at Ac)
    replace Ai:=eq_true Ai
    replace Af:=eq_true Af
    go_enter Tryz.func130,Tryz.ntmps130
    go_wp2
    repeat (go_quiet (fail);try go_wp2)
    go_ret2
    exact ⟨by first|rfl|(simp;done)|(simp [*];done),by repeat (first|exact Drawn0.refl _|apply Drawn0.step)⟩
   ·rw [if_neg c4] at H
    exact absurd H sm_
  ·rw [if_neg c3] at H
   have Av:((l0.length:Int) == 1) = false:=beq_eq_false_iff_ne.mpr c3
   have Au:((l0.length:Int) != 1) = true:=bne_iff_ne.mpr c3
   by_cases c5:(l0.length:Int) = 2
   ·rw [if_pos c5] at H
    have At:((l0.length:Int) == 2) = true:=beq_iff_eq.mpr c5
    have As:((l0.length:Int) != 2) = false:=bne_eq_false_iff_eq.mpr c5
    clear c5
    by_cases c6:0 < (l0.length:Int)
    ·rw [if_pos c6] at H
     have Be:decide (0 < (l0.length:Int)) = true:=decide_eq_true c6
     have Bd:decide (0 < l0.length) = true:=decide_eq_true (by omega)
     clear c6
     by_cases c7:1 < (l0.length:Int)
     ·rw [if_pos c7] at H
      have Bc:decide (1 < (l0.length:Int)) = true:=decide_eq_true c7
      have Bb:decide (1 < l0.length) = true:=decide_eq_true (by omega)
      clear c7
      simp only [Option.some.injEq,Prod.mk.injEq] at H
      obtain ⟨rfl,rfl⟩:=H
      have Ah:0≤(0:Int):=(by omega)
      have Ae:0 < (l0.length:Int):=da_
      obtain ⟨Ak,Am,Ab⟩:=Kd.at_int Ba.out 0 Ah Ae
      cases Am
      have Ap:(0 < l0.length) = True:=eq_true (by omega)
      (try rw [show ((0:Int)).toNat = 0 from rfl] at Ab)
      (try rw [Addr.add_zero'] at Ab)
      replace Ah:=eq_true Ah
      replace Ae:=eq_true Ae
      have Ag:0≤(1:Int):=(by omega)
      have Ad:1 < (l0.length:Int):=da_
      obtain ⟨Aj,Al,Aa⟩:=Kd.at_int Ba.out 1 Ag Ad
      obtain rfl:Ak = Aj:=(by injection Al)
      (try simp only [show (1:Int).toNat = 1 from rfl,Nat.reduceMul,Nat.reduceEqDiff,Go.Addr.add,↓reduceIte] at Aa)
      have Ao:(1 < l0.length) = True:=eq_true (by omega)
      (try rw [show ((1:Int)).toNat = 1 from rfl] at Aa)
      replace Ag:=eq_true Ag
      replace Ad:=eq_true Ad
      go_enter Tryz.func130,Tryz.ntmps130
      go_wp2
      repeat (go_quiet (fail);try go_wp2)
      go_ret2
      exact ⟨by first|rfl|(simp;done)|(simp [*];done),by repeat (first|exact Drawn0.refl _|apply Drawn0.step)⟩
     ·rw [if_neg c7] at H
      exact absurd H sm_
    ·rw [if_neg c6] at H
     exact absurd H sm_
   ·rw [if_neg c5] at H
    have At:((l0.length:Int) == 2) = false:=beq_eq_false_iff_ne.mpr c5
    have As:((l0.length:Int) != 2) = true:=bne_iff_ne.mpr c5
    simp only [Option.some.injEq,Prod.mk.injEq] at H
    obtain ⟨rfl,rfl⟩:=H
    go_enter Tryz.func130,Tryz.ntmps130
    go_wp2
    repeat (go_quiet (fail);try go_wp2)
    go_ret2
    exact ⟨by first|rfl|(simp;done)|(simp [*];done),by repeat (first|exact Drawn0.refl _|apply Drawn0.step)⟩
set_option maxHeartbeats 8000000
set_option maxRecDepth 100000
def natural_of.f (k:Nat) (a0:Int):Option (List Int):=(natural_num_trim.f k (([(Int.tmod a0 1000000000) % 4294967296,(IntKind.u64.wrap (Int.tdiv a0 1000000000)) % 4294967296]:List Int))).bind fun t1032=>(some t1032)
theorem natural_of.calls (k:Nat) (a0:Int) (r:List Int) (w:World) (h:natural_of.f k a0 = some r) :
  Calls Tryz.prog 131 #[.int .u64 a0] w fun e w'=>∃ v0_:Value,e = .returned (v0_)∧Kd.V (Kd.int .u32) 101 w' w.heap.size (fun k_=>(w.heap.size≤k_)) v0_ r∧Below w.heap.size w w':=by
 have HB:=Aside0.mk (Below.refl w.heap.size w)
 have H:=h;clear h;unfold natural_of.f at H
 obtain ⟨y1029,hy1029⟩:∃ y_:List Int,y_ = (([(Int.tmod a0 1000000000) % 4294967296,(IntKind.u64.wrap (Int.tdiv a0 1000000000)) % 4294967296]:List Int)):=⟨_,rfl⟩
 replace H:((natural_num_trim.f k y1029).bind fun Ab=>(some Ab)) = some r:=by first|(rw [hy1029];with_reducible exact H)|(have Ag:=(Option.bind_some _ _).symm.trans H;rw [hy1029];with_reducible exact Ag)|(have Ag:=(Option.bind_some _ _).symm.trans H;with_reducible exact Ag)|with_reducible exact H|(rw [hy1029];exact H)|exact H
 have Ac:=Aside0.mk hy1029
 clear hy1029
 obtain ⟨Ab,A2,H⟩:=bn_ H
 obtain rfl:=Option.some.inj H
 go_enter Tryz.func131,Tryz.ntmps131
 go_wp2_with (first|((with_reducible refine gate_dst (N:=9) rfl ?_);refine Kd.R_lit (Kd.int .u32) _ 101 ?hg (N:=9) ?hd (xs:=([(Int.tmod a0 1000000000) % 4294967296,(IntKind.u64.wrap (Int.tdiv a0 1000000000)) % 4294967296]:List Int)) (inner:=[.int .u32 ((Int.tmod a0 1000000000) % 4294967296),.int .u32 ((IntKind.u64.wrap (Int.tdiv a0 1000000000)) % 4294967296)]) (ok:=fun _=>True) (okp:=fun _=>True) ?hr ?hp (fun _ hk=>hk) trivial (Below.refl _ _) (Nat.le_refl _) sm_ ?_;(case hd=>rfl);(case hg=>rfl);(case hr=>first|(go_simp;done)|(go_simp;rfl));(case hp=>exact (Reps.one (show Kd.M (Kd.int .u32) _ _ _ ((Int.tmod a0 1000000000) % 4294967296) [.int .u32 ((Int.tmod a0 1000000000) % 4294967296)] from rfl) (Reps.one (show Kd.M (Kd.int .u32) _ _ _ ((IntKind.u64.wrap (Int.tdiv a0 1000000000)) % 4294967296) [.int .u32 ((IntKind.u64.wrap (Int.tdiv a0 1000000000)) % 4294967296)] from rfl) (Reps.none _ _))));intro Ai w3 Ae hb Ao Af;clear Ao Af;(first|rw [← Ac.out] at Ae|(simp only [Int.reduceToNat] at Ae;rw [← Ac.out] at Ae));have Aa:=Aside0.mk (Kd.R_lower (Kd.R_newM (M:=fun k_=>(w.heap.size≤k_)) Ae (below_size bx_) (fun k_ h_=>h_)) (below_size bx_));replace HB:=bs_ hb;clear hb Ae;obtain ⟨Al,Ak,Ap⟩:=Kd.R_slice Aa.out;subst Ap)|((with_reducible refine gate_callee (f:=138) rfl ?_);refine gm_ (some 10) Tryz.func138 #[.slice Al y1029.length Ak] ?_;(with_reducible refine (natural_num_trim.calls k (fun k_=>some k_ = (.slice Al y1029.length Ak:Value).ownBlock) _ _ y1029 Ab _ ?side1 A2.out).mono ?_);(case side1=>exact Kd.R_V (Kd.R_tight rfl (Aa.out)));rintro e w6 ⟨Ah,rfl,Aj,hb⟩;refine ⟨_,rfl,?_⟩;have Ad:=Aside0.mk (Kd.V_lower (Kd.V_mono (ok':=fun k_=>(w.heap.size≤k_)) Aj (fun k_ hk_=>Or.elim hk_ (fun Am=>((Aa.out).1 k_ Am.symm).1) (fun An=>(Nat.le_trans (below_size bx_) An)))) (below_size bx_));replace Aa:=rb_ Aa hb;replace HB:=bs_ hb;(try clear hb);(try clear Aj)))
 go_ret
 exact ⟨_,rf_,by (with_reducible repeat (first|apply Kd.V_alloc|apply Kd.V_drewN|apply Kd.V_drew));exact Ad.out,bx_⟩
set_option maxHeartbeats 8000000
set_option maxRecDepth 100000
def natural_num_by.l0:Nat→List Int→Int→List Int→Int→Int→Option (List Int × List Int)
 | 0,_,_,_,_,_=>none
 | k + 1,x0,x1,x6,x7,x8=>if x8 ≥ 0 then (if 0≤x8 then (if x8 < (x0.length:Int) then (if x1 = 0 then (none) else (if x8 < (x6.length:Int) then (natural_num_by.l0 k x0 x1 (x6.set (x8:Int).toNat ((IntKind.u64.wrap (Int.tdiv (IntKind.u64.wrap ((IntKind.u64.wrap (x7 * 1000000000)) + (IntKind.u64.wrap (rd x0 x8)))) x1)) % 4294967296)) (Int.tmod (IntKind.u64.wrap ((IntKind.u64.wrap (x7 * 1000000000)) + (IntKind.u64.wrap (rd x0 x8)))) x1) (wrap64 (x8 - 1))) else (none))) else (none)) else (none)) else ((natural_num_trim.f k x6).bind fun t1050=>((natural_of.f k x7).bind fun t1053=>(some (t1050,t1053))))
def natural_num_by.f (k:Nat) (l0:List Int) (a1:Int):Option (List Int × List Int):=if 0≤(l0.length:Int) then (if ((l0.length:Int):Int).toNat≤70368744177664 then (natural_num_by.l0 k l0 a1 (List.replicate ((l0.length:Int):Int).toNat 0) 0 (wrap64 ((l0.length:Int) - 1))) else (none)) else (none)
theorem natural_num_by.calls (k:Nat) (A0:Option Addr) (c0:Nat) (l0:List Int) (a1:Int) (r1:List Int) (r2:List Int) (w:World) (hr0:Kd.C (Kd.int .u32) w A0 l0.length l0) (hc0:l0.length≤c0) (h:natural_num_by.f k l0 a1 = some (r1,r2)) :
  Calls Tryz.prog 143 #[.slice A0 l0.length c0,.int .u64 a1] w fun e w'=>∃ v0_ v1_:Value,e = .returned (.tuple #[v0_,v1_])∧Kd.V (Kd.int .u32) 101 w' w.heap.size (fun k_=>(w.heap.size≤k_)) v0_ r1∧Kd.V (Kd.int .u32) 101 w' w.heap.size (fun k_=>(w.heap.size≤k_)) v1_ r2∧Below w.heap.size w w':=by
 have Cj:=Aside0.mk hr0
 have Cp:=Aside0.mk hc0
 clear hr0 hc0
 have HB:=Aside0.mk (Below.refl w.heap.size w)
 have H:=h;clear h;unfold natural_num_by.f at H
 by_cases c3:0≤(l0.length:Int)
 ·rw [if_pos c3] at H
  have Bt:=eq_true c3
  have Br:decide (0≤(l0.length:Int)) = true:=decide_eq_true c3
  clear c3
  by_cases c4:((l0.length:Int):Int).toNat≤70368744177664
  ·rw [if_pos c4] at H
   have Bq:=eq_true c4
   have Bp:decide (((l0.length:Int):Int).toNat≤70368744177664) = true:=decide_eq_true c4
   clear c4
   obtain ⟨y1045,hy1045⟩:∃ y_:List Int,y_ = (List.replicate ((l0.length:Int):Int).toNat 0):=⟨_,rfl⟩
   replace H:(natural_num_by.l0 k l0 a1 y1045 0 (wrap64 ((l0.length:Int) - 1))) = some (r1,r2):=by first|(rw [hy1045];with_reducible exact H)|(have Ap:=(Option.bind_some _ _).symm.trans H;rw [hy1045];with_reducible exact Ap)|(have Ap:=(Option.bind_some _ _).symm.trans H;with_reducible exact Ap)|with_reducible exact H|(rw [hy1045];exact H)|exact H
   have Aj:=Aside0.mk hy1045
   clear hy1045
   have H':=Aside0.mk H
   clear H
   go_enter Tryz.func143,Tryz.ntmps143
   go_wp2_with (first|((with_reducible refine gate_dst (N:=11) rfl ?_);refine Kd.R_make (Kd.int .u32) _ 101 rfl (N:=11) rfl 161 _ _ rfl (l0.length:Int) rfl rfl Tryz.underlying161 (.int .u32 0) 4 info101 rfl de_ (by omega) 0 (ok:=fun _=>True) (okp:=fun _=>True) rfl (fun _ hk=>hk) trivial (of_decide_eq_true (by first|(with_reducible assumption)|assumption)) (Nat.le_trans (Nat.mul_le_mul_right _ (of_decide_eq_true (by first|(with_reducible assumption)|assumption):(l0.length:Int).toNat≤70368744177664)) (by omega)) (Below.refl _ _) (Nat.le_refl _) ?_;intro As w5 Av hb Cf Ax;clear Cf Ax;(first|rw [← Aj.out] at Av|(simp only [Int.reduceToNat] at Av;rw [← Aj.out] at Av));have Ao:=Aside0.mk (Kd.R_lower (Kd.R_newM (M:=fun k_=>(w.heap.size≤k_)) Av (below_size bx_) (fun k_ h_=>h_)) (below_size bx_));replace HB:=bs_ hb;clear hb Av))
   go_loopg [7,8] k (fun kq v7 v8 w'=>∃ (Ad:List Int) (Ac:Int) (Aa:Int),v7 = .int .u64 Ac∧v8 = .int .i64 Aa∧Aside0 (natural_num_by.l0 kq l0 a1 Ad Ac Aa = some (r1,r2))∧Aside0 (kq≤k)∧Aside0 (Kd.R (Kd.int .u32) 101 w' w.heap.size (fun k_=>(w.heap.size≤k_)) As Ad)∧Aside0 (Below w.heap.size w w'))
   case atStart=>exact ⟨(y1045),(0),(wrap64 ((l0.length:Int) - 1)),rg_,rg_,H',⟨Nat.le_refl _⟩,⟨by (with_reducible repeat (first|apply Kd.R_alloc|apply Kd.R_drewN|apply Kd.R_drew));exact Kd.R_mono Ao.out (fun _ hk=>hk.1)⟩,⟨bx_⟩⟩
   case round =>
    clear H'
    try clear c3
    try clear Bt
    try clear Br
    try clear c4
    try clear Bq
    try clear Bp
    obtain ⟨Ad,Ac,Aa,rfl,rfl,HA,Cb,Ab,HB⟩:=hrel
    cases gk with
    | zero=>exact absurd HA.out (by simp [natural_num_by.l0])
    | succ k1 =>
     have H:=HA.out
     clear HA
     simp only [natural_num_by.l0] at H
     by_cases c7:Aa ≥ 0
     ·rw [if_pos c7] at H
      have Bo:decide (0≤Aa) = true:=decide_eq_true c7
      clear c7
      by_cases c8:0≤Aa
      ·rw [if_pos c8] at H
       have Ci:decide (0≤Aa) = true:=decide_eq_true c8
       clear c8
       by_cases c9:Aa < (l0.length:Int)
       ·rw [if_pos c9] at H
        have Ch:decide (Aa < (l0.length:Int)) = true:=decide_eq_true c9
        clear c9
        by_cases Bf:a1 = 0
        ·rw [if_pos Bf] at H
         exact absurd H sm_
        ·rw [if_neg Bf] at H
         have Ca:(a1 == 0) = false:=beq_eq_false_iff_ne.mpr Bf
         have Bz:(a1 != 0) = true:=bne_iff_ne.mpr Bf
         by_cases Be:Aa < (Ad.length:Int)
         ·rw [if_pos Be] at H
          have By:decide (Aa < (Ad.length:Int)) = true:=decide_eq_true Be
          clear Be
          obtain ⟨y1049,hy1049⟩:∃ y_:List Int,y_ = (Ad.set (Aa:Int).toNat ((IntKind.u64.wrap (Int.tdiv (IntKind.u64.wrap ((IntKind.u64.wrap (Ac * 1000000000)) + (IntKind.u64.wrap (rd l0 Aa)))) a1)) % 4294967296)):=⟨_,rfl⟩
          replace H:(natural_num_by.l0 k1 l0 a1 y1049 (Int.tmod (IntKind.u64.wrap ((IntKind.u64.wrap (Ac * 1000000000)) + (IntKind.u64.wrap (rd l0 Aa)))) a1) (wrap64 (Aa - 1))) = some (r1,r2):=by first|(rw [hy1049];with_reducible exact H)|(have Ap:=(Option.bind_some _ _).symm.trans H;rw [hy1049];with_reducible exact Ap)|(have Ap:=(Option.bind_some _ _).symm.trans H;with_reducible exact Ap)|with_reducible exact H|(rw [hy1049];exact H)|exact H
          have Af:=Aside0.mk hy1049
          clear hy1049
          have H':=Aside0.mk H
          clear H
          have Ai:0≤(Aa:Int):=da_
          have Ah:Aa < (l0.length:Int):=da_
          obtain ⟨Bu,Bb,Ae⟩:=Kd.at_int Cj.out Aa Ai Ah
          cases Bb
          replace Ae:=(HB.out.cell (World.block_lt_of_cell? w _ Ae)).trans Ae
          replace Ai:=eq_true Ai
          replace Ah:=eq_true Ah
          have Bi:0≤(Aa:Int):=da_
          have Bh:(Aa:Int) < ((Ad.length:Int):Int):=da_
          obtain ⟨Ak,Bn,Ba,Ay,Bl,Cg,Bc⟩:=Kd.R_form Ab.out (by omega)
          (first|cases Ba|(injection Ba with ea_ en_ ec_;(first|subst ea_|(injection ea_ with ea_;subst ea_));subst ec_;clear en_))
          have Bd:=Aside0.mk Ay
          have Ck:=Aside0.mk Bc
          clear Ay Bl Bc
          obtain ⟨Bj,Bk⟩:=Kd.R_celln 0 Ab.out (Aa:Int) Bi Bh
          replace Bi:=eq_true Bi
          replace Bh:=eq_true Bh
          have Am:=Kd.R_putg Ab.out (Aa:Int) ((IntKind.u64.wrap (Int.tdiv (IntKind.u64.wrap ((IntKind.u64.wrap (Ac * 1000000000)) + (IntKind.u64.wrap (rd l0 Aa)))) a1)) % 4294967296)
          go_wp2_with (first|((with_reducible refine gate_store (t:=101) (p:=33) rfl ?_);refine store_event (t:=101) (p:=33) (v:=?vo_w14) (w1:=(wr.setCell ⟨Ak,(Aa:Int).toNat,none⟩ (.int .u32 ((IntKind.u64.wrap (Int.tdiv (IntKind.u64.wrap ((IntKind.u64.wrap (Ac * 1000000000)) + (IntKind.u64.wrap (rd l0 Aa)))) a1)) % 4294967296)))) ?hg ?ho ?hn ?hr ?_;(case ho=>rfl);(case hg=>rfl);(case hn=>rfl);(case hr=>first|(go_simp;done)|(go_simp;rfl));intro Bg hw;have hg:wr.grownBy Bg (some Ak):=(by rw [hw];exact Am.2);have Bx:Kd.R (Kd.int .u32) 101 Bg w.heap.size (fun k_=>(w.heap.size≤k_)) (.slice (some ⟨Ak,0,none⟩) Ad.length Bn) y1049:=(by rw [hw,Af.out];exact Am.1);clear Am;replace Ab:=Aside0.mk Bx;replace HB:=Aside0.mk ((by rw [hw];exact below_set (HB.out) Bd.out:Below w.heap.size w Bg));clear hg hw Bx))
          go_roundg k1
          case measure=>have:=Cb.out;omega
          case rel=>exact ⟨(y1049),(Int.tmod (IntKind.u64.wrap ((IntKind.u64.wrap (Ac * 1000000000)) + (IntKind.u64.wrap (rd l0 Aa)))) a1),(wrap64 (Aa - 1)),rg_,rg_,H',⟨by have:=Cb.out;omega⟩,⟨by (with_reducible repeat (first|apply Kd.R_alloc|apply Kd.R_drewN|apply Kd.R_drew));first|exact Ab.out|(rw [Af.out];exact (Kd.R_putg (by first|exact Kd.R_drewN Ab.out _|(apply Kd.R_drewN;exact Ab.out)) (Aa:Int) ((IntKind.u64.wrap (Int.tdiv (IntKind.u64.wrap ((IntKind.u64.wrap (Ac * 1000000000)) + (IntKind.u64.wrap (rd l0 Aa)))) a1)) % 4294967296)).1)|(rw [Af.out];exact (Kd.R_putg Ab.out (Aa:Int) ((IntKind.u64.wrap (Int.tdiv (IntKind.u64.wrap ((IntKind.u64.wrap (Ac * 1000000000)) + (IntKind.u64.wrap (rd l0 Aa)))) a1)) % 4294967296)).1)⟩,⟨by first|(exact below_set bx_ Bd.out)|(repeat (first|(with_reducible first|exact HB.out|apply below_alloc|apply pw_below_drewN|apply below_drew1)|exact HB.out))⟩⟩
         ·rw [if_neg Be] at H
          exact absurd H sm_
       ·rw [if_neg c9] at H
        exact absurd H sm_
      ·rw [if_neg c8] at H
       exact absurd H sm_
     ·rw [if_neg c7] at H
      have Bo:decide (0≤Aa) = false:=decide_eq_false c7
      clear c7
      obtain ⟨Au,Cm,H⟩:=bn_ H
      obtain ⟨At,Cl,H⟩:=bn_ H
      simp only [Option.some.injEq,Prod.mk.injEq] at H
      obtain ⟨rfl,rfl⟩:=H
      obtain ⟨Aq,Al,Bm⟩:=Kd.R_slice Ab.out
      subst Bm
      go_wp2_with (first|((with_reducible refine gate_callee (f:=138) rfl ?_);refine gm_ (some 38) Tryz.func138 #[.slice Aq Ad.length Al] ?_;(with_reducible refine (natural_num_trim.calls k1 (fun k_=>some k_ = (.slice Aq Ad.length Al:Value).ownBlock) _ _ Ad Au _ ?side1 Cm.out).mono ?_);(case side1=>exact Kd.R_V (Kd.R_tight rfl (Ab.out)));rintro e Co ⟨Bw,rfl,Aw,hb⟩;refine ⟨_,rfl,?_⟩;have Ag:=Aside0.mk (Kd.V_lower (Kd.V_mono (ok':=fun k_=>(w.heap.size≤k_)) Aw (fun k_ hk_=>Or.elim hk_ (fun Cc=>((Ab.out).1 k_ Cc.symm)) (fun Ce=>(Nat.le_trans (below_size bx_) Ce)))) (below_size bx_));replace Ab:=rb_ Ab hb;replace HB:=bs_ hb;(try clear hb);(try clear Aw))|((with_reducible refine gate_callee (f:=131) rfl ?_);refine gm_ (some 40) Tryz.func131 #[.int .u64 Ac] ?_;(with_reducible refine (natural_of.calls k1 Ac At _ Cl.out).mono ?_);rintro e Cn ⟨Bv,rfl,Aw,hb⟩;refine ⟨_,rfl,?_⟩;have An:=Aside0.mk (Kd.V_lower (Kd.V_mono (ok':=fun k_=>(w.heap.size≤k_)∧some k_≠(.slice Aq Ad.length Al:Value).ownBlock) Aw (fun k_ hk_=>⟨(Nat.le_trans (below_size bx_) hk_),(Kd.fresh' (Kd.R_lt (by (with_reducible repeat (first|apply Kd.R_alloc|apply Kd.R_drewN|apply Kd.R_drew));exact Ab.out)) k_ hk_)⟩)) (below_size bx_));replace Ab:=rb_ Ab hb;replace Ag:=vb_ Ag hb;replace HB:=bs_ hb;(try clear hb);(try clear Aw)))
      go_ret2
      exact ⟨_,_,rf_,by (with_reducible repeat (first|apply Kd.V_alloc|apply Kd.V_drewN|apply Kd.V_drew));exact Ag.out,by (with_reducible repeat (first|apply Kd.V_alloc|apply Kd.V_drewN|apply Kd.V_drew));exact Kd.V_mono An.out (fun _ hk=>hk.1),bx_⟩
  ·rw [if_neg c4] at H
   exact absurd H sm_
 ·rw [if_neg c3] at H
  exact absurd H sm_
set_option maxHeartbeats 8000000
set_option maxRecDepth 100000
def garboardref01_small.l0:Nat→List Int→Int→List Int→Int→Int→Option (List Int × Int)
 | 0,_,_,_,_,_=>none
 | k + 1,x0,x1,x6,x7,x8=>if x8 ≥ 0 then (if 0≤x8 then (if x8 < (x0.length:Int) then (if (IntKind.u64.wrap (x1)) = 0 then (none) else (if x8 < (x6.length:Int) then (garboardref01_small.l0 k x0 x1 (x6.set (x8:Int).toNat ((IntKind.u64.wrap (Int.tdiv (IntKind.u64.wrap ((IntKind.u64.wrap (x7 * 1000000000)) + (IntKind.u64.wrap (rd x0 x8)))) (IntKind.u64.wrap (x1)))) % 4294967296)) (Int.tmod (IntKind.u64.wrap ((IntKind.u64.wrap (x7 * 1000000000)) + (IntKind.u64.wrap (rd x0 x8)))) (IntKind.u64.wrap (x1))) (wrap64 (x8 - 1))) else (none))) else (none)) else (none)) else ((garboardref01_trim.f k x6).bind fun t525=>(some (t525,(x7) % 4294967296)))
def garboardref01_small.f (k:Nat) (l0:List Int) (a1:Int):Option (List Int × Int):=if 0≤(l0.length:Int) then (if ((l0.length:Int):Int).toNat≤70368744177664 then (garboardref01_small.l0 k l0 a1 (List.replicate ((l0.length:Int):Int).toNat 0) 0 (wrap64 ((l0.length:Int) - 1))) else (none)) else (none)
set_option maxHeartbeats 8000000
set_option maxRecDepth 100000
def garboardref01_word.l0:Nat→List Int→Int→Int→Option (Int)
 | 0,_,_,_=>none
 | k + 1,x0,x3,x4=>if x4 ≥ 0 then (if 0≤x4 then (if x4 < (x0.length:Int) then (garboardref01_word.l0 k x0 (IntKind.u64.wrap ((IntKind.u64.wrap (x3 * 1000000000)) + (IntKind.u64.wrap (rd x0 x4)))) (wrap64 (x4 - 1))) else (none)) else (none)) else (some x3)
def garboardref01_word.f (k:Nat) (l0:List Int):Option (Int):=garboardref01_word.l0 k l0 0 (wrap64 ((l0.length:Int) - 1))
set_option maxHeartbeats 8000000
set_option maxRecDepth 100000
def garboardref01_wide.f (k:Nat) (a0:Int):Option (List Int):=(garboardref01_trim.f k (([(Int.tmod a0 1000000000) % 4294967296,(Int.tmod (IntKind.u64.wrap (Int.tdiv a0 1000000000)) 1000000000) % 4294967296,(IntKind.u64.wrap (Int.tdiv (IntKind.u64.wrap (Int.tdiv a0 1000000000)) 1000000000)) % 4294967296]:List Int))).bind fun t517=>(some t517)
open Go.Proofs.YtcmbggahndfnnaaGreatDoor.NatTh
theorem w64 {x:Int} (h0:-9223372036854775808≤x) (h:x < 9223372036854775808):wrap64 x = x:=by unfold wrap64;omega
theorem u64w {x:Int} (h0:0≤x) (h:x < 18446744073709551616):IntKind.u64.wrap x = x:=by rw [IntKind.wrap_u64];omega
theorem rd_eq (l:List Int) (n:Nat):rd l (n:Int) = l.getD n 0:=by unfold rd;rw [Int.toNat_natCast]
theorem rd_last (a:List Int) (w:Int):rd (a ++ [w]) (a.length:Int) = w:=by rw [rd_eq];simp
theorem trim_k:∀ (n:Nat) (l:List Int),l.length = n→n < 1152921504606846976→∀ k,n < k→natural_num_trim.l0 k l = some (trimL l)∧garboardref01_trim.l0 k l = some (trimL l):=by
 intro n
 induction n with
 | zero =>
  intro l hl _ k hk
  obtain ⟨k,rfl⟩:∃ m,k = m + 1:=⟨k - 1,by omega⟩
  have:l = []:=List.eq_nil_of_length_eq_zero hl
  subst this
  constructor
  ·simp only [natural_num_trim.l0]
   rw [if_neg (by simp)]
   rfl
  ·simp only [garboardref01_trim.l0]
   rw [if_neg (by simp)]
   rfl
 | succ n ih =>
  intro l hl hb k hk
  obtain ⟨k,rfl⟩:∃ m,k = m + 1:=⟨k - 1,by omega⟩
  rcases snoc_cases l with rfl|⟨a,w,rfl⟩
  ·simp at hl
  ·have ha:a.length = n:=by simpa using hl
   have hL:(((a ++ [w]).length:Nat):Int) = a.length + 1:=by simp
   have hw:wrap64 ((a.length:Int) + 1 - 1) = a.length:=by rw [w64 (by omega) (by omega)];omega
   obtain ⟨h1,h2⟩:=ih a ha (by omega) k (by omega)
   constructor
   ·simp only [natural_num_trim.l0]
    rw [hL,hw,if_pos (by omega),if_pos (by omega),if_pos (by omega),rd_last]
    by_cases e:w = 0
    ·subst e
     rw [if_pos rfl,if_pos (by omega),Int.toNat_natCast,List.take_left' rfl,trimL_snoc_zero]
     exact h1
    ·rw [if_neg e,trimL_snoc a w e]
   ·simp only [garboardref01_trim.l0]
    rw [hL,hw,if_pos (by omega),if_pos (by omega),if_pos (by omega),rd_last]
    by_cases e:w = 0
    ·subst e
     rw [if_pos rfl,if_pos (by omega),Int.toNat_natCast,List.take_left' rfl,trimL_snoc_zero]
     exact h2
    ·rw [if_neg e,trimL_snoc a w e]
def Ok (l:List Int):Prop:=l.length≤1099511627776
theorem trim_ev {l:List Int} (h:l.length < 1152921504606846976):Ev (fun k=>natural_num_trim.f k l) (trimL l):=⟨l.length + 1,fun k hk=>(trim_k _ l rfl h k (by omega)).1⟩
theorem rtrim_ev {l:List Int} (h:l.length < 1152921504606846976):Ev (fun k=>garboardref01_trim.f k l) (trimL l):=⟨l.length + 1,fun k hk=>(trim_k _ l rfl h k (by omega)).2⟩
theorem cmp32 (a b:Int):cmp_Compare_uint32.f a b = some (if a < b then -1 else if b < a then 1 else 0):=by
 unfold cmp_Compare_uint32.f cmp_isNaN_uint32.f
 simp only [bne_self_eq_false,Option.bind_some,Bool.false_eq_true,if_false]
 by_cases h:a < b
 ·rw [if_pos h,if_pos h]
 ·rw [if_neg h,if_neg h]
  by_cases h2:b < a
  ·rw [if_pos h2,if_pos h2]
  ·rw [if_neg h2,if_neg h2]
theorem cmp64 (a b:Int):cmp_Compare_int.f a b = some (if a < b then -1 else if b < a then 1 else 0):=by
 unfold cmp_Compare_int.f cmp_isNaN_int.f
 simp only [bne_self_eq_false,Option.bind_some,Bool.false_eq_true,if_false]
 by_cases h:a < b
 ·rw [if_pos h,if_pos h]
 ·rw [if_neg h,if_neg h]
  by_cases h2:b < a
  ·rw [if_pos h2,if_pos h2]
  ·rw [if_neg h2,if_neg h2]
def cmpV (a b:Int):Int:=if a < b then -1 else if b < a then 1 else 0
theorem cmp_loop (x y:List Int) (hx:Wd x) (hy:Wd y) (hl:x.length = y.length) (hb:x.length < 1152921504606846976):∀ (n:Nat),n≤x.length→x.drop n = y.drop n→∀ k,n < k →
  natural_num_compare.l0 k x y ((n:Int) - 1) = some (cmpV (val x) (val y))∧garboardref01_Cmp.l0 k x y ((n:Int) - 1) = some (cmpV (val x) (val y)):=by
 intro n
 induction n with
 | zero =>
  intro _ hd k hk
  obtain ⟨k,rfl⟩:∃ m,k = m + 1:=⟨k - 1,by omega⟩
  simp only [List.drop_zero] at hd
  subst hd
  have e:cmpV (val x) (val x) = 0:=by unfold cmpV;simp
  rw [e]
  constructor
  ·simp only [natural_num_compare.l0]
   rw [if_neg (by omega)]
  ·simp only [garboardref01_Cmp.l0]
   rw [if_neg (by omega)]
 | succ n ih =>
  intro hn hd k hk
  obtain ⟨k,rfl⟩:∃ m,k = m + 1:=⟨k - 1,by omega⟩
  have e1:(((n + 1:Nat):Int) - 1) = n:=by omega
  have e2:wrap64 ((n:Int) - 1) = (n:Int) - 1:=w64 (by omega) (by omega)
  rw [e1]
  have hlt:=fun h=>lt_of_word hx hy hl (show n < x.length by omega) hd h
  have hgt:=fun h=>lt_of_word hy hx hl.symm (show n < y.length by omega) hd.symm h
  have he:=fun h=>drop_eq_of hl (show n < x.length by omega) hd h
  constructor
  ·simp only [natural_num_compare.l0]
   rw [if_pos (by omega),if_pos (by omega),if_pos (by omega),if_pos (by omega),rd_eq,rd_eq,e2,cmp32]
   by_cases h:x.getD n 0 = y.getD n 0
   ·rw [if_pos h]
    exact (ih (by omega) (he h) k (by omega)).1
   ·rw [if_neg h]
    simp only [Option.bind_some]
    congr 1
    unfold cmpV
    by_cases h1:x.getD n 0 < y.getD n 0
    ·rw [if_pos h1,if_pos (hlt h1)]
    ·have h2:y.getD n 0 < x.getD n 0:=by omega
     have h3:=hgt h2
     rw [if_neg h1,if_pos h2,if_neg (by omega),if_pos h3]
  ·simp only [garboardref01_Cmp.l0]
   rw [if_pos (by omega),if_pos (by omega),if_pos (by omega),if_pos (by omega),rd_eq,rd_eq,e2]
   unfold cmpV
   by_cases h1:x.getD n 0 < y.getD n 0
   ·rw [if_pos h1,if_pos (hlt h1)]
   ·rw [if_neg h1]
    by_cases h2:x.getD n 0 > y.getD n 0
    ·have h3:=hgt h2
     rw [if_pos h2,if_neg (by omega),if_pos h3]
    ·rw [if_neg h2]
     exact (ih (by omega) (he (by omega)) k (by omega)).2
theorem compare_ev (a b:Nat) (ha:Ok (numOf a)) (hb:Ok (numOf b)):Ev (fun k=>natural_num_compare.f k (numOf a) (numOf b)) (ord a b)∧Ev (fun k=>garboardref01_Cmp.f k (numOf a) (numOf b)) (ord a b):=by
 unfold Ok at ha hb
 have hc:cmpV (val (numOf a)) (val (numOf b)) = ord a b:=by
  rw [val_numOf,val_numOf]
  unfold cmpV ord
  by_cases h1:a < b
  ·rw [if_pos h1,if_pos (by omega)]
  ·rw [if_neg h1,if_neg (by omega)]
   by_cases h2:b < a
   ·rw [if_pos h2,if_pos (by omega)]
   ·rw [if_neg h2,if_neg (by omega)]
 by_cases hl:(numOf a).length = (numOf b).length
 ·have h:=fun k hk=>cmp_loop (numOf a) (numOf b) (num_numOf a).1 (num_numOf b).1 hl (by omega) (numOf a).length (Nat.le_refl _) (by rw [List.drop_length,hl,List.drop_length]) k hk
  rw [hc] at h
  constructor
  ·refine ⟨(numOf a).length + 1,fun k hk=>?_⟩
   simp only [natural_num_compare.f]
   rw [if_pos (by omega),w64 (by omega) (by omega)]
   exact (h k (by omega)).1
  ·refine ⟨(numOf a).length + 1,fun k hk=>?_⟩
   simp only [garboardref01_Cmp.f]
   rw [if_pos (by omega),w64 (by omega) (by omega)]
   exact (h k (by omega)).2
 ·have key:ord a b = if ((numOf a).length:Int) < ((numOf b).length:Int) then -1 else 1:=by
   unfold ord
   by_cases h1:(numOf a).length < (numOf b).length
   ·rw [if_pos (lt_of_len h1),if_pos (by omega)]
   ·have h2:=lt_of_len (show (numOf b).length < (numOf a).length by omega)
    rw [if_neg (by omega),if_pos h2,if_neg (by omega)]
  constructor
  ·refine ⟨0,fun k hk=>?_⟩
   simp only [natural_num_compare.f]
   rw [if_neg (by omega),cmp64,key]
   simp only [Option.bind_some]
   by_cases h1:((numOf a).length:Int) < ((numOf b).length:Int)
   ·rw [if_pos h1,if_pos h1]
   ·rw [if_neg h1,if_pos (by omega),if_neg h1]
  ·refine ⟨0,fun k hk=>?_⟩
   simp only [garboardref01_Cmp.f]
   rw [if_neg (by omega),key]
   by_cases h1:((numOf a).length:Int) < ((numOf b).length:Int)
   ·rw [if_pos h1,if_pos h1]
   ·rw [if_neg h1,if_neg h1]
theorem BB:B = 1000000000:=rfl
theorem small_eq (a:Nat):natural_num_small.f (numOf a) = some (if (numOf a).length≤2 then ((a:Int),true) else (0,false)):=by
 have hv:=val_numOf a
 have hw:=(num_numOf a).1
 have h0:=hw.getD 0
 have h1:=hw.getD 1
 rw [BB] at h0 h1
 unfold natural_num_small.f
 by_cases e0:(numOf a).length = 0
 ·have:a = 0:=numOf_nil.1 (List.eq_nil_of_length_eq_zero e0)
  rw [if_pos (by omega),if_pos (by omega),this]
  rfl
 ·rw [if_neg (by omega)]
  by_cases e1:(numOf a).length = 1
  ·rw [if_pos (by omega),if_pos (by omega),if_pos (by omega)]
   have e:=val_one _ e1
   rw [show (0:Int) = ((0:Nat):Int) from rfl,rd_eq,← e,hv,u64w (by omega) (by omega)]
  ·rw [if_neg (by omega)]
   by_cases e2:(numOf a).length = 2
   ·rw [if_pos (by omega),if_pos (by omega),if_pos (by omega),if_pos (by omega)]
    have e:=val_two _ e2
    rw [BB] at e
    rw [show rd (numOf a) 0 = (numOf a).getD 0 0 from rd_eq _ 0,show rd (numOf a) 1 = (numOf a).getD 1 0 from rd_eq _ 1]
    rw [u64w h0.1 (by omega),u64w h1.1 (by omega),u64w (x:=1000000000 * (numOf a).getD 1 0) (by omega) (by omega),u64w (by omega) (by omega),← e,hv]
   ·rw [if_neg (by omega),if_neg (by omega)]
theorem wd2 {x y:Int} (hx:0≤x∧x < 1000000000) (hy:0≤y∧y < 1000000000):Wd [x,y]:=Wd.cons hx (Wd.cons hy Wd.nil)
theorem of_ev (a:Nat) (h:a < 1000000000000000000):Ev (fun k=>natural_of.f k a) (numOf a):=by
 have e1:Int.tmod (a:Int) 1000000000 = (a:Int) % 1000000000:=Int.tmod_eq_emod_of_nonneg (by omega)
 have e2:Int.tdiv (a:Int) 1000000000 = (a:Int) / 1000000000:=Int.tdiv_eq_ediv_of_nonneg (by omega)
 have ew:Wd [(a:Int) % 1000000000,(a:Int) / 1000000000]:=wd2 (by omega) (by omega)
 have ev:val [(a:Int) % 1000000000,(a:Int) / 1000000000] = a:=by
  simp only [val,BB]
  omega
 have h1:=trim_ev (l:=[(a:Int) % 1000000000,(a:Int) / 1000000000]) (by simp)
 rw [trim_numOf ew ev] at h1
 refine Ev.congr (f:=fun k=>(natural_num_trim.f k [(a:Int) % 1000000000,(a:Int) / 1000000000]).bind fun t=>some t) (fun k=>?_) (Ev.bind h1 (Ev.now _))
 simp only [natural_of.f]
 rw [e1,e2,u64w (by omega) (by omega),Int.emod_eq_of_lt (show (0:Int)≤(a:Int) % 1000000000 by omega) (by omega),Int.emod_eq_of_lt (show (0:Int)≤(a:Int) / 1000000000 by omega) (by omega)]
theorem wide_ev (a:Nat) (h:a < 18446744073709551616):Ev (fun k=>garboardref01_wide.f k a) (numOf a):=by
 have e1:Int.tmod (a:Int) 1000000000 = (a:Int) % 1000000000:=Int.tmod_eq_emod_of_nonneg (by omega)
 have e2:Int.tdiv (a:Int) 1000000000 = (a:Int) / 1000000000:=Int.tdiv_eq_ediv_of_nonneg (by omega)
 have e3:Int.tmod ((a:Int) / 1000000000) 1000000000 = (a:Int) / 1000000000 % 1000000000:=Int.tmod_eq_emod_of_nonneg (by omega)
 have e4:Int.tdiv ((a:Int) / 1000000000) 1000000000 = (a:Int) / 1000000000 / 1000000000:=Int.tdiv_eq_ediv_of_nonneg (by omega)
 have ew:Wd [(a:Int) % 1000000000,(a:Int) / 1000000000 % 1000000000,(a:Int) / 1000000000 / 1000000000]:=Wd.cons (by unfold B;omega) (wd2 (by omega) (by omega))
 have ev:val [(a:Int) % 1000000000,(a:Int) / 1000000000 % 1000000000,(a:Int) / 1000000000 / 1000000000] = a:=by
  simp only [val,BB]
  omega
 have h1:=rtrim_ev (l:=[(a:Int) % 1000000000,(a:Int) / 1000000000 % 1000000000,(a:Int) / 1000000000 / 1000000000]) (by simp)
 rw [trim_numOf ew ev] at h1
 refine Ev.congr (f:=fun k=>(garboardref01_trim.f k [(a:Int) % 1000000000,(a:Int) / 1000000000 % 1000000000,(a:Int) / 1000000000 / 1000000000]).bind fun t=>some t) (fun k=>?_) (Ev.bind h1 (Ev.now _))
 simp only [garboardref01_wide.f]
 rw [e1,e2,u64w (x:=(a:Int) / 1000000000) (by omega) (by omega),e3,e4,u64w (by omega) (by omega),Int.emod_eq_of_lt (show (0:Int)≤(a:Int) % 1000000000 by omega) (by omega),Int.emod_eq_of_lt (show (0:Int)≤(a:Int) / 1000000000 % 1000000000 by omega) (by omega),Int.emod_eq_of_lt (show (0:Int)≤(a:Int) / 1000000000 / 1000000000 by omega) (by omega)]
theorem word_loop (x:List Int) (hx:Wd x) (hv:val x < 18446744073709551616) (hb:x.length < 1152921504606846976):∀ (n:Nat),n≤x.length→∀ k,n < k→garboardref01_word.l0 k x (val (x.drop n)) ((n:Int) - 1) = some (val x):=by
 intro n
 induction n with
 | zero =>
  intro _ k hk
  obtain ⟨k,rfl⟩:∃ m,k = m + 1:=⟨k - 1,by omega⟩
  simp only [garboardref01_word.l0]
  rw [if_neg (by omega)]
  simp
 | succ n ih =>
  intro hn k hk
  obtain ⟨k,rfl⟩:∃ m,k = m + 1:=⟨k - 1,by omega⟩
  have e1:(((n + 1:Nat):Int) - 1) = n:=by omega
  have hd:=val_drop_succ x n (by omega)
  have hnn:=val_drop_nn hx (n + 1)
  have hle:val (x.drop n)≤val x:=by
   have h1:=val_split x n (by omega)
   have h2:=val_take_nn hx n
   have h3:=val_drop_nn hx n
   have h4:1 * val (x.drop n)≤B ^ n * val (x.drop n):=Int.mul_le_mul_of_nonneg_right (by have:=Bpow_pos n;omega) h3
   omega
  have hg:=hx.getD n
  rw [BB] at hd hg
  simp only [garboardref01_word.l0]
  rw [e1,if_pos (by omega),if_pos (by omega),if_pos (by omega),rd_eq,w64 (x:=(n:Int) - 1) (by omega) (by omega),u64w (x:=val (x.drop (n + 1)) * 1000000000) (by omega) (by omega),u64w (x:=x.getD n 0) (by omega) (by omega),u64w (by omega) (by omega),show val (x.drop (n + 1)) * 1000000000 + x.getD n 0 = val (x.drop n) by omega]
  exact ih (by omega) k (by omega)
theorem word_ev (a:Nat) (h:a < 18446744073709551616) (ho:Ok (numOf a)):Ev (fun k=>garboardref01_word.f k (numOf a)) (a:Int):=by
 unfold Ok at ho
 refine ⟨(numOf a).length + 1,fun k hk=>?_⟩
 have h1:=word_loop (numOf a) (num_numOf a).1 (by rw [val_numOf];omega) (by omega) (numOf a).length (Nat.le_refl _) k (by omega)
 rw [List.drop_length,val_numOf] at h1
 simp only [garboardref01_word.f]
 rw [w64 (by omega) (by omega)]
 exact h1
theorem drop_set_self (l:List Int) (n:Nat) (w:Int) (h:n < l.length):(l.set n w).drop n = w :: l.drop (n + 1):=by
 rw [List.drop_eq_getElem_cons (by rw [List.length_set];exact h),drop_set_succ]
 simp
theorem by_step (x:List Int) (n:Nat) (w r d:Int) (hx:Wd x) (hn:n < x.length) (hw:0 < w) (hr:r = val (x.drop (n + 1)) % w) :
  (r * 1000000000 + x.getD n 0) / w = val (x.drop n) / w - B * (val (x.drop (n + 1)) / w)∧(r * 1000000000 + x.getD n 0) % w = val (x.drop n) % w∧0≤(r * 1000000000 + x.getD n 0) / w∧(r * 1000000000 + x.getD n 0) / w < 1000000000∧0≤r∧r < w:=by
 have hd:=val_drop_succ x n hn
 have hg:=hx.getD n
 have h1:=Int.mul_ediv_add_emod (val (x.drop (n + 1))) w
 have h0:=Int.emod_nonneg (val (x.drop (n + 1))) (Int.ne_of_gt hw)
 have h2:=Int.emod_lt_of_pos (val (x.drop (n + 1))) hw
 rw [← hr] at h0 h1 h2
 rw [BB] at *
 generalize val (x.drop (n + 1)) / w = Q at *
 have e:val (x.drop n) = (r * 1000000000 + x.getD n 0) + w * (1000000000 * Q):=by
  rw [hd,← h1,Int.mul_add,← Int.mul_assoc w,Int.mul_comm w 1000000000,Int.mul_assoc]
  omega
 rw [e,Int.add_mul_ediv_left _ _ (Int.ne_of_gt hw),Int.add_mul_emod_self_left]
 refine ⟨by omega,rfl,Int.ediv_nonneg (by omega) (by omega),?_,h0,h2⟩
 refine Int.ediv_lt_of_lt_mul hw ?_
 omega
structure ByI (x out:List Int) (w:Int) (n:Nat):Prop where
 wd:Wd out
 len:out.length = x.length
 eq:val (out.drop n) = val (x.drop n) / w
theorem ByI.step {x out:List Int} {w:Int} {n:Nat} (h:ByI x out w (n + 1)) (hx:Wd x) (hn:n < x.length) (hw:0 < w) :
  ByI x (out.set n ((val (x.drop (n + 1)) % w * 1000000000 + x.getD n 0) / w)) w n:=by
 obtain ⟨h1,h2,h3,h4,h5,h6⟩:=by_step x n w _ 0 hx hn hw rfl
 refine ⟨h.wd.set n ⟨h3,by rw [BB];exact h4⟩,by rw [List.length_set];exact h.len,?_⟩
 rw [drop_set_self _ _ _ (by rw [h.len];exact hn),val,h.eq,h1]
 omega
theorem by_loop (x:List Int) (w:Int) (hx:Wd x) (hw:0 < w) (hw2:w≤4294967295) (hb:x.length < 1152921504606846976):∀ (n:Nat),n≤x.length→∀ (out:List Int),ByI x out w n→∃ out',ByI x out' w 0 ∧
  (∀ k,n≤k→natural_num_by.l0 (k + 1) x w out (val (x.drop n) % w) ((n:Int) - 1) = natural_num_by.l0 (k + 1 - n) x w out' (val x % w) (-1)) ∧
  (∀ k,n≤k→garboardref01_small.l0 (k + 1) x w out (val (x.drop n) % w) ((n:Int) - 1) = garboardref01_small.l0 (k + 1 - n) x w out' (val x % w) (-1)):=by
 intro n
 induction n with
 | zero =>
  intro _ out h
  exact ⟨out,h,fun k _=>by rw [Nat.sub_zero];rfl,fun k _=>by rw [Nat.sub_zero];rfl⟩
 | succ n ih =>
  intro hn out h
  obtain ⟨out',h',e1,e2⟩:=ih (by omega) _ (h.step hx (by omega) hw)
  obtain ⟨h1,h2,h3,h4,h5,h6⟩:=by_step x n w _ 0 hx (by omega) hw rfl
  have hl:=h.len
  have hg:=hx.getD n
  rw [BB] at hg
  have ew:IntKind.u64.wrap w = w:=u64w (by omega) (by omega)
  have en:(((n + 1:Nat):Int) - 1) = n:=by omega
  have em:wrap64 ((n:Int) - 1) = (n:Int) - 1:=w64 (by omega) (by omega)
  generalize val (x.drop (n + 1)) % w = r at *
  have eu:IntKind.u64.wrap (IntKind.u64.wrap (r * 1000000000) + IntKind.u64.wrap (x.getD n 0)) = r * 1000000000 + x.getD n 0:=by
   rw [u64w (x:=r * 1000000000) (by omega) (by omega),u64w (x:=x.getD n 0) (by omega) (by omega),u64w (by omega) (by omega)]
  have ed:Int.tdiv (r * 1000000000 + x.getD n 0) w = (r * 1000000000 + x.getD n 0) / w:=Int.tdiv_eq_ediv_of_nonneg (by omega)
  have et:Int.tmod (r * 1000000000 + x.getD n 0) w = (r * 1000000000 + x.getD n 0) % w:=Int.tmod_eq_emod_of_nonneg (by omega)
  have eq:IntKind.u64.wrap ((r * 1000000000 + x.getD n 0) / w) % 4294967296 = (r * 1000000000 + x.getD n 0) / w:=by
   rw [u64w h3 (by omega),Int.emod_eq_of_lt h3 (by omega)]
  refine ⟨out',h',fun k hk=>?_,fun k hk=>?_⟩
  ·obtain ⟨k,rfl⟩:∃ m,k = m + 1:=⟨k - 1,by omega⟩
   conv=>lhs;unfold natural_num_by.l0
   rw [en,if_pos (by omega),if_pos (by omega),if_pos (by omega),if_neg (by omega),if_pos (by omega),rd_eq,eu,ed,et,eq,em,Int.toNat_natCast,h2,e1 k (by omega),show k + 1 + 1 - (n + 1) = k + 1 - n by omega]
  ·obtain ⟨k,rfl⟩:∃ m,k = m + 1:=⟨k - 1,by omega⟩
   conv=>lhs;unfold garboardref01_small.l0
   rw [en,if_pos (by omega),if_pos (by omega),if_pos (by omega),ew,if_neg (by omega),if_pos (by omega),rd_eq,eu,ed,et,eq,em,Int.toNat_natCast,h2,e2 k (by omega),show k + 1 + 1 - (n + 1) = k + 1 - n by omega]
theorem by_start (x:List Int) (w:Int):ByI x (List.replicate x.length 0) w x.length:=⟨Wd.zeros _,List.length_replicate ..,by
 rw [List.drop_of_length_le (by rw [List.length_replicate];exact Nat.le_refl _),List.drop_length]
 simp [val]⟩
theorem by_ev (a:Nat) (w:Nat) (hw:0 < w) (hw2:w≤4294967295) (ho:Ok (numOf a)):Ev (fun k=>natural_num_by.f k (numOf a) w) (numOf (a / w),numOf (a % w))∧Ev (fun k=>garboardref01_small.f k (numOf a) w) (numOf (a / w),((a % w:Nat):Int)):=by
 unfold Ok at ho
 have hx:=(num_numOf a).1
 have hv:=val_numOf a
 obtain ⟨out,h,e1,e2⟩:=by_loop (numOf a) w hx (by omega) (by omega) (by omega) (numOf a).length (Nat.le_refl _) _ (by_start _ _)
 have hl:=h.len
 have hq:trimL out = numOf (a / w):=trim_numOf h.wd (by
  have:=h.eq
  simp only [List.drop_zero] at this
  rw [this,hv,Int.natCast_ediv])
 have hm:val (numOf a) % w = ((a % w:Nat):Int):=by rw [hv,Int.natCast_emod]
 have hml:a % w < w:=Nat.mod_lt _ hw
 rw [List.drop_length,hm] at e1 e2
 have hz:val ([]:List Int) % (w:Int) = 0:=by simp [val]
 rw [hz] at e1 e2
 have t1:=trim_ev (l:=out) (by omega)
 have t2:=rtrim_ev (l:=out) (by omega)
 have t3:=of_ev (a % w) (by omega)
 rw [hq] at t1 t2
 have b1:Ev (fun k=>(natural_num_trim.f k out).bind fun t=>(natural_of.f k ((a % w:Nat):Int)).bind fun t'=>some (t,t')) (numOf (a / w),numOf (a % w)):=Ev.bind t1 (Ev.bind t3 (Ev.now _))
 have b2:Ev (fun k=>(garboardref01_trim.f k out).bind fun t=>some (t,(((a % w:Nat):Int)) % 4294967296)) (numOf (a / w),((a % w:Nat):Int)):=by
  rw [Int.emod_eq_of_lt (show (0:Int)≤((a % w:Nat):Int) by omega) (by omega)]
  exact Ev.bind t2 (Ev.now _)
 obtain ⟨K1,b1⟩:=b1
 obtain ⟨K2,b2⟩:=b2
 constructor
 ·refine ⟨K1 + (numOf a).length + 1,fun k hk=>?_⟩
  simp only [natural_num_by.f]
  rw [if_pos (by omega),if_pos (by omega),Int.toNat_natCast,w64 (by omega) (by omega)]
  obtain ⟨k,rfl⟩:∃ m,k = m + 1:=⟨k - 1,by omega⟩
  rw [e1 k (by omega)]
  obtain ⟨j,hj⟩:∃ j,k + 1 - (numOf a).length = j + 1:=⟨k - (numOf a).length,by omega⟩
  rw [hj]
  simp only [natural_num_by.l0]
  rw [if_neg (by omega)]
  exact b1 j (by omega)
 ·refine ⟨K2 + (numOf a).length + 1,fun k hk=>?_⟩
  simp only [garboardref01_small.f]
  rw [if_pos (by omega),if_pos (by omega),Int.toNat_natCast,w64 (by omega) (by omega)]
  obtain ⟨k,rfl⟩:∃ m,k = m + 1:=⟨k - 1,by omega⟩
  rw [e2 k (by omega)]
  obtain ⟨j,hj⟩:∃ j,k + 1 - (numOf a).length = j + 1:=⟨k - (numOf a).length,by omega⟩
  rw [hj]
  simp only [garboardref01_small.l0]
  rw [if_neg (by omega)]
  exact b2 j (by omega)
set_option maxHeartbeats 8000000
set_option maxRecDepth 100000
mutual
def natural_num_times.l0:Nat→List Int→List Int→List Int→Int→Int→Option (List Int)
 | 0,_,_,_,_,_=>none
 | k + 1,x1,x5,x17,x18,x19=>if x19 < x18 then (if 0≤x19 then (if x19 < (x17.length:Int) then (natural_num_times.l1 k x1 x5 x19 (rd x17 x19) 0 x17 x18 x19 x1 (x1.length:Int) 0) else (none)) else (none)) else ((natural_num_trim.f k x5).bind fun t1059=>(some t1059))
def natural_num_times.l1:Nat→List Int→List Int→Int→Int→Int→List Int→Int→Int→List Int→Int→Int→Option (List Int)
 | 0,_,_,_,_,_,_,_,_,_,_,_=>none
 | k + 1,x1,x5,x6,x7,x8,x17,x18,x19,x24,x25,x26=>if x26 < x25 then (if 0≤x26 then (if x26 < (x24.length:Int) then (if 0≤(wrap64 (x6 + x26)) then (if (wrap64 (x6 + x26)) < (x5.length:Int) then (natural_num_times.l1 k x1 (x5.set ((wrap64 (x6 + x26)):Int).toNat ((Int.tmod (IntKind.u64.wrap (x8 + (IntKind.u64.wrap ((IntKind.u64.wrap ((IntKind.u64.wrap (x7)) * (IntKind.u64.wrap (rd x24 x26)))) + (IntKind.u64.wrap (rd x5 (wrap64 (x6 + x26)))))))) 1000000000) % 4294967296)) x6 x7 (IntKind.u64.wrap (Int.tdiv (IntKind.u64.wrap (x8 + (IntKind.u64.wrap ((IntKind.u64.wrap ((IntKind.u64.wrap (x7)) * (IntKind.u64.wrap (rd x24 x26)))) + (IntKind.u64.wrap (rd x5 (wrap64 (x6 + x26)))))))) 1000000000)) x17 x18 x19 x24 x25 (wrap64 (x26 + 1))) else (none)) else (none)) else (none)) else (none)) else (if 0≤(wrap64 (x6 + (x1.length:Int))) then (if (wrap64 (x6 + (x1.length:Int))) < (x5.length:Int) then (natural_num_times.l0 k x1 (x5.set ((wrap64 (x6 + (x1.length:Int))):Int).toNat ((x8) % 4294967296)) x17 x18 (wrap64 (x19 + 1))) else (none)) else (none))
end
def natural_num_times.f (k:Nat) (l0:List Int) (l1:List Int):Option (List Int):=if 0≤(wrap64 ((l0.length:Int) + (l1.length:Int))) then (if (wrap64 ((l0.length:Int) + (l1.length:Int)):Int).toNat≤70368744177664 then (natural_num_times.l0 k l1 (List.replicate (wrap64 ((l0.length:Int) + (l1.length:Int)):Int).toNat 0) l0 (l0.length:Int) 0) else (none)) else (none)
set_option maxHeartbeats 8000000
set_option maxRecDepth 100000
mutual
def garboardref01_Times.j0:Nat→List Int→List Int→Bool→Option (List Int)
 | 0,_,_,_=>none
 | k + 1,x0,x1,x17=>if x17 = true then (some ([]:List Int)) else (if 0≤(wrap64 ((x0.length:Int) + (x1.length:Int))) then (if (wrap64 ((x0.length:Int) + (x1.length:Int)):Int).toNat≤70368744177664 then (garboardref01_Times.l0 k x0 x1 (List.replicate (wrap64 ((x0.length:Int) + (x1.length:Int)):Int).toNat 0) 0) else (none)) else (none))
def garboardref01_Times.l0:Nat→List Int→List Int→List Int→Int→Option (List Int)
 | 0,_,_,_,_=>none
 | k + 1,x0,x1,x5,x6=>if x6 < (x0.length:Int) then (garboardref01_Times.l1 k x0 x1 x5 x6 0 0) else ((garboardref01_trim.f k x5).bind fun t531=>(some t531))
def garboardref01_Times.l1:Nat→List Int→List Int→List Int→Int→Int→Int→Option (List Int)
 | 0,_,_,_,_,_,_=>none
 | k + 1,x0,x1,x5,x6,x7,x8=>if x8 < (x1.length:Int) then (if 0≤(wrap64 (x6 + x8)) then (if (wrap64 (x6 + x8)) < (x5.length:Int) then (if 0≤x6 then (if x6 < (x0.length:Int) then (if 0≤x8 then (garboardref01_Times.l1 k x0 x1 (x5.set ((wrap64 (x6 + x8)):Int).toNat ((Int.tmod (IntKind.u64.wrap ((IntKind.u64.wrap ((IntKind.u64.wrap (rd x5 (wrap64 (x6 + x8)))) + (IntKind.u64.wrap ((IntKind.u64.wrap (rd x0 x6)) * (IntKind.u64.wrap (rd x1 x8)))))) + x7)) 1000000000) % 4294967296)) x6 (IntKind.u64.wrap (Int.tdiv (IntKind.u64.wrap ((IntKind.u64.wrap ((IntKind.u64.wrap (rd x5 (wrap64 (x6 + x8)))) + (IntKind.u64.wrap ((IntKind.u64.wrap (rd x0 x6)) * (IntKind.u64.wrap (rd x1 x8)))))) + x7)) 1000000000)) (wrap64 (x8 + 1))) else (none)) else (none)) else (none)) else (none)) else (none)) else (if 0≤(wrap64 (x6 + (x1.length:Int))) then (if (wrap64 (x6 + (x1.length:Int))) < (x5.length:Int) then (garboardref01_Times.l0 k x0 x1 (x5.set ((wrap64 (x6 + (x1.length:Int))):Int).toNat ((x7) % 4294967296)) (wrap64 (x6 + 1))) else (none)) else (none))
end
def garboardref01_Times.f (k:Nat) (l0:List Int) (l1:List Int):Option (List Int):=if (l0.length:Int) = 0 then (garboardref01_Times.j0 k l0 l1 true) else (garboardref01_Times.j0 k l0 l1 ((l1.length:Int) == 0))
theorem wi (i j:Nat) (h:i + j < 9223372036854775808):wrap64 ((i:Int) + (j:Int)) = ((i + j:Nat):Int):=by
 rw [w64 (by omega) (by omega)]
 omega
theorem wi1 (j:Nat) (h:j < 9223372036854775807):wrap64 ((j:Int) + 1) = ((j + 1:Nat):Int):=by
 rw [w64 (by omega) (by omega)]
 omega
theorem ring5 (x y c P:Int):x * c * P + (P * y) * (x * 1) = x * (c + y) * P:=by grind
theorem mul_step (o x y C:Int) (ho:0≤o∧o < B) (hx:0≤x∧x < B) (hy:0≤y∧y < B) (hC:0≤C∧C < B):0≤o + x * y + C∧o + x * y + C < 1000000000000000000:=by
 have h1:0≤x * y:=Int.mul_nonneg hx.1 hy.1
 have h2:x * y≤(B - 1) * (B - 1):=Int.mul_le_mul (by omega) (by omega) hy.1 (by decide)
 rw [BB] at *
 omega
theorem mul_u64 (o x y C:Int) (ho:0≤o∧o < 1000000000) (hx:0≤x∧x < 1000000000) (hy:0≤y∧y < 1000000000) (hC:0≤C∧C < 1000000000) :
  IntKind.u64.wrap (C + IntKind.u64.wrap (IntKind.u64.wrap (IntKind.u64.wrap x * IntKind.u64.wrap y) + IntKind.u64.wrap o)) = o + x * y + C ∧
  IntKind.u64.wrap (IntKind.u64.wrap (IntKind.u64.wrap o + IntKind.u64.wrap (IntKind.u64.wrap x * IntKind.u64.wrap y)) + C) = o + x * y + C:=by
 have hm:=mul_step o x y C ho hx hy hC
 have hxy:0≤x * y:=Int.mul_nonneg hx.1 hy.1
 rw [u64w (x:=x) (by omega) (by omega),u64w (x:=y) (by omega) (by omega),u64w (x:=o) (by omega) (by omega)]
 generalize x * y = p at *
 rw [u64w (x:=p) (by omega) (by omega),u64w (x:=p + o) (by omega) (by omega),u64w (x:=o + p) (by omega) (by omega),u64w (x:=C + (p + o)) (by omega) (by omega),u64w (x:=o + p + C) (by omega) (by omega)]
 exact ⟨by omega,rfl⟩
theorem mul_take (x P:Int) (b:List Int) (j i:Nat):x * val (b.take j) * B ^ i + B ^ (i + j) * (x * b.getD j 0) = x * val (b.take (j + 1)) * B ^ i:=by
 rw [val_take_more,Bpow_add]
 generalize val (b.take j) = c
 generalize B ^ i = P1
 generalize B ^ j = P2
 generalize b.getD j 0 = y
 grind
theorem nat_inner (a b u:List Int) (x:Int) (i:Nat) (hb:Wd b) (hx:0≤x∧x < B) (hl:u.length = a.length + b.length) (hi:i < a.length) (hs:u.length < 1152921504606846976):∀ (n j:Nat),j + n = b.length→∀ (u':List Int) (C:Int),Run u u' (i + j) (x * val (b.take j) * B ^ i) C→0≤C∧C < B →
  ∃ u'' C',Run u u'' (i + b.length) (x * val b * B ^ i) C'∧(0≤C'∧C' < B) ∧
   (∀ k,n≤k→natural_num_times.l1 (k + 1) b u' i x C a a.length i b b.length j = natural_num_times.l1 (k + 1 - n) b u'' i x C' a a.length i b b.length b.length) ∧
   (x = a.getD i 0→∀ k,n≤k→garboardref01_Times.l1 (k + 1) a b u' i C j = garboardref01_Times.l1 (k + 1 - n) a b u'' i C' b.length):=by
 intro n
 induction n with
 | zero =>
  intro j hj u' C R hC
  obtain rfl:j = b.length:=by omega
  rw [List.take_of_length_le (Nat.le_refl _)] at R
  exact ⟨u',C,R,hC,fun k _=>by rw [Nat.sub_zero],fun _ k _=>by rw [Nat.sub_zero]⟩
 | succ n ih =>
  intro j hj u' C R hC
  have Ab:=R.len
  have q3:i + j < 9223372036854775808:=by omega
  have q4:j < 9223372036854775807:=by omega
  have g1:(j:Int) < (b.length:Int):=by omega
  have g2:(0:Int)≤(j:Int):=by omega
  have g3:(0:Int)≤((i + j:Nat):Int):=by omega
  have g4:((i + j:Nat):Int) < (u'.length:Int):=by omega
  have g5:(0:Int)≤(i:Int):=by omega
  have g6:(i:Int) < (a.length:Int):=by omega
  have g7:i + j < u.length:=by omega
  have Aa:=R.get
  have ho:=R.wd.getD (i + j)
  have hy:=hb.getD j
  have hm:=mul_step _ _ _ _ ho hx hy hC
  have hxy:0≤x * b.getD j 0:=Int.mul_nonneg hx.1 hy.1
  rw [BB] at ho hy hx hC
  have e1:Int.tmod (u'.getD (i + j) 0 + x * b.getD j 0 + C) 1000000000 = (u'.getD (i + j) 0 + x * b.getD j 0 + C) % 1000000000:=Int.tmod_eq_emod_of_nonneg hm.1
  have e2:Int.tdiv (u'.getD (i + j) 0 + x * b.getD j 0 + C) 1000000000 = (u'.getD (i + j) 0 + x * b.getD j 0 + C) / 1000000000:=Int.tdiv_eq_ediv_of_nonneg hm.1
  have hd:0≤(u'.getD (i + j) 0 + x * b.getD j 0 + C) % 1000000000∧(u'.getD (i + j) 0 + x * b.getD j 0 + C) % 1000000000 < 1000000000:=⟨Int.emod_nonneg _ (by decide),Int.emod_lt_of_pos _ (by decide)⟩
  have hc:0≤(u'.getD (i + j) 0 + x * b.getD j 0 + C) / 1000000000∧(u'.getD (i + j) 0 + x * b.getD j 0 + C) / 1000000000 < 1000000000:=by
   generalize u'.getD (i + j) 0 + x * b.getD j 0 + C = s at hm
   omega
  have hde:(u'.getD (i + j) 0 + x * b.getD j 0 + C) % 1000000000 + B * ((u'.getD (i + j) 0 + x * b.getD j 0 + C) / 1000000000) = u.getD (i + j) 0 + C + x * b.getD j 0:=by
   rw [BB,← Aa]
   generalize u'.getD (i + j) 0 = o
   generalize x * b.getD j 0 = p
   omega
  have hdB:0≤(u'.getD (i + j) 0 + x * b.getD j 0 + C) % 1000000000∧(u'.getD (i + j) 0 + x * b.getD j 0 + C) % 1000000000 < B:=by rw [BB];exact hd
  have hcB:0≤(u'.getD (i + j) 0 + x * b.getD j 0 + C) / 1000000000∧(u'.getD (i + j) 0 + x * b.getD j 0 + C) / 1000000000 < B:=by rw [BB];exact hc
  have R':=R.step g7 hdB hde
  rw [mul_take x 0 b j i] at R'
  obtain ⟨u'',C',R'',hC',f1,f2⟩:=ih (j + 1) (by omega) _ _ R' hcB
  refine ⟨u'',C',R'',hC',fun k hk=>?_,fun hxa k hk=>?_⟩
  ·obtain ⟨k,rfl⟩:∃ m,k = m + 1:=⟨k - 1,by omega⟩
   conv=>lhs;unfold natural_num_times.l1
   have eu:=(mul_u64 _ _ _ _ ho hx hy hC).1
   rw [if_pos g1,if_pos g2,if_pos g1,wi i j q3,if_pos g3,if_pos g4,rd_eq,rd_eq,eu,e1,e2,Int.toNat_natCast,u64w hc.1 (Int.lt_trans hc.2 (by decide)),Int.emod_eq_of_lt (b:=4294967296) hd.1 (Int.lt_trans hd.2 (by decide)),wi1 j q4,f1 k (by omega),show k + 1 + 1 - (n + 1) = k + 1 - n by omega]
  ·obtain ⟨k,rfl⟩:∃ m,k = m + 1:=⟨k - 1,by omega⟩
   conv=>lhs;unfold garboardref01_Times.l1
   have eu:=(mul_u64 _ _ _ _ ho hx hy hC).2
   rw [if_pos g1,wi i j q3,if_pos g3,if_pos g4,if_pos g5,if_pos g6,if_pos g2,rd_eq,rd_eq,rd_eq,← hxa,eu,e1,e2,Int.toNat_natCast,u64w hc.1 (Int.lt_trans hc.2 (by decide)),Int.emod_eq_of_lt (b:=4294967296) hd.1 (Int.lt_trans hd.2 (by decide)),wi1 j q4,f2 hxa k (by omega),show k + 1 + 1 - (n + 1) = k + 1 - n by omega]
theorem getD_high {l:List Int} (h:Wd l) (n:Nat) (hn:n < l.length) (hv:val l < B ^ n):l.getD n 0 = 0:=by
 have h1:=(val_high h n (by omega) hv).1
 rw [val_drop_succ l n hn] at h1
 have h2:=h.getD n
 have h3:=Int.mul_nonneg (Int.le_of_lt B_pos) (val_drop_nn h (n + 1))
 omega
structure MulI (a b out:List Int) (i:Nat):Prop where
 wd:Wd out
 len:out.length = a.length + b.length
 eq:val out = val (a.take i) * val b
theorem MulI.row {a b out u'':List Int} {i:Nat} {C:Int} (h:MulI a b out i) (ha:Wd a) (hb:Wd b) (hi:i < a.length) (R:Run out u'' (i + b.length) (a.getD i 0 * val b * B ^ i) C) (hC:0≤C∧C < B):MulI a b (u''.set (i + b.length) C) (i + 1):=by
 have hl:=R.len
 have Aa:=h.len
 have hlt:val out < B ^ (i + b.length):=by
  rw [h.eq,Bpow_add]
  have h1:=val_take_le ha i
  have h2:=val_lt hb
  have h3:=val_nonneg hb
  exact Int.mul_lt_mul' (Int.le_of_lt h1) h2 h3 (Bpow_pos i)
 have h0:=getD_high h.wd (i + b.length) (by omega) hlt
 refine ⟨R.wd.set _ hC,by rw [List.length_set,hl,Aa],?_⟩
 rw [val_set _ _ _ (by omega),R.get,h0,val_take_more]
 have h1:=R.value (by omega)
 rw [h.eq] at h1
 generalize val u'' = U at *
 generalize B ^ (i + b.length) = P1 at *
 generalize B ^ i = P2 at *
 generalize val (a.take i) = A at *
 generalize val b = V at *
 generalize a.getD i 0 = x at *
 grind
theorem mul_outer (a b:List Int) (ha:Wd a) (hb:Wd b) (hs:a.length + b.length < 1152921504606846976):∀ (n i:Nat),i + n = a.length→∀ out,MulI a b out i→∃ out',MulI a b out' a.length ∧
  (∃ c,∀ k,c≤k→∃ j,k≤j + c∧natural_num_times.l0 k b out a a.length i = natural_num_times.l0 (j + 1) b out' a a.length a.length) ∧
  (∃ c,∀ k,c≤k→∃ j,k≤j + c∧garboardref01_Times.l0 k a b out i = garboardref01_Times.l0 (j + 1) a b out' a.length):=by
 intro n
 induction n with
 | zero =>
  intro i hi out h
  obtain rfl:i = a.length:=by omega
  exact ⟨out,h,⟨1,fun k hk=>⟨k - 1,by omega,by rw [show k - 1 + 1 = k by omega]⟩⟩,⟨1,fun k hk=>⟨k - 1,by omega,by rw [show k - 1 + 1 = k by omega]⟩⟩⟩
 | succ n ih =>
  intro i hi out h
  have hl:=h.len
  have R0:Run out out (i + 0) (a.getD i 0 * val (b.take 0) * B ^ i) 0:=by
   have:=Run.start h.wd i
   simpa [val] using this
  obtain ⟨u'',C',R,hC,f1,f2⟩:=nat_inner a b out (a.getD i 0) i hb (ha.getD i) hl (by omega) (by omega) b.length 0 (by omega) out 0 R0 ⟨Int.le_refl _,B_pos⟩
  have hM:=h.row ha hb (by omega) R hC
  obtain ⟨out',h',⟨c1,g1⟩,⟨c2,g2⟩⟩:=ih (i + 1) (by omega) _ hM
  have hul:=R.len
  rw [BB] at hC
  have q1:i + b.length < 9223372036854775808:=by omega
  have q2:i < 9223372036854775807:=by omega
  refine ⟨out',h',⟨c1 + b.length + 2,fun k hk=>?_⟩,⟨c2 + b.length + 2,fun k hk=>?_⟩⟩
  ·obtain ⟨k,rfl⟩:∃ m,k = m + 2:=⟨k - 2,by omega⟩
   obtain ⟨j,hj,e⟩:=g1 (k - b.length) (by omega)
   refine ⟨j,by omega,?_⟩
   conv=>lhs;unfold natural_num_times.l0
   rw [if_pos (by omega),if_pos (by omega),if_pos (by omega),rd_eq]
   have:=f1 k (by omega)
   rw [show ((0:Nat):Int) = 0 from rfl] at this
   rw [this,show k + 1 - b.length = k - b.length + 1 by omega]
   conv=>lhs;unfold natural_num_times.l1
   rw [if_neg (by omega),wi i b.length q1,if_pos (by omega),if_pos (by omega),Int.toNat_natCast,Int.emod_eq_of_lt (b:=4294967296) hC.1 (by omega),wi1 i q2,e]
  ·obtain ⟨k,rfl⟩:∃ m,k = m + 2:=⟨k - 2,by omega⟩
   obtain ⟨j,hj,e⟩:=g2 (k - b.length) (by omega)
   refine ⟨j,by omega,?_⟩
   conv=>lhs;unfold garboardref01_Times.l0
   rw [if_pos (by omega)]
   have:=f2 rfl k (by omega)
   rw [show ((0:Nat):Int) = 0 from rfl] at this
   rw [this,show k + 1 - b.length = k - b.length + 1 by omega]
   conv=>lhs;unfold garboardref01_Times.l1
   rw [if_neg (by omega),wi i b.length q1,if_pos (by omega),if_pos (by omega),Int.toNat_natCast,Int.emod_eq_of_lt (b:=4294967296) hC.1 (by omega),wi1 i q2,e]
theorem times_ev (a b:Nat) (ha:Ok (numOf a)) (hb:Ok (numOf b)):Ev (fun k=>natural_num_times.f k (numOf a) (numOf b)) (numOf (a * b))∧Ev (fun k=>garboardref01_Times.f k (numOf a) (numOf b)) (numOf (a * b)):=by
 unfold Ok at ha hb
 have hM:MulI (numOf a) (numOf b) (List.replicate ((numOf a).length + (numOf b).length) 0) 0:=⟨Wd.zeros _,List.length_replicate ..,by rw [val_zeros];simp [val]⟩
 obtain ⟨out,h,⟨c1,g1⟩,⟨c2,g2⟩⟩:=mul_outer (numOf a) (numOf b) (num_numOf a).1 (num_numOf b).1 (by omega) (numOf a).length 0 (by omega) _ hM
 have hl:=h.len
 have ht:trimL out = numOf (a * b):=trim_numOf h.wd (by rw [h.eq,List.take_of_length_le (Nat.le_refl _),val_numOf,val_numOf,Int.natCast_mul])
 obtain ⟨K1,t1⟩:=trim_ev (l:=out) (by omega)
 obtain ⟨K2,t2⟩:=rtrim_ev (l:=out) (by omega)
 rw [ht] at t1 t2
 have e1:=wi (numOf a).length (numOf b).length (by omega)
 have hz:((0:Nat):Int) = 0:=rfl
 rw [hz] at g1 g2
 constructor
 ·refine ⟨K1 + c1 + 2,fun k hk=>?_⟩
  simp only [natural_num_times.f]
  rw [e1,if_pos (by omega),Int.toNat_natCast,if_pos (by omega)]
  obtain ⟨j,hj,e⟩:=g1 k (by omega)
  rw [e]
  simp only [natural_num_times.l0]
  rw [if_neg (by omega)]
  have:=t1 j (by omega)
  simp only at this
  rw [this]
  rfl
 ·by_cases e0:(numOf a).length = 0
  ·have:a = 0:=numOf_nil.1 (List.eq_nil_of_length_eq_zero e0)
   refine ⟨1,fun k hk=>?_⟩
   obtain ⟨k,rfl⟩:∃ m,k = m + 1:=⟨k - 1,by omega⟩
   simp only [garboardref01_Times.f]
   rw [if_pos (by omega)]
   simp only [garboardref01_Times.j0]
   rw [if_pos trivial,this,Nat.zero_mul,numOf_zero]
  ·by_cases Aa:(numOf b).length = 0
   ·have:b = 0:=numOf_nil.1 (List.eq_nil_of_length_eq_zero Aa)
    refine ⟨1,fun k hk=>?_⟩
    obtain ⟨k,rfl⟩:∃ m,k = m + 1:=⟨k - 1,by omega⟩
    simp only [garboardref01_Times.f]
    rw [if_neg (by omega)]
    simp only [garboardref01_Times.j0]
    rw [if_pos (by rw [Aa];rfl),this,Nat.mul_zero,numOf_zero]
   ·refine ⟨K2 + c2 + 3,fun k hk=>?_⟩
    obtain ⟨k,rfl⟩:∃ m,k = m + 1:=⟨k - 1,by omega⟩
    simp only [garboardref01_Times.f]
    rw [if_neg (by omega)]
    simp only [garboardref01_Times.j0]
    rw [if_neg (by intro h;rw [beq_iff_eq] at h;omega),e1,if_pos (by omega),Int.toNat_natCast,if_pos (by omega)]
    obtain ⟨j,hj,e⟩:=g2 k (by omega)
    rw [e]
    simp only [garboardref01_Times.l0]
    rw [if_neg (by omega)]
    have:=t2 j (by omega)
    simp only at this
    rw [this]
    rfl
end Go.Proofs.YtcmbggahndfnnaaGreatDoor.Pr
namespace Go.Proofs.YtcmbggahndfnnaaGreatDoor.Pt
open Go.RowKit Go.Proofs.YtcmbggahndfnnaaGreatDoorW.PrintWords Go.Proofs.YtcmbggahndfnnaaGreatDoorW.PrintLast Go.Proofs.YtcmbggahndfnnaaGreatDoorW.PrintMore
attribute [local go_sem] max2_int min2_int max_two min_two max_three min_three max_four min_four
def errW:Option Int→Value
 | none=>.nilIface
 | some c=>.iface 200 (.int .i64 c)
theorem errW_none:errW none = .nilIface:=rfl
theorem errW_some (c:Int):errW (some c) = .iface 200 (.int .i64 c):=rfl
theorem info101:(Tryz.prog.info? 101).map (fun i=>(i.zero,i.size,i.bytes)) = some (some (.int .u32 0),1,4):=by kernel_rfl
set_option maxHeartbeats 8000000
set_option maxRecDepth 100000
def natural_num_trim.l0:Nat→List Int→Option (List Int)
 | 0,_=>none
 | k + 1,x0=>if (x0.length:Int) > 0 then (if 0≤(wrap64 ((x0.length:Int) - 1)) then (if (wrap64 ((x0.length:Int) - 1)) < (x0.length:Int) then (if (rd x0 (wrap64 ((x0.length:Int) - 1))) = 0 then (if (wrap64 ((x0.length:Int) - 1))≤(x0.length:Int) then (natural_num_trim.l0 k (x0.take ((wrap64 ((x0.length:Int) - 1)):Int).toNat)) else (none)) else (some x0)) else (none)) else (none)) else (some x0)
def natural_num_trim.f (k:Nat) (l0:List Int):Option (List Int):=natural_num_trim.l0 k l0
theorem natural_num_trim.calls (k:Nat) (P0_:Nat→Prop) (A0:Option Addr) (c0:Nat) (l0:List Int) (r:List Int) (w:World) (hs0:Kd.V (Kd.int .u32) 101 w w.heap.size (fun k_=>P0_ k_) (.slice A0 l0.length c0) l0) (h:natural_num_trim.f k l0 = some r) :
  Calls Tryz.prog 138 #[.slice A0 l0.length c0] w fun e w'=>∃ v0_:Value,e = .returned (v0_)∧Kd.V (Kd.int .u32) 101 w' w.heap.size (fun k_=>(P0_ k_ ∨ w.heap.size≤k_)) v0_ r∧Below w.heap.size w w':=by
 have Bo:=Aside0.mk (show Kd.V (Kd.int .u32) 101 w w.heap.size (fun k_=>(P0_ k_ ∨ w.heap.size≤k_)) (.slice A0 l0.length c0) l0 from Kd.V_mono hs0 (fun k_ hk=>.inl hk))
 have HB:=Aside0.mk (Below.refl w.heap.size w)
 have H:=h;clear h;unfold natural_num_trim.f at H
 have H':=Aside0.mk H
 clear H
 go_enter Tryz.func138,Tryz.ntmps138
 go_wp2
 go_loopg [0] k (fun kq v0 w'=>∃ (Aa:List Int),Aside0 (natural_num_trim.l0 kq Aa = some r)∧Aside0 (kq≤k)∧Aside0 (Kd.V (Kd.int .u32) 101 w' w.heap.size (fun k_=>(P0_ k_ ∨ w.heap.size≤k_)) v0 Aa)∧Aside0 (Below w.heap.size w w'))
 case atStart=>exact ⟨(l0),H',⟨Nat.le_refl _⟩,⟨by (with_reducible repeat (first|apply Kd.V_alloc|apply Kd.V_drewN|apply Kd.V_drew));exact Bo.out⟩,⟨bx_⟩⟩
 case round =>
  clear H'
  obtain ⟨Aa,HA,Bc,Ab,HB⟩:=hrel
  cases gk with
  | zero=>exact absurd HA.out (by simp [natural_num_trim.l0])
  | succ k1 =>
   have H:=HA.out
   clear HA
   simp only [natural_num_trim.l0] at H
   by_cases c2:(Aa.length:Int) > 0
   ·rw [if_pos c2] at H
    have Ay:decide (0 < (Aa.length:Int)) = true:=decide_eq_true c2
    have Ax:decide (0 < Aa.length) = true:=decide_eq_true (by omega)
    clear c2
    obtain ⟨ji3,hji3⟩:∃ j_:Int,(wrap64 ((Aa.length:Int) - 1)) = j_:=⟨_,rfl⟩
    replace H:(if 0≤(ji3) then (if (ji3) < (Aa.length:Int) then (if (rd Aa (ji3)) = 0 then (if (ji3)≤(Aa.length:Int) then (natural_num_trim.l0 k1 (Aa.take ((ji3):Int).toNat)) else (none)) else (some Aa)) else (none)) else (none)) = some r:=by first|(rw [hji3] at H;exact H)|(simp only [hji3] at H ⊢;exact H)
    have Bb:(IntKind.i64.wrap ((Aa.length:Int) - 1)) = ji3:=(i64_w _).trans hji3
    by_cases c4:0≤(ji3)
    ·rw [if_pos c4] at H
     have Bm:decide (0≤(ji3)) = true:=decide_eq_true c4
     clear c4
     by_cases c5:(ji3) < (Aa.length:Int)
     ·rw [if_pos c5] at H
      have Bl:decide ((ji3) < (Aa.length:Int)) = true:=decide_eq_true c5
      clear c5
      by_cases c6:(rd Aa (ji3)) = 0
      ·rw [if_pos c6] at H
       have Aw:((rd Aa (ji3)) == 0) = true:=beq_iff_eq.mpr c6
       have Av:((rd Aa (ji3)) != 0) = false:=bne_eq_false_iff_eq.mpr c6
       clear c6
       have Bk:=eq_true (of_decide_eq_true (by first|(with_reducible assumption)|assumption):0≤(ji3))
       by_cases c8:(ji3)≤(Aa.length:Int)
       ·rw [if_pos c8] at H
        have Bj:=eq_true c8
        have Bi:decide ((ji3)≤(Aa.length:Int)) = true:=decide_eq_true c8
        clear c8
        obtain ⟨y136,hy136⟩:∃ y_:List Int,y_ = (Aa.take ((ji3):Int).toNat):=⟨_,rfl⟩
        replace H:(natural_num_trim.l0 k1 y136) = some r:=by first|(rw [hy136];with_reducible exact H)|(have Ba:=(Option.bind_some _ _).symm.trans H;rw [hy136];with_reducible exact Ba)|(have Ba:=(Option.bind_some _ _).symm.trans H;with_reducible exact Ba)|with_reducible exact H|(rw [hy136];exact H)|exact H
        have Ai:=Aside0.mk hy136
        clear hy136
        have H':=Aside0.mk H
        clear H
        obtain ⟨Br,Aq,Bf⟩:=Kd.V_slice Ab.out
        subst Bf
        have Ad:0≤((ji3):Int):=da_
        have Ac:(ji3) < (Aa.length:Int):=da_
        obtain ⟨Af,Am,Ag⟩:=Kd.at_int (Kd.V_reads' Ab.out).2.2 (ji3) Ad Ac
        cases Am
        replace Ad:=eq_true Ad
        replace Ac:=eq_true Ac
        have As:((ji3):Int)≤((Aa.length:Int):Int):=da_
        obtain ⟨Be,Ah,_,An,_⟩:=info_parts info101
        have Ae:Aa.length≤Aq:=(Kd.V_reads' Ab.out).2.1
        have Ao:Kd.F (Kd.int .u32) _ _ (some Af) Aa.length Aa:=(Kd.V_at (base:=w.heap.size) Ab.out).2.2
        have Al:=cut_to (P:=Tryz.prog) 161 101 .i64 Tryz.underlying161 Ah (some Af) Aa.length Aq (ji3) (of_decide_eq_true (by first|(with_reducible assumption)|assumption)) As Ae
        have Ak:=Kd.F_take (m:=((ji3):Int).toNat) Ao (by omega)
        have Aj:y136.length = ((ji3):Int).toNat:=(by rw [Ai.out,List.length_take];omega)
        rw [← Ai.out] at Ak
        rw [← Aj] at Al
        have Ap:=Aside0.mk (show Kd.V (Kd.int .u32) 101 _ w.heap.size _ (.slice (some Af) y136.length Aq) y136 from Kd.V_mk (by omega) Ak)
        have Bd:=Aside0.mk (show y136.length≤Aq from by omega)
        clear Ak Ao Ae Ah An
        have Bn:=Aside0.mk Aj
        clear Aj
        replace As:=eq_true As
        go_wp2
        go_roundg k1
        case measure=>have:=Bc.out;omega
        case rel=>exact ⟨(y136),H',⟨by have:=Bc.out;omega⟩,⟨by (with_reducible repeat (first|apply Kd.V_alloc|apply Kd.V_drewN|apply Kd.V_drew));exact Ap.out⟩,⟨bx_⟩⟩
       ·rw [if_neg c8] at H
        exact absurd H sm_
      ·rw [if_neg c6] at H
       have Aw:((rd Aa (ji3)) == 0) = false:=beq_eq_false_iff_ne.mpr c6
       have Av:((rd Aa (ji3)) != 0) = true:=bne_iff_ne.mpr c6
       obtain rfl:=Option.some.inj H
       obtain ⟨Bq,Bh,Au⟩:=Kd.V_slice Ab.out
       subst Au
       have Ad:0≤((ji3):Int):=da_
       have Ac:(ji3) < (Aa.length:Int):=da_
       obtain ⟨Af,Am,Ag⟩:=Kd.at_int (Kd.V_reads' Ab.out).2.2 (ji3) Ad Ac
       cases Am
       replace Ad:=eq_true Ad
       replace Ac:=eq_true Ac
       go_wp2
       go_ret
       exact ⟨_,by first|rfl|(simp [errW_none,errW_some]<;>rfl)|(simp only [← hji3];first|rfl|(simp [errW_none,errW_some]<;>rfl))|(simp [*,errW_none,errW_some]<;>rfl),by (with_reducible repeat (first|apply Kd.V_alloc|apply Kd.V_drewN|apply Kd.V_drew));exact Ab.out,bx_⟩
     ·rw [if_neg c5] at H
      exact absurd H sm_
    ·rw [if_neg c4] at H
     exact absurd H sm_
   ·rw [if_neg c2] at H
    have Ay:decide (0 < (Aa.length:Int)) = false:=decide_eq_false c2
    have Ax:decide (0 < Aa.length) = false:=decide_eq_false (by omega)
    clear c2
    obtain rfl:=Option.some.inj H
    obtain ⟨Bp,Bg,At⟩:=Kd.V_slice Ab.out
    subst At
    go_wp2
    go_ret
    exact ⟨_,rf_,by (with_reducible repeat (first|apply Kd.V_alloc|apply Kd.V_drewN|apply Kd.V_drew));exact Ab.out,bx_⟩
end Go.Proofs.YtcmbggahndfnnaaGreatDoor.Pt
namespace Go.Proofs
open Go.Shelf
def Tryz.laysPu14_ren:Go.Shelf.Ren:=⟨fun|14=>137|16=>145|17=>146|19=>155|20=>156|21=>157|22=>158|23=>159|24=>160|25=>170|27=>172|26=>171|28=>179|29=>182|30=>161|31=>162|32=>163|33=>164|35=>174|34=>173|36=>175|37=>176|38=>177|39=>180|40=>181|n=>n,fun|9=>9|3=>3|22=>104|24=>75|25=>183|4=>4|34=>200|5=>5|36=>106|37=>57|0=>0|39=>202|21=>21|44=>215|47=>114|50=>224|48=>222|2=>2|52=>205|55=>208|59=>218|60=>101|20=>20|61=>219|65=>227|66=>228|67=>80|n=>n,fun|0=>1|1=>2|2=>3|3=>4|4=>5|n=>n⟩
theorem Tryz.laysPu14:Go.Proofs.LaysPu.n14 Tryz.prog Tryz.laysPu14_ren:={
 mixed:=by kernel_rfl
 f14:=Tryz.func137.trans (congrArg some (by kernel_rfl))
 f16:=Tryz.func145.trans (congrArg some (by kernel_rfl))
 f17:=Tryz.func146.trans (congrArg some (by kernel_rfl))
 f19:=Tryz.func155.trans (congrArg some (by kernel_rfl))
 f20:=Tryz.func156.trans (congrArg some (by kernel_rfl))
 f21:=Tryz.func157.trans (congrArg some (by kernel_rfl))
 f22:=Tryz.func158.trans (congrArg some (by kernel_rfl))
 f23:=Tryz.func159.trans (congrArg some (by kernel_rfl))
 f24:=Tryz.func160.trans (congrArg some (by kernel_rfl))
 f25:=Tryz.func170.trans (congrArg some (by kernel_rfl))
 f26:=Tryz.func171.trans (congrArg some (by kernel_rfl))
 f27:=Tryz.func172.trans (congrArg some (by kernel_rfl))
 f28:=Tryz.func179.trans (congrArg some (by kernel_rfl))
 f29:=Tryz.func182.trans (congrArg some (by kernel_rfl))
 f30:=Tryz.func161.trans (congrArg some (by kernel_rfl))
 f31:=Tryz.func162.trans (congrArg some (by kernel_rfl))
 f32:=Tryz.func163.trans (congrArg some (by kernel_rfl))
 f33:=Tryz.func164.trans (congrArg some (by kernel_rfl))
 f34:=Tryz.func173.trans (congrArg some (by kernel_rfl))
 f35:=Tryz.func174.trans (congrArg some (by kernel_rfl))
 f36:=Tryz.func175.trans (congrArg some (by kernel_rfl))
 f37:=Tryz.func176.trans (congrArg some (by kernel_rfl))
 f38:=Tryz.func177.trans (congrArg some (by kernel_rfl))
 f39:=Tryz.func180.trans (congrArg some (by kernel_rfl))
 f40:=Tryz.func181.trans (congrArg some (by kernel_rfl))
 t0:=Tryz.underlying0
 a0:=Tryz.isAgg0
 z0:=Tryz.sizeOf0
 v0:=Tryz.zeroValue0
 i0:=by kernel_rfl
 t2:=Tryz.underlying2
 a2:=Tryz.isAgg2
 z2:=Tryz.sizeOf2
 v2:=Tryz.zeroValue2
 i2:=by kernel_rfl
 t3:=Tryz.underlying3
 a3:=Tryz.isAgg3
 z3:=Tryz.sizeOf3
 v3:=Tryz.zeroValue3
 i3:=by kernel_rfl
 t4:=Tryz.underlying4
 a4:=Tryz.isAgg4
 z4:=Tryz.sizeOf4
 v4:=Tryz.zeroValue4
 i4:=by kernel_rfl
 t5:=Tryz.underlying5
 a5:=Tryz.isAgg5
 z5:=Tryz.sizeOf5
 v5:=Tryz.zeroValue5
 i5:=by kernel_rfl
 t9:=Tryz.underlying9
 a9:=Tryz.isAgg9
 z9:=Tryz.sizeOf9
 v9:=Tryz.zeroValue9
 i9:=by kernel_rfl
 t20:=Tryz.underlying20
 a20:=Tryz.isAgg20
 z20:=Tryz.sizeOf20
 v20:=Tryz.zeroValue20
 i20:=by kernel_rfl
 t21:=Tryz.underlying21
 a21:=Tryz.isAgg21
 z21:=Tryz.sizeOf21
 v21:=Tryz.zeroValue21
 i21:=by kernel_rfl
 t22:=Tryz.underlying104
 a22:=Tryz.isAgg104
 z22:=Tryz.sizeOf104
 v22:=Tryz.zeroValue104
 i22:=by kernel_rfl
 t24:=Tryz.underlying75
 a24:=Tryz.isAgg75
 z24:=Tryz.sizeOf75
 v24:=Tryz.zeroValue75
 i24:=by kernel_rfl
 t25:=Tryz.underlying183
 a25:=Tryz.isAgg183
 z25:=Tryz.sizeOf183
 v25:=Tryz.zeroValue183
 i25:=by kernel_rfl
 t34:=Tryz.underlying200
 a34:=Tryz.isAgg200
 z34:=Tryz.sizeOf200
 v34:=Tryz.zeroValue200
 i34:=by kernel_rfl
 c34:=by kernel_rfl
 t36:=Tryz.underlying106
 a36:=Tryz.isAgg106
 z36:=Tryz.sizeOf106
 v36:=Tryz.zeroValue106
 i36:=by kernel_rfl
 t37:=Tryz.underlying57
 a37:=Tryz.isAgg57
 z37:=Tryz.sizeOf57
 v37:=Tryz.zeroValue57
 i37:=by kernel_rfl
 t39:=Tryz.underlying202
 a39:=Tryz.isAgg202
 z39:=Tryz.sizeOf202
 v39:=Tryz.zeroValue202
 i39:=by kernel_rfl
 t44:=Tryz.underlying215
 a44:=Tryz.isAgg215
 z44:=Tryz.sizeOf215
 v44:=Tryz.zeroValue215
 i44:=by kernel_rfl
 t47:=Tryz.underlying114
 a47:=Tryz.isAgg114
 z47:=Tryz.sizeOf114
 v47:=Tryz.zeroValue114
 i47:=by kernel_rfl
 t48:=Tryz.underlying222
 a48:=Tryz.isAgg222
 z48:=Tryz.sizeOf222
 v48:=Tryz.zeroValue222
 i48:=by kernel_rfl
 t50:=Tryz.underlying224
 a50:=Tryz.isAgg224
 z50:=Tryz.sizeOf224
 v50:=Tryz.zeroValue224
 i50:=by kernel_rfl
 t52:=Tryz.underlying205
 a52:=Tryz.isAgg205
 z52:=Tryz.sizeOf205
 v52:=Tryz.zeroValue205
 i52:=by kernel_rfl
 t55:=Tryz.underlying208
 a55:=Tryz.isAgg208
 z55:=Tryz.sizeOf208
 v55:=Tryz.zeroValue208
 i55:=by kernel_rfl
 t59:=Tryz.underlying218
 a59:=Tryz.isAgg218
 z59:=Tryz.sizeOf218
 v59:=Tryz.zeroValue218
 i59:=by kernel_rfl
 t60:=Tryz.underlying101
 a60:=Tryz.isAgg101
 z60:=Tryz.sizeOf101
 v60:=Tryz.zeroValue101
 i60:=by kernel_rfl
 t61:=Tryz.underlying219
 a61:=Tryz.isAgg219
 z61:=Tryz.sizeOf219
 t65:=Tryz.underlying227
 a65:=Tryz.isAgg227
 z65:=Tryz.sizeOf227
 v65:=Tryz.zeroValue227
 i65:=by kernel_rfl
 t66:=Tryz.underlying228
 a66:=Tryz.isAgg228
 z66:=Tryz.sizeOf228
 v66:=Tryz.zeroValue228
 i66:=by kernel_rfl
 t67:=Tryz.underlying80
 a67:=Tryz.isAgg80
 z67:=Tryz.sizeOf80
 v67:=Tryz.zeroValue80
 i67:=by kernel_rfl
 g0:=by kernel_rfl
 m0:=by kernel_rfl
 g1:=by kernel_rfl
 m1:=by kernel_rfl
 g2:=by kernel_rfl
 m2:=by kernel_rfl
 g3:=by kernel_rfl
 m3:=by kernel_rfl
 g4:=by kernel_rfl
 m4:=by kernel_rfl }
open Go.RowKit in
theorem Tryz.strconv_ParseUint_10_at32_ok (s:ByteArray) (hmax:s.size≤9223372036854775806) (u:Nat) (h:Lib.parseUintB 32 s.data.toList = .ok u) (w:World) :
  Calls Tryz.prog 137 #[.string s,.int .i64 10,.int .i64 32] w fun e w'=>e = .returned (.tuple #[.int .u64 u,.nilIface])∧(w' = w ∨ w' = Lib.bytesWorld w 5 s):=Any.strconv_ParseUint_10_at32_ok Tryz.laysPu14 s hmax u h w
end Go.Proofs
namespace Go.Proofs.YtcmbggahndfnnaaGreatDoor.Pt
open Go.RowKit Go.Proofs.YtcmbggahndfnnaaGreatDoorW.PrintWords Go.Proofs.YtcmbggahndfnnaaGreatDoorW.PrintLast Go.Proofs.YtcmbggahndfnnaaGreatDoorW.PrintMore
def strconv_ParseUint_137.f (s:ByteArray) (b c:Int):Option Int :=
 if b = 10∧c = 32∧s.size≤9223372036854775806 then (match Lib.parseUintB 32 s.data.toList with|.ok u=>some (u:Int)|_=>none) else none
theorem strconv_ParseUint_137.calls (a0:ByteArray) (a1 a2:Int) (r:Int) (w:World) (h:strconv_ParseUint_137.f a0 a1 a2 = some r) :
  Calls Tryz.prog 137 #[.string a0,.int .i64 a1,.int .i64 a2] w fun e w'=>e = .returned (.tuple #[.int .u64 r,.nilIface])∧Below w.heap.size w w':=by
 unfold strconv_ParseUint_137.f at h
 by_cases hc:a1 = 10∧a2 = 32∧a0.size≤9223372036854775806
 case neg=>rw [if_neg hc] at h;cases h
 rw [if_pos hc] at h
 obtain ⟨rfl,rfl,hs⟩:=hc
 cases hu:Lib.parseUintB 32 a0.data.toList with
 | ok u =>
  rw [hu] at h
  injection h with h
  subst h
  refine (Tryz.strconv_ParseUint_10_at32_ok a0 hs u hu w).mono ?_
  rintro e w' ⟨he,hw⟩
  refine ⟨he,?_⟩
  rcases hw with rfl|rfl
  ·exact Below.refl _ _
  ·exact Lib.bytesWorld_below w 5 a0
 | _=>rw [hu] at h;cases h
attribute [local go_sem] max2_int min2_int max_two min_two max_three min_three max_four min_four
set_option maxHeartbeats 8000000
set_option maxRecDepth 100000
def natural_read.l0:Nat→ByteArray→List Int→Option (List Int)
 | 0,_,_=>none
 | k + 1,x0,x3=>if (x0.size:Int) > 0 then (if 0≤(mx (wrap64 ((x0.size:Int) - 9)) 0) then (if (mx (wrap64 ((x0.size:Int) - 9)) 0)≤(x0.size:Int) then ((strconv_ParseUint_137.f (x0.extract ((mx (wrap64 ((x0.size:Int) - 9)) 0):Int).toNat x0.size) 10 32).bind fun t141=>(if x3.length < 35184372088832 then (natural_read.l0 k (x0.extract 0 ((mx (wrap64 ((x0.size:Int) - 9)) 0):Int).toNat) (x3 ++ [(t141) % 4294967296])) else (none))) else (none)) else (none)) else ((natural_num_trim.f k x3).bind fun t145=>(some t145))
def natural_read.f (k:Nat) (a0:ByteArray):Option (List Int):=natural_read.l0 k a0 ([]:List Int)
theorem natural_read.calls (k:Nat) (a0:ByteArray) (r:List Int) (w:World) (h:natural_read.f k a0 = some r) :
  Calls Tryz.prog 128 #[.string a0] w fun e w'=>∃ v0_:Value,e = .returned (v0_)∧Kd.V (Kd.int .u32) 101 w' w.heap.size (fun k_=>(w.heap.size≤k_)) v0_ r∧Below w.heap.size w w':=by
 have HB:=Aside0.mk (Below.refl w.heap.size w)
 have H:=h;clear h;unfold natural_read.f at H
 have H':=Aside0.mk H
 clear H
 go_enter Tryz.func128,Tryz.ntmps128
 go_wp2
 go_loopg [0,3] k (fun kq v0 v3 w'=>∃ (Aa:ByteArray) (Ab:List Int),v0 = .string Aa∧Aside0 (natural_read.l0 kq Aa Ab = some r)∧Aside0 (kq≤k)∧Aside0 (Kd.R (Kd.int .u32) 101 w' w.heap.size (fun k_=>(w.heap.size≤k_)) v3 Ab)∧Aside0 (Below w.heap.size w w'))
 case atStart=>exact ⟨(a0),(([]:List Int)),rg_,H',⟨Nat.le_refl _⟩,⟨by first|exact Kd.R_nil _ _ _ _ _|exact Kd.N_nil _ _ _ _ _|exact Kd.V_nil _ _ _ _ _|exact Kd.Q_nil _ _ _ _ _|exact Kd.S_nil _ _ _ _ _⟩,⟨bx_⟩⟩
 case round =>
  clear H'
  obtain ⟨Aa,Ab,rfl,HA,As,Ac,HB⟩:=hrel
  cases gk with
  | zero=>exact absurd HA.out (by simp [natural_read.l0])
  | succ k1 =>
   have H:=HA.out
   clear HA
   simp only [natural_read.l0] at H
   by_cases c2:(Aa.size:Int) > 0
   ·rw [if_pos c2] at H
    have Am:decide (0 < (Aa.size:Int)) = true:=decide_eq_true c2
    have Al:decide (0 < Aa.size) = true:=decide_eq_true (by omega)
    clear c2
    obtain ⟨ji3,hji3⟩:∃ j_:Int,(mx (wrap64 ((Aa.size:Int) - 9)) 0) = j_:=⟨_,rfl⟩
    replace H:(if 0≤(ji3) then (if (ji3)≤(Aa.size:Int) then ((strconv_ParseUint_137.f (Aa.extract ((ji3):Int).toNat Aa.size) 10 32).bind fun Ad=>(if Ab.length < 35184372088832 then (natural_read.l0 k1 (Aa.extract 0 ((ji3):Int).toNat) (Ab ++ [(Ad) % 4294967296])) else (none))) else (none)) else (none)) = some r:=by first|(rw [hji3] at H;exact H)|(simp only [hji3] at H ⊢;exact H)
    have Aq:(if (wrap64 ((Aa.size:Int) - 9)) < 0 then 0 else (wrap64 ((Aa.size:Int) - 9))) = ji3:=hji3
    by_cases c4:0≤(ji3)
    ·rw [if_pos c4] at H
     have Bd:=eq_true c4
     have Bc:decide (0≤(ji3)) = true:=decide_eq_true c4
     clear c4
     by_cases c5:(ji3)≤(Aa.size:Int)
     ·rw [if_pos c5] at H
      have Bb:=eq_true c5
      have Ba:decide ((ji3)≤(Aa.size:Int)) = true:=decide_eq_true c5
      clear c5
      obtain ⟨Ad,A6,H⟩:=bn_ H
      by_cases c7:Ab.length < 35184372088832
      ·rw [if_pos c7] at H
       have An:=Aside0.mk c7
       clear c7
       obtain ⟨y142,hy142⟩:∃ y_:List Int,y_ = (Ab ++ [(Ad) % 4294967296]):=⟨_,rfl⟩
       replace H:(natural_read.l0 k1 (Aa.extract 0 ((ji3):Int).toNat) y142) = some r:=by first|(rw [hy142];with_reducible exact H)|(have Ao:=(Option.bind_some _ _).symm.trans H;rw [hy142];with_reducible exact Ao)|(have Ao:=(Option.bind_some _ _).symm.trans H;with_reducible exact Ao)|with_reducible exact H|(rw [hy142];exact H)|exact H
       have Af:=Aside0.mk hy142
       clear hy142
       have Ay:=eq_true (of_decide_eq_true (by first|(with_reducible assumption)|assumption):0≤(ji3))
       have Ax:=eq_true (of_decide_eq_true (by first|(with_reducible assumption)|assumption):(ji3)≤(Aa.size:Int))
       have H':=Aside0.mk H
       clear H
       go_wp2_with (first|((with_reducible refine gate_callee (f:=137) rfl ?_);refine goesL_ (some 18) rfl rfl Tryz.func137 kr_ rfl #[.string (Aa.extract ((ji3):Int).toNat Aa.size),.int .i64 10,.int .i64 32] rfl (by (try simp only [List.map_toArray,List.map_cons,List.map_nil]);first|done|(simp only [hji3];rfl)|rfl|(simp only [List.length_drop,List.length_take];rfl)) ?_;(with_reducible refine (strconv_ParseUint_137.calls (Aa.extract ((ji3):Int).toNat Aa.size) 10 32 Ad _ A6.out).mono ?_);rintro e Bh ⟨rfl,hb⟩;refine ⟨_,rfl,?_⟩;replace Ac:=rb_ Ac hb;replace HB:=bs_ hb;(try clear hb))|((with_reducible refine gate_builtin (b:=.append) (xs:=#[.tmp 21,.tmp 24]) rfl ?_);at_builtin;refine Kd.R_append (Kd.int .u32) (w0:=w) w.heap.size rfl (.tmp 21) (.tmp 24) 161 101 (.int .u32 0) 4 rfl Tryz.underlying161 info101 rfl de_ (by omega) u3 Ab ((Ad) % 4294967296) [.int .u32 ((Ad) % 4294967296)] (fun k_=>(w.heap.size≤k_)) (fun _=>False) rfl rfl ?aP (fun _ hk=>hk.elim) ?aF ?aO ?aB ?aS ?aL ?_;(case aP=>exact rfl);(case aB=>exact bx_);(case aF=>exact (fun k_ hk=>(Nat.le_trans (below_size bx_) hk)));(case aO=>exact (by (with_reducible repeat (first|apply Kd.R_alloc|apply Kd.R_drewN|apply Kd.R_drew));exact Ac.out));(case aS=>exact (below_size bx_));(case aL=>have:=An.out;omega);intro Au Bg ho hb hg hat;rw [← Af.out] at ho;have Ah:=Aside0.mk ho;replace HB:=Aside0.mk hb;clear Ac;clear ho hb hg hat))
       go_roundg k1
       case measure=>have:=As.out;omega
       case rel=>exact ⟨(Aa.extract 0 ((ji3):Int).toNat),(y142),(by first|rfl|(simp;done)|(simp only [← hji3]<;>(first|rfl|simp))|(simp [*];done)),H',⟨by have:=As.out;omega⟩,⟨by (with_reducible repeat (first|apply Kd.R_alloc|apply Kd.R_drewN|apply Kd.R_drew));exact Ah.out⟩,⟨bx_⟩⟩
      ·rw [if_neg c7] at H
       exact absurd H sm_
     ·rw [if_neg c5] at H
      exact absurd H sm_
    ·rw [if_neg c4] at H
     exact absurd H sm_
   ·rw [if_neg c2] at H
    have Am:decide (0 < (Aa.size:Int)) = false:=decide_eq_false c2
    have Al:decide (0 < Aa.size) = false:=decide_eq_false (by omega)
    clear c2
    obtain ⟨Aj,Be,H⟩:=bn_ H
    obtain rfl:=Option.some.inj H
    obtain ⟨Ai,Ae,Ak⟩:=Kd.R_slice Ac.out
    subst Ak
    go_wp2_with (first|((with_reducible refine gate_callee (f:=138) rfl ?_);refine gm_ (some 30) Tryz.func138 #[.slice Ai Ab.length Ae] ?_;(with_reducible refine (natural_num_trim.calls k1 (fun k_=>some k_ = (.slice Ai Ab.length Ae:Value).ownBlock) _ _ Ab Aj _ ?side1 Be.out).mono ?_);(case side1=>exact Kd.R_V (Kd.R_tight rfl (Ac.out)));rintro e Bf ⟨At,rfl,Ap,hb⟩;refine ⟨_,rfl,?_⟩;have Ag:=Aside0.mk (Kd.V_lower (Kd.V_mono (ok':=fun k_=>(w.heap.size≤k_)) Ap (fun k_ hk_=>Or.elim hk_ (fun Av=>((Ac.out).1 k_ Av.symm)) (fun Aw=>(Nat.le_trans (below_size bx_) Aw)))) (below_size bx_));replace Ac:=rb_ Ac hb;replace HB:=bs_ hb;(try clear hb);(try clear Ap)))
    go_ret
    exact ⟨_,rf_,by (with_reducible repeat (first|apply Kd.V_alloc|apply Kd.V_drewN|apply Kd.V_drew));exact Ag.out,bx_⟩
end Go.Proofs.YtcmbggahndfnnaaGreatDoor.Pt
namespace Go.Proofs.YtcmbggahndfnnaaGreatDoor.Pr
open Go.RowKit Go.Proofs.YtcmbggahndfnnaaGreatDoorW.PrintWords Go.Proofs.YtcmbggahndfnnaaGreatDoorW.PrintLast Go.Proofs.YtcmbggahndfnnaaGreatDoorW.PrintMore
attribute [local go_sem] max2_int min2_int max_two min_two max_three min_three max_four min_four
theorem R_take {e:Nat} {w:World} {base:Nat} {ok:Nat→Prop} {a:Addr} {n c m:Nat} {xs:List Int} (h:Kd.R (Kd.int .u32) e w base ok (.slice (some a) n c) xs) (hm:m≤xs.length):Kd.R (Kd.int .u32) e w base ok (.slice (some a) m c) (xs.take m):=by
 obtain ⟨h0,Aa,⟨hl,ho⟩,hr⟩:=h
 rcases ho with ⟨h1,_⟩|⟨g,cap,cur,h1,hg,hh,hn,hc,hs,ht⟩
 ·cases h1
 ·injection h1 with ha hn' hc'
  subst hc'
  cases ha
  have hml:(xs.take m).length = m:=by rw [List.length_take];omega
  have hms:m * (Kd.int .u32).sz≤xs.length * (Kd.int .u32).sz:=Nat.mul_le_mul_right _ hm
  refine ⟨h0,Aa.take (m * (Kd.int .u32).sz),⟨by rw [hml,List.length_take];omega,.inr ⟨g,c,cur,by rw [hml],hg,hh,by omega,hc,hs,?_⟩⟩,?_⟩
  ·rw [hml,← ht,List.take_take,Nat.min_eq_left hms]
  ·refine ⟨by rw [List.length_take,hml];have:=hr.1;omega,fun j p hj=>?_⟩
   have hjm:j < m:=by
    have:=(List.getElem?_eq_some_iff.1 hj).1
    omega
   rw [List.getElem?_take_of_lt hjm] at hj
   have h2:=hr.2 j p hj
   have h3:j * (Kd.int .u32).sz + (Kd.int .u32).sz≤m * (Kd.int .u32).sz:=by
    rw [← Nat.succ_mul]
    exact Nat.mul_le_mul_right _ hjm
   rw [List.drop_take,List.take_take,Nat.min_eq_left (by omega)]
   exact h2
set_option maxHeartbeats 8000000 in
set_option maxRecDepth 100000 in
theorem trim_own (k:Nat) (base:Nat) (ok:Nat→Prop) (A0:Option Addr) (c0:Nat) (l0:List Int) (r:List Int) (w:World) (hs0:Kd.R (Kd.int .u32) 101 w base ok (.slice A0 l0.length c0) l0) (h:natural_num_trim.f k l0 = some r) :
  Calls Tryz.prog 138 #[.slice A0 l0.length c0] w fun e w'=>∃ v0_:Value,e = .returned (v0_)∧Kd.R (Kd.int .u32) 101 w' base ok v0_ r∧Below w.heap.size w w':=by
 have Bn:=Aside0.mk hs0
 have HB:=Aside0.mk (Below.refl w.heap.size w)
 have H:(natural_num_trim.l0 k l0) = some r:=h
 clear h
 have H':=Aside0.mk H
 clear H
 go_enter Tryz.func138,Tryz.ntmps138
 go_wp2
 go_loopg [0] k (fun kq v0 w'=>∃ (Aa:List Int),Aside0 (natural_num_trim.l0 kq Aa = some r)∧Aside0 (kq≤k)∧Aside0 (Kd.R (Kd.int .u32) 101 w' base ok v0 Aa)∧Aside0 (Below w.heap.size w w'))
 case atStart=>exact ⟨(l0),H',⟨Nat.le_refl _⟩,⟨by (with_reducible repeat (first|apply Kd.R_alloc|apply Kd.R_drewN|apply Kd.R_drew));exact Bn.out⟩,⟨by repeat (first|(with_reducible first|exact HB.out|apply below_alloc|apply pw_below_drewN|apply below_drew1)|exact HB.out)⟩⟩
 case round =>
  clear H'
  obtain ⟨Aa,HA,Bb,Ab,HB⟩:=hrel
  cases gk with
  | zero=>exact absurd HA.out (by simp [natural_num_trim.l0])
  | succ k1 =>
   have H:=HA.out
   clear HA
   simp only [natural_num_trim.l0] at H
   by_cases c2:(Aa.length:Int) > 0
   ·rw [if_pos c2] at H
    have Ax:decide (0 < (Aa.length:Int)) = true:=decide_eq_true c2
    have Aw:decide (0 < Aa.length) = true:=decide_eq_true (by omega)
    clear c2
    obtain ⟨ji3,hji3⟩:∃ j_:Int,(wrap64 ((Aa.length:Int) - 1)) = j_:=⟨_,rfl⟩
    replace H:(if 0≤(ji3) then (if (ji3) < (Aa.length:Int) then (if (rd Aa (ji3)) = 0 then (if (ji3)≤(Aa.length:Int) then (natural_num_trim.l0 k1 (Aa.take ((ji3):Int).toNat)) else (none)) else (some Aa)) else (none)) else (none)) = some r:=by first|(rw [hji3] at H;exact H)|(simp only [hji3] at H ⊢;exact H)
    have Ba:(IntKind.i64.wrap ((Aa.length:Int) - 1)) = ji3:=(i64_w _).trans hji3
    by_cases c4:0≤(ji3)
    ·rw [if_pos c4] at H
     have Bl:decide (0≤(ji3)) = true:=decide_eq_true c4
     clear c4
     by_cases c5:(ji3) < (Aa.length:Int)
     ·rw [if_pos c5] at H
      have Bk:decide ((ji3) < (Aa.length:Int)) = true:=decide_eq_true c5
      clear c5
      by_cases c6:(rd Aa (ji3)) = 0
      ·rw [if_pos c6] at H
       have Av:((rd Aa (ji3)) == 0) = true:=beq_iff_eq.mpr c6
       have Au:((rd Aa (ji3)) != 0) = false:=bne_eq_false_iff_eq.mpr c6
       clear c6
       have Bj:=eq_true (of_decide_eq_true (by first|(with_reducible assumption)|assumption):0≤(ji3))
       by_cases c8:(ji3)≤(Aa.length:Int)
       ·rw [if_pos c8] at H
        have Bi:=eq_true c8
        have Bh:decide ((ji3)≤(Aa.length:Int)) = true:=decide_eq_true c8
        clear c8
        obtain ⟨y102,hy102⟩:∃ y_:List Int,y_ = (Aa.take ((ji3):Int).toNat):=⟨_,rfl⟩
        replace H:(natural_num_trim.l0 k1 y102) = some r:=by first|(rw [hy102];with_reducible exact H)|(have Ay:=(Option.bind_some _ _).symm.trans H;rw [hy102];with_reducible exact Ay)|(have Ay:=(Option.bind_some _ _).symm.trans H;with_reducible exact Ay)|with_reducible exact H|(rw [hy102];exact H)|exact H
        have Aj:=Aside0.mk hy102
        clear hy102
        have H':=Aside0.mk H
        clear H
        obtain ⟨Bq,Ap,Be⟩:=Kd.R_slice Ab.out
        subst Be
        have Ad:0≤((ji3):Int):=of_decide_eq_true (by first|(with_reducible assumption)|assumption)
        have Ac:(ji3) < (Aa.length:Int):=of_decide_eq_true (by first|(with_reducible assumption)|assumption)
        obtain ⟨Ag,Al,Ah⟩:=Kd.at_int (Kd.V_reads' (Kd.R_V (base':=base) Ab.out)).2.2 (ji3) Ad Ac
        cases Al
        replace Ad:=eq_true Ad
        replace Ac:=eq_true Ac
        have Aq:((ji3):Int)≤((Aa.length:Int):Int):=of_decide_eq_true (by first|(with_reducible assumption)|assumption)
        obtain ⟨Bd,Ai,_,Am,_⟩:=info_parts info101
        have Ae:Aa.length≤Ap:=(Kd.V_reads' (Kd.R_V (base':=base) Ab.out)).2.1
        have Ak:=cut_to (P:=Tryz.prog) 161 101 .i64 Tryz.underlying161 Ai (some Ag) Aa.length Ap (ji3) (of_decide_eq_true (by first|(with_reducible assumption)|assumption)) Aq Ae
        have An:=R_take (m:=((ji3):Int).toNat) Ab.out (by omega)
        have Af:y102.length = ((ji3):Int).toNat:=(by rw [Aj.out,List.length_take];omega)
        rw [← Af] at Ak
        have Ao:=Aside0.mk (show Kd.R (Kd.int .u32) 101 _ base ok (.slice (some Ag) y102.length Ap) y102 from by rw [Aj.out] at Af ⊢;rw [Af];exact An)
        have Bc:=Aside0.mk (show y102.length≤Ap from by omega)
        clear An Ae Ai Am
        have Bm:=Aside0.mk Af
        clear Af
        replace Aq:=eq_true Aq
        go_wp2
        go_roundg k1
        case measure=>have:=Bb.out;omega
        case rel=>exact ⟨(y102),H',⟨by have:=Bb.out;omega⟩,⟨by (with_reducible repeat (first|apply Kd.R_alloc|apply Kd.R_drewN|apply Kd.R_drew));exact Ao.out⟩,⟨by repeat (first|(with_reducible first|exact HB.out|apply below_alloc|apply pw_below_drewN|apply below_drew1)|exact HB.out)⟩⟩
       ·rw [if_neg c8] at H
        exact absurd H (by simp)
      ·rw [if_neg c6] at H
       have Av:((rd Aa (ji3)) == 0) = false:=beq_eq_false_iff_ne.mpr c6
       have Au:((rd Aa (ji3)) != 0) = true:=bne_iff_ne.mpr c6
       obtain rfl:=Option.some.inj H
       obtain ⟨Bp,Bg,At⟩:=Kd.R_slice Ab.out
       subst At
       have Ad:0≤((ji3):Int):=of_decide_eq_true (by first|(with_reducible assumption)|assumption)
       have Ac:(ji3) < (Aa.length:Int):=of_decide_eq_true (by first|(with_reducible assumption)|assumption)
       obtain ⟨Ag,Al,Ah⟩:=Kd.at_int (Kd.V_reads' (Kd.R_V (base':=base) Ab.out)).2.2 (ji3) Ad Ac
       cases Al
       replace Ad:=eq_true Ad
       replace Ac:=eq_true Ac
       go_wp2
       go_ret
       exact ⟨_,by first|rfl|(simp [errW_none,errW_some]<;>rfl)|(simp only [← hji3];first|rfl|(simp [errW_none,errW_some]<;>rfl))|(simp [*,errW_none,errW_some]<;>rfl),by (with_reducible repeat (first|apply Kd.R_alloc|apply Kd.R_drewN|apply Kd.R_drew));exact Ab.out,by repeat (first|(with_reducible first|exact HB.out|apply below_alloc|apply pw_below_drewN|apply below_drew1)|exact HB.out)⟩
     ·rw [if_neg c5] at H
      exact absurd H (by simp)
    ·rw [if_neg c4] at H
     exact absurd H (by simp)
   ·rw [if_neg c2] at H
    have Ax:decide (0 < (Aa.length:Int)) = false:=decide_eq_false c2
    have Aw:decide (0 < Aa.length) = false:=decide_eq_false (by omega)
    clear c2
    obtain rfl:=Option.some.inj H
    obtain ⟨Bo,Bf,As⟩:=Kd.R_slice Ab.out
    subst As
    go_wp2
    go_ret
    exact ⟨_,by first|rfl|(simp [errW_none,errW_some]<;>rfl)|(simp [*,errW_none,errW_some]<;>rfl),by (with_reducible repeat (first|apply Kd.R_alloc|apply Kd.R_drewN|apply Kd.R_drew));exact Ab.out,by repeat (first|(with_reducible first|exact HB.out|apply below_alloc|apply pw_below_drewN|apply below_drew1)|exact HB.out)⟩
end Go.Proofs.YtcmbggahndfnnaaGreatDoor.Pr
namespace Go.Proofs.YtcmbggahndfnnaaGreatDoor.Pt
open Go.RowKit Go.Proofs.YtcmbggahndfnnaaGreatDoorW.PrintWords Go.Proofs.YtcmbggahndfnnaaGreatDoorW.PrintLast Go.Proofs.YtcmbggahndfnnaaGreatDoorW.PrintMore
attribute [local go_sem] max2_int min2_int max_two min_two max_three min_three max_four min_four
open Go.Proofs.YtcmbggahndfnnaaGreatDoor.Pr (trim_own)
theorem trim_same:∀ k l,natural_num_trim.f k l = Pr.natural_num_trim.f k l:=by
 intro k
 unfold natural_num_trim.f Pr.natural_num_trim.f
 induction k with
 | zero=>intro l;rfl
 | succ k ih =>
  intro l
  unfold natural_num_trim.l0 Pr.natural_num_trim.l0
  simp only [ih]
set_option maxHeartbeats 8000000 in
set_option maxRecDepth 100000 in
theorem read_own (k:Nat) (a0:ByteArray) (r:List Int) (w:World) (h:natural_read.f k a0 = some r) :
  Calls Tryz.prog 128 #[.string a0] w fun e w'=>∃ v0_:Value,e = .returned (v0_)∧Kd.R (Kd.int .u32) 101 w' w.heap.size (fun k_=>(w.heap.size≤k_)) v0_ r∧Below w.heap.size w w':=by
 have HB:=Aside0.mk (Below.refl w.heap.size w)
 have H:(natural_read.l0 k a0 ([]:List Int)) = some r:=h
 clear h
 have H':=Aside0.mk H
 clear H
 go_enter Tryz.func128,Tryz.ntmps128
 go_wp2
 go_loopg [0,3] k (fun kq v0 v3 w'=>∃ (Aa:ByteArray) (Ab:List Int),v0 = .string Aa∧Aside0 (natural_read.l0 kq Aa Ab = some r)∧Aside0 (kq≤k)∧Aside0 (Kd.R (Kd.int .u32) 101 w' w.heap.size (fun k_=>(w.heap.size≤k_)) v3 Ab)∧Aside0 (Below w.heap.size w w'))
 case atStart=>exact ⟨(a0),(([]:List Int)),(by first|rfl|(simp;done)|(simp [*];done)),H',⟨Nat.le_refl _⟩,⟨by first|exact Kd.R_nil _ _ _ _ _|exact Kd.N_nil _ _ _ _ _|exact Kd.V_nil _ _ _ _ _|exact Kd.Q_nil _ _ _ _ _|exact Kd.S_nil _ _ _ _ _⟩,⟨by repeat (first|(with_reducible first|exact HB.out|apply below_alloc|apply pw_below_drewN|apply below_drew1)|exact HB.out)⟩⟩
 case round =>
  clear H'
  obtain ⟨Aa,Ab,rfl,HA,Aw,Ac,HB⟩:=hrel
  cases gk with
  | zero=>exact absurd HA.out (by simp [natural_read.l0])
  | succ k1 =>
   have H:=HA.out
   clear HA
   simp only [natural_read.l0] at H
   by_cases c2:(Aa.size:Int) > 0
   ·rw [if_pos c2] at H
    have Ao:decide (0 < (Aa.size:Int)) = true:=decide_eq_true c2
    have An:decide (0 < Aa.size) = true:=decide_eq_true (by omega)
    clear c2
    obtain ⟨ji3,hji3⟩:∃ j_:Int,(mx (wrap64 ((Aa.size:Int) - 9)) 0) = j_:=⟨_,rfl⟩
    replace H:(if 0≤(ji3) then (if (ji3)≤(Aa.size:Int) then ((strconv_ParseUint_137.f (Aa.extract ((ji3):Int).toNat Aa.size) 10 32).bind fun Ad=>(if Ab.length < 35184372088832 then (natural_read.l0 k1 (Aa.extract 0 ((ji3):Int).toNat) (Ab ++ [(Ad) % 4294967296])) else (none))) else (none)) else (none)) = some r:=by first|(rw [hji3] at H;exact H)|(simp only [hji3] at H ⊢;exact H)
    have Av:(if (wrap64 ((Aa.size:Int) - 9)) < 0 then 0 else (wrap64 ((Aa.size:Int) - 9))) = ji3:=hji3
    by_cases c4:0≤(ji3)
    ·rw [if_pos c4] at H
     have Bg:=eq_true c4
     have Bf:decide (0≤(ji3)) = true:=decide_eq_true c4
     clear c4
     by_cases c5:(ji3)≤(Aa.size:Int)
     ·rw [if_pos c5] at H
      have Be:=eq_true c5
      have Bd:decide ((ji3)≤(Aa.size:Int)) = true:=decide_eq_true c5
      clear c5
      replace H:=Option.bind_eq_some_iff.mp H
      obtain ⟨Ad,Ax,H⟩:=H
      replace H:(if Ab.length < 35184372088832 then (natural_read.l0 k1 (Aa.extract 0 ((ji3):Int).toNat) (Ab ++ [(Ad) % 4294967296])) else (none)) = some r:=H
      have A6:=Aside0.mk Ax
      clear Ax
      by_cases c7:Ab.length < 35184372088832
      ·rw [if_pos c7] at H
       have Ap:=Aside0.mk c7
       clear c7
       obtain ⟨y142,hy142⟩:∃ y_:List Int,y_ = (Ab ++ [(Ad) % 4294967296]):=⟨_,rfl⟩
       replace H:(natural_read.l0 k1 (Aa.extract 0 ((ji3):Int).toNat) y142) = some r:=by first|(rw [hy142];with_reducible exact H)|(have Aq:=(Option.bind_some _ _).symm.trans H;rw [hy142];with_reducible exact Aq)|(have Aq:=(Option.bind_some _ _).symm.trans H;with_reducible exact Aq)|with_reducible exact H|(rw [hy142];exact H)|exact H
       have Ah:=Aside0.mk hy142
       clear hy142
       have Bc:=eq_true (of_decide_eq_true (by first|(with_reducible assumption)|assumption):0≤(ji3))
       have Bb:=eq_true (of_decide_eq_true (by first|(with_reducible assumption)|assumption):(ji3)≤(Aa.size:Int))
       have H':=Aside0.mk H
       clear H
       go_wp2_with (first|((with_reducible refine gate_callee (f:=137) rfl ?_);refine goesL_ (some 18) rfl rfl Tryz.func137 (by kernel_rfl) rfl #[.string (Aa.extract ((ji3):Int).toNat Aa.size),.int .i64 10,.int .i64 32] rfl (by (try simp only [List.map_toArray,List.map_cons,List.map_nil]);first|done|(simp only [hji3];rfl)|rfl|(simp only [List.length_drop,List.length_take];rfl)) ?_;(with_reducible refine (strconv_ParseUint_137.calls (Aa.extract ((ji3):Int).toNat Aa.size) 10 32 Ad _ A6.out).mono ?_);rintro e Bk ⟨rfl,hb⟩;refine ⟨_,rfl,?_⟩;have Ag:=Aside0.mk (Kd.R_below (by (with_reducible repeat (first|apply Kd.R_alloc|apply Kd.R_drewN|apply Kd.R_drew));exact Ac.out) hb);have Ae:=Aside0.mk (below_step (by repeat (first|(with_reducible first|exact HB.out|apply below_alloc|apply pw_below_drewN|apply below_drew1)|exact HB.out)) hb);clear Ac;clear HB;have Ac:=Ag;have HB:=Ae;clear Ag Ae;(try clear hb);(try clear hb2);(try clear hk);(try clear hi))|((with_reducible refine gate_builtin (b:=.append) (xs:=#[.tmp 21,.tmp 24]) rfl ?_);at_builtin;refine Kd.R_append (Kd.int .u32) (w0:=w) w.heap.size rfl (.tmp 21) (.tmp 24) 161 101 (.int .u32 0) 4 rfl Tryz.underlying161 info101 rfl (by decide) (by omega) u3 Ab ((Ad) % 4294967296) [.int .u32 ((Ad) % 4294967296)] (fun k_=>(w.heap.size≤k_)) (fun _=>False) rfl rfl ?aP (fun _ hk=>hk.elim) ?aF ?aO ?aB ?aS ?aL ?_;(case aP=>exact rfl);(case aB=>exact (by repeat (first|(with_reducible first|exact HB.out|apply below_alloc|apply pw_below_drewN|apply below_drew1)|exact HB.out)));(case aF=>exact (fun k_ hk=>(Nat.le_trans (below_size (by repeat (first|(with_reducible first|exact HB.out|apply below_alloc|apply pw_below_drewN|apply below_drew1)|exact HB.out))) hk)));(case aO=>exact (by (with_reducible repeat (first|apply Kd.R_alloc|apply Kd.R_drewN|apply Kd.R_drew));exact Ac.out));(case aS=>exact (below_size (by repeat (first|(with_reducible first|exact HB.out|apply below_alloc|apply pw_below_drewN|apply below_drew1)|exact HB.out))));(case aL=>have:=Ap.out;omega);intro Ba Bj ho hb hg hat;rw [← Ah.out] at ho;have Ag:=Aside0.mk (hb);have Ae:=Aside0.mk (ho);clear HB;clear Ac;have HB:=Ag;have Aj:=Ae;clear Ag Ae;clear ho hb hg hat))
       go_roundg k1
       case measure=>have:=Aw.out;omega
       case rel=>exact ⟨(Aa.extract 0 ((ji3):Int).toNat),(y142),(by first|rfl|(simp;done)|(simp only [← hji3]<;>(first|rfl|simp))|(simp [*];done)),H',⟨by have:=Aw.out;omega⟩,⟨by (with_reducible repeat (first|apply Kd.R_alloc|apply Kd.R_drewN|apply Kd.R_drew));exact Aj.out⟩,⟨by repeat (first|(with_reducible first|exact HB.out|apply below_alloc|apply pw_below_drewN|apply below_drew1)|exact HB.out)⟩⟩
      ·rw [if_neg c7] at H
       exact absurd H (by simp)
     ·rw [if_neg c5] at H
      exact absurd H (by simp)
    ·rw [if_neg c4] at H
     exact absurd H (by simp)
   ·rw [if_neg c2] at H
    have Ao:decide (0 < (Aa.size:Int)) = false:=decide_eq_false c2
    have An:decide (0 < Aa.size) = false:=decide_eq_false (by omega)
    clear c2
    replace H:=Option.bind_eq_some_iff.mp H
    obtain ⟨Af,Ak,H⟩:=H
    replace H:(some Af) = some r:=H
    have Bh:=Aside0.mk Ak
    clear Ak
    obtain rfl:=Option.some.inj H
    obtain ⟨As,Am,Al⟩:=Kd.R_slice Ac.out
    subst Al
    go_wp2_with (first|((with_reducible refine gate_callee (f:=138) rfl ?_);refine goesL_ (some 30) rfl rfl Tryz.func138 (by kernel_rfl) rfl #[.slice As Ab.length Am] rfl (by (try simp only [List.map_toArray,List.map_cons,List.map_nil]);first|done|rfl|(simp only [List.length_drop,List.length_take];rfl)) ?_;(refine (trim_own k1 w.heap.size (fun k_=>(w.heap.size≤k_)) _ _ Ab Af _ ?side1 ((trim_same _ _).symm.trans Bh.out)).mono ?_);(case side1=>(with_reducible repeat (first|apply Kd.R_alloc|apply Kd.R_drewN|apply Kd.R_drew));exact Ac.out);rintro e Bi ⟨Ay,rfl,Au,hb⟩;refine ⟨_,rfl,?_⟩;have Ae:=Aside0.mk Au;have At:=Aside0.mk (below_step (by repeat (first|(with_reducible first|exact HB.out|apply below_alloc|apply pw_below_drewN|apply below_drew1)|exact HB.out)) hb);clear Ac;clear HB;have Ai:=Ae;have HB:=At;clear Ae At;(try clear hb);(try clear hb2);(try clear hk);(try clear hi);(try clear Au)))
    go_ret
    exact ⟨_,by first|rfl|(simp [errW_none,errW_some]<;>rfl)|(simp [*,errW_none,errW_some]<;>rfl),by (with_reducible repeat (first|apply Kd.R_alloc|apply Kd.R_drewN|apply Kd.R_drew));exact Ai.out,by repeat (first|(with_reducible first|exact HB.out|apply below_alloc|apply pw_below_drewN|apply below_drew1)|exact HB.out)⟩
end Go.Proofs.YtcmbggahndfnnaaGreatDoor.Pt
namespace Go.Proofs.YtcmbggahndfnnaaGreatDoor.NatTh
open Go.Lib
def dg (d:Nat):UInt8:=UInt8.ofNat (48 + d)
theorem dec_small (n:Nat) (h:n < 10):decDigits n = [dg n]:=by rw [decDigits,dif_pos h];rfl
theorem dec_big (n:Nat) (h:¬ n < 10):decDigits n = decDigits (n / 10) ++ [dg (n % 10)]:=by rw [decDigits,dif_neg h];rfl
def pad:Nat→Nat→List UInt8
 | 0,_=>[]
 | k + 1,w=>pad k (w / 10) ++ [dg (w % 10)]
theorem dec_pad (k:Nat):∀ (x w:Nat),0 < x→w < 10 ^ k→decDigits (x * 10 ^ k + w) = decDigits x ++ pad k w:=by
 induction k with
 | zero=>intro x w hx hw;simp at hw;subst hw;simp [pad]
 | succ k ih =>
  intro x w hx hw
  have e:x * 10 ^ (k + 1) + w = 10 * (x * 10 ^ k + w / 10) + w % 10:=by
   rw [Nat.pow_succ,Nat.mul_add,← Nat.mul_assoc,Nat.mul_comm 10 (x * 10 ^ k),Nat.mul_assoc x]
   rw [← Nat.mul_assoc]
   omega
  have hk:0 < 10 ^ k:=Nat.pow_pos (by omega)
  have hxk:1≤x * 10 ^ k:=Nat.mul_pos hx hk
  have Aa:w / 10 < 10 ^ k:=by
   rw [Nat.pow_succ] at hw
   omega
  rw [e,dec_big _ (by omega),show (10 * (x * 10 ^ k + w / 10) + w % 10) / 10 = x * 10 ^ k + w / 10 by omega,show (10 * (x * 10 ^ k + w / 10) + w % 10) % 10 = w % 10 by omega,ih x (w / 10) hx Aa,pad,List.append_assoc]
theorem pad_zero (k:Nat):pad k 0 = List.replicate k 48:=by
 induction k with
 | zero=>rfl
 | succ k ih =>
  rw [pad,List.replicate_succ']
  show pad k (0 / 10) ++ [dg 0] = _
  rw [Nat.zero_div,ih]
  rfl
theorem nDigits_le (k w:Nat) (hk:1≤k) (hw:w < 10 ^ k):nDigits w≤k:=by
 induction k generalizing w with
 | zero=>omega
 | succ k ih =>
  by_cases h:w < 10
  ·rw [nDigits_small h];omega
  ·rw [nDigits_big h]
   have Aa:1≤k:=by
    by_cases e:k = 0
    ·subst e;simp at hw;omega
    ·omega
   have:=ih (w / 10) Aa (by rw [Nat.pow_succ] at hw;omega)
   omega
theorem pad_eq (k:Nat):∀ w,1≤k→w < 10 ^ k→pad k w = List.replicate (k - (decDigits w).length) 48 ++ decDigits w:=by
 induction k with
 | zero=>intro w h;omega
 | succ k ih =>
  intro w _ hw
  by_cases h:w < 10
  ·rw [pad,Nat.div_eq_of_lt h,pad_zero,Nat.mod_eq_of_lt h,dec_small w h]
   rfl
  ·have hk:1≤k:=by
    by_cases e:k = 0
    ·subst e;simp at hw;omega
    ·omega
   have Aa:w / 10 < 10 ^ k:=by rw [Nat.pow_succ] at hw;omega
   have hl:=nDigits_le k (w / 10) hk Aa
   rw [pad,ih (w / 10) hk Aa,dec_big w h,List.length_append,List.length_singleton,List.append_assoc]
   rw [show k + 1 - ((decDigits (w / 10)).length + 1) = k - (decDigits (w / 10)).length by omega]
def pv (l:List UInt8):Nat:=l.foldl (fun a c=>a * 10 + (c.toNat - 48)) 0
theorem pv_snoc (l:List UInt8) (c:UInt8):pv (l ++ [c]) = pv l * 10 + (c.toNat - 48):=by
 unfold pv
 rw [List.foldl_append]
 rfl
def isDig (c:UInt8):Prop:=48≤c.toNat∧c.toNat≤57
def Nml (l:List UInt8):Prop:=(∀ c ∈ l,isDig c)∧l≠[]∧(1 < l.length→l.head?≠some 48)
theorem pv_lt (l:List UInt8) (h:∀ c ∈ l,isDig c):pv l < 10 ^ l.length:=by
 suffices H:∀ (n:Nat) (l:List UInt8),l.length = n→(∀ c ∈ l,isDig c)→pv l < 10 ^ n from H _ l rfl h
 intro n
 induction n with
 | zero =>
  intro l hl _
  have:l = []:=List.eq_nil_of_length_eq_zero hl
  subst this
  decide
 | succ n ih =>
  intro l hl h
  rcases List.eq_nil_or_concat l with rfl|⟨a,c,rfl⟩
  ·simp at hl
  ·rw [List.concat_eq_append] at h hl ⊢
   have h1:=ih a (by simpa using hl) (fun x hx=>h x (by simp [hx]))
   have h2:=h c (by simp)
   unfold isDig at h2
   rw [pv_snoc,Nat.pow_succ]
   omega
theorem pv_append (a b:List UInt8):pv (a ++ b) = pv a * 10 ^ b.length + pv b:=by
 suffices H:∀ (n:Nat) (b:List UInt8),b.length = n→pv (a ++ b) = pv a * 10 ^ n + pv b from H _ b rfl
 intro n
 induction n with
 | zero =>
  intro b hb
  have:b = []:=List.eq_nil_of_length_eq_zero hb
  subst this
  simp [pv]
 | succ n ih =>
  intro b hb
  rcases List.eq_nil_or_concat b with rfl|⟨b',c,rfl⟩
  ·simp at hb
  ·rw [List.concat_eq_append] at hb ⊢
   rw [← List.append_assoc,pv_snoc,pv_snoc,ih b' (by simpa using hb),Nat.pow_succ,Nat.add_mul,← Nat.mul_assoc]
   omega
theorem parse_digs (M:Nat) (hM:M < 1844674407370955162):∀ (l:List UInt8) (acc:Nat),(∀ c ∈ l,isDig c)→l.foldl (fun a c=>a * 10 + (c.toNat - 48)) acc≤M→parseUintM M acc l = .ok (l.foldl (fun a c=>a * 10 + (c.toNat - 48)) acc)
 | [],acc,_,_=>rfl
 | c :: r,acc,h,hm=>by
  have hc:=h c (by simp)
  unfold isDig at hc
  have mono:∀ (r:List UInt8) (x:Nat),x≤r.foldl (fun a c=>a * 10 + (c.toNat - 48)) x:=by
   intro r
   induction r with
   | nil=>intro x;exact Nat.le_refl _
   | cons d r ih=>intro x;exact Nat.le_trans (by omega) (ih (x * 10 + (d.toNat - 48)))
  have h1:=mono r (acc * 10 + (c.toNat - 48))
  rw [List.foldl_cons] at hm ⊢
  unfold parseUintM
  rw [if_pos hc,if_neg (by omega),if_neg (by omega)]
  exact parse_digs M hM r _ (fun x hx=>h x (by simp [hx])) hm
theorem parse32 (l:List UInt8) (h:∀ c ∈ l,isDig c) (hl:1≤l.length) (hl9:l.length≤9):parseUintB 32 l = .ok (pv l):=by
 have h1:=pv_lt l h
 have h2:10 ^ l.length≤10 ^ 9:=Nat.pow_le_pow_right (by omega) hl9
 unfold parseUintB
 rw [if_neg (fun e=>by rw [e] at hl;simp at hl)]
 exact parse_digs _ (by decide) l 0 h (by unfold pv at h1;omega)
def txt:List Int→List UInt8
 | []=>[]
 | [w]=>decDigits w.toNat
 | w :: y :: l=>txt (y :: l) ++ pad 9 w.toNat
def text (l:List Int):List UInt8:=if l = [] then [48] else txt l
theorem txt_numOf (n:Nat):0 < n→txt (numOf n) = decDigits n:=by
 induction n using Nat.strongRecOn with
 | ind n ih =>
  intro hn
  by_cases h:n < 1000000000
  ·rw [numOf_one h hn,txt]
   rfl
  ·have h1:=ih (n / 1000000000) (Nat.div_lt_self (by omega) (by omega)) (by omega)
   rw [numOf,dif_neg (by omega)]
   have hl:=len_pos (show 0 < n / 1000000000 by omega)
   obtain ⟨y,l,hy⟩:=List.exists_cons_of_ne_nil (List.length_pos_iff.1 hl)
   rw [hy] at h1 ⊢
   rw [txt,h1,Int.toNat_natCast]
   have:=dec_pad 9 (n / 1000000000) (n % 1000000000) (by omega) (Nat.mod_lt _ (by omega))
   rw [← this]
   congr 1
   omega
theorem text_numOf (n:Nat):text (numOf n) = decDigits n:=by
 by_cases h:n = 0
 ·subst h
  rw [numOf_zero,dec_small 0 (by omega)]
  rfl
 ·unfold text
  rw [if_neg (fun e=>h (numOf_nil.1 e)),txt_numOf n (by omega)]
def words (l:List UInt8):List Int:=if h:l = [] then [] else (pv (l.drop (l.length - 9)):Int) :: words (l.take (l.length - 9))
 termination_by l.length
 decreasing_by
  have:=List.length_pos_iff.2 h
  rw [List.length_take]
  omega
theorem words_nil:words [] = []:=by rw [words];simp
theorem words_spec (n:Nat):∀ l:List UInt8,l.length = n→(∀ c ∈ l,isDig c)→Wd (words l)∧val (words l) = pv l:=by
 induction n using Nat.strongRecOn with
 | ind n ih =>
  intro l hl hd
  by_cases h:l = []
  ·subst h
   rw [words_nil]
   exact ⟨Wd.nil,rfl⟩
  ·have hp:=List.length_pos_iff.2 h
   obtain ⟨h1,h2⟩:=ih (l.take (l.length - 9)).length (by rw [List.length_take];omega) _ rfl (fun c hc=>hd c (List.mem_of_mem_take hc))
   have h3:=pv_lt (l.drop (l.length - 9)) (fun c hc=>hd c (List.mem_of_mem_drop hc))
   have h4:10 ^ (l.drop (l.length - 9)).length≤10 ^ 9:=Nat.pow_le_pow_right (by omega) (by rw [List.length_drop];omega)
   rw [words,dif_neg h]
   refine ⟨Wd.cons ⟨by omega,by unfold B;omega⟩ h1,?_⟩
   rw [val,h2]
   have e:=pv_append (l.take (l.length - 9)) (l.drop (l.length - 9))
   rw [List.take_append_drop] at e
   by_cases h9:9≤l.length
   ·rw [show (l.drop (l.length - 9)).length = 9 by rw [List.length_drop];omega] at e
    rw [e]
    unfold B
    omega
   ·rw [show l.length - 9 = 0 by omega] at e ⊢
    simp only [List.take_zero,List.drop_zero] at e ⊢
    simp [pv]
end Go.Proofs.YtcmbggahndfnnaaGreatDoor.NatTh
namespace Go.Proofs.YtcmbggahndfnnaaGreatDoor.Pr
open Go.RowKit Go.Proofs.YtcmbggahndfnnaaGreatDoorW.PrintWords Go.Proofs.YtcmbggahndfnnaaGreatDoorW.PrintLast Go.Proofs.YtcmbggahndfnnaaGreatDoorW.PrintMore
def natural_read.f (a:ByteArray):Option (List Int):=Pt.natural_read.f (2 * a.size + 10) a
theorem natural_read.calls (a0:ByteArray) (r:List Int) (w:World) (h:natural_read.f a0 = some r) :
  Calls Tryz.prog 128 #[.string a0] w fun e w'=>∃ v0_:Value,e = .returned (v0_)∧Kd.R (Kd.int .u32) 101 w' w.heap.size (fun k_=>(w.heap.size≤k_)) v0_ r∧Below w.heap.size w w' :=
 Pt.read_own _ a0 r w h
open Go.Proofs.YtcmbggahndfnnaaGreatDoor.NatTh
def dgB (c:UInt8):Bool:=decide (48≤c.toNat) && decide (c.toNat≤57)
theorem dgB_iff (c:UInt8):dgB c = true ↔ isDig c:=by
 unfold dgB isDig
 simp
abbrev bs (s:ByteArray):List UInt8:=s.data.toList
theorem bs_length (s:ByteArray):(bs s).length = s.size:=data_length s
def nv (s:ByteArray):Bool:=(bs s).all dgB && !(bs s).isEmpty && (decide ((bs s).length≤1) || (bs s).head? != some 48)
theorem nv_iff (s:ByteArray):nv s = true ↔ Nml (bs s):=by
 unfold nv Nml
 rw [Bool.and_eq_true,Bool.and_eq_true,List.all_eq_true,Bool.or_eq_true,decide_eq_true_iff,bne_iff_ne,Bool.not_eq_true',List.isEmpty_eq_false_iff,and_assoc]
 refine and_congr ⟨fun h c hc=>(dgB_iff c).1 (h c hc),fun h c hc=>(dgB_iff c).2 (h c hc)⟩ (and_congr Iff.rfl ⟨fun h hl=>h.resolve_left (by omega),fun h=>?_⟩)
 by_cases hl:(bs s).length≤1
 ·exact .inl hl
 ·exact .inr (h (by omega))
theorem bt_get (s:ByteArray) (n:Nat) (h:n < s.size):bt s (n:Int) = (((bs s).getD n 0).toNat:Int):=by
 rw [← rd_bytesOf,rd_eq]
 unfold bytesOf
 rw [List.getD_eq_getElem?_getD,List.getD_eq_getElem?_getD,List.getElem?_map]
 rw [List.getElem?_eq_getElem (by rw [bs_length];exact h)]
 rfl
theorem all_drop (l:List UInt8) (n:Nat) (h:n < l.length):(l.drop n).all dgB = (dgB (l.getD n 0) && (l.drop (n + 1)).all dgB):=by
 rw [List.drop_eq_getElem_cons h,List.all_cons,List.getD_eq_getElem?_getD,List.getElem?_eq_getElem h]
 rfl
theorem valid_loop (s:ByteArray) (hs:s.size < 1152921504606846976):∀ (m n:Nat),n + m = s.size→∀ k,natural_Valid.l0 (k + 1 + m) s s.size n = some (((bs s).drop n).all dgB):=by
 intro m
 induction m with
 | zero =>
  intro n hn k
  show natural_Valid.l0 (k + 1) s s.size n = _
  unfold natural_Valid.l0
  rw [if_neg (by omega),List.drop_of_length_le (by rw [bs_length];omega)]
  rfl
 | succ m ih =>
  intro n hn k
  have h1:=ih (n + 1) (by omega) k
  rw [all_drop _ n (by rw [bs_length];omega)]
  rw [show k + 1 + (m + 1) = k + 1 + m + 1 by omega]
  unfold natural_Valid.l0
  rw [if_pos (by omega),if_pos (by omega),if_pos (by omega),bt_get s n (by omega),wi1 n (by omega),h1]
  unfold dgB
  by_cases h2:(((bs s).getD n 0).toNat:Int) < 48
  ·rw [if_pos h2,decide_eq_false (by omega)]
   rfl
  ·rw [if_neg h2,decide_eq_true (by omega)]
   by_cases h3:(((bs s).getD n 0).toNat:Int) > 57
   ·rw [if_pos h3,decide_eq_false (by omega)]
    rfl
   ·rw [if_neg h3,decide_eq_true (by omega)]
    rfl
theorem toL (s:ByteArray):s.toList = bs s:=ByteArray.toList_eq s
theorem Valid_ev (s:ByteArray) (hs:s.size < 1152921504606846976):Ev (fun k=>natural_Valid.f k s) (nv s):=by
 refine ⟨s.size + 2,fun k hk=>?_⟩
 have hl:=bs_length s
 obtain ⟨k,rfl⟩:∃ j,k = j + 1 + s.size + 1:=⟨k - 2 - s.size,by omega⟩
 have h0:=valid_loop s hs s.size 0 (by omega) k
 rw [List.drop_zero] at h0
 have j1:natural_Valid.j0 (k + 1 + s.size + 1) s true = some false:=by
  rw [natural_Valid.j0,if_pos rfl]
 have j2:natural_Valid.j0 (k + 1 + s.size + 1) s false = some ((bs s).all dgB):=by
  rw [natural_Valid.j0,if_neg (by simp)]
  exact h0
 simp only [natural_Valid.f,nv]
 rw [toL]
 by_cases he:bs s = []
 ·rw [if_pos he,j1,he]
  rfl
 ·have Aa:0 < (bs s).length:=List.length_pos_iff.2 he
  rw [if_neg he]
  have e1:(bs s).isEmpty = false:=by rw [List.isEmpty_eq_false_iff];exact he
  rw [e1]
  by_cases h2:(s.size:Int) > 1
  ·rw [if_pos h2,if_pos (by omega),show (0:Int) = ((0:Nat):Int) from rfl,bt_get s 0 (by omega)]
   rw [decide_eq_false (by omega),Bool.false_or]
   have e2:(bs s).head? = some ((bs s).getD 0 0):=by
    rw [List.head?_eq_getElem?,List.getD_eq_getElem?_getD,List.getElem?_eq_getElem (by omega)]
    rfl
   rw [e2]
   by_cases h3:(bs s).getD 0 0 = 48
   ·rw [h3]
    rw [show ((((48:UInt8).toNat:Nat):Int) == 48) = true from rfl,j1]
    simp
   ·rw [show ((((bs s).getD 0 0).toNat:Int) == 48) = false by
     rw [beq_eq_false_iff_ne]
     intro h4
     exact h3 (UInt8.toNat.inj (by have:(48:UInt8).toNat = 48:=rfl;omega)),j2]
    rw [show (some ((bs s).getD 0 0) != some 48) = true by rw [bne_iff_ne];intro h4;exact h3 (Option.some.inj h4)]
    simp
  ·rw [if_neg h2,j2,decide_eq_true (by omega)]
   simp
theorem bs_from (s:ByteArray) (a:Nat):bs (s.extract a s.size) = (bs s).drop a:=by
 unfold bs
 rw [ByteArray.data_extract,Array.toList_extract,List.extract_eq_take_drop,List.take_of_length_le]
 rw [List.length_drop,data_length]
 exact Nat.le_refl _
theorem bs_to (s:ByteArray) (a:Nat):bs (s.extract 0 a) = (bs s).take a:=by
 unfold bs
 rw [ByteArray.data_extract,Array.toList_extract,List.extract_eq_take_drop,List.drop_zero,Nat.sub_zero]
theorem words_len (n:Nat):∀ l:List UInt8,l.length = n→(words l).length≤l.length:=by
 induction n using Nat.strongRecOn with
 | ind n ih =>
  intro l hl
  by_cases h:l = []
  ·subst h
   rw [words_nil]
   exact Nat.le_refl _
  ·have hp:=List.length_pos_iff.2 h
   have h1:=ih (l.take (l.length - 9)).length (by rw [List.length_take];omega) _ rfl
   rw [words,dif_neg h,List.length_cons]
   rw [List.length_take] at h1
   omega
theorem pt_trim (k:Nat) (l:List Int):Pt.natural_num_trim.f k l = natural_num_trim.f k l:=Pt.trim_same k l
theorem read_loop (n:Nat):∀ (s:ByteArray),s.size = n→s.size < 281474976710656→(∀ c ∈ bs s,isDig c)→∀ (out:List Int),out.length + s.size < 35184372088832→∀ j,Pt.natural_read.l0 (j + 1 + (words (bs s)).length) s out = (natural_num_trim.f j (out ++ words (bs s))).bind fun t=>some t:=by
 induction n using Nat.strongRecOn with
 | ind n ih =>
  intro s hn hb hd out ho j
  have hl:=bs_length s
  by_cases he:bs s = []
  ·have h0:s.size = 0:=by rw [← hl,he];rfl
   rw [he,words_nil,List.append_nil]
   show Pt.natural_read.l0 (j + 1) s out = _
   unfold Pt.natural_read.l0
   rw [if_neg (by omega),pt_trim]
  ·have Ac:0 < (bs s).length:=List.length_pos_iff.2 he
   have hw:words (bs s) = (pv ((bs s).drop (s.size - 9)):Int) :: words ((bs s).take (s.size - 9)):=by rw [words,dif_neg he,hl]
   have hat:mx (wrap64 ((s.size:Int) - 9)) 0 = ((s.size - 9:Nat):Int):=by
    rw [w64 (by omega) (by omega)]
    unfold mx
    split<;>omega
   have hdd:∀ c ∈ (bs s).drop (s.size - 9),isDig c:=fun c hc=>hd c (List.mem_of_mem_drop hc)
   have Ab:((bs s).drop (s.size - 9)).length≤9:=by rw [List.length_drop];omega
   have Aa:1≤((bs s).drop (s.size - 9)).length:=by rw [List.length_drop];omega
   have hp:=parse32 _ hdd Aa Ab
   have hlt:=pv_lt _ hdd
   have Ad:10 ^ ((bs s).drop (s.size - 9)).length≤10 ^ 9:=Nat.pow_le_pow_right (by omega) Ab
   have hpu:Pt.strconv_ParseUint_137.f (s.extract (s.size - 9) s.size) 10 32 = some (pv ((bs s).drop (s.size - 9)):Int):=by
    unfold Pt.strconv_ParseUint_137.f
    have e1:(s.extract (s.size - 9) s.size).size≤9223372036854775806:=by rw [ByteArray.size_extract];omega
    have e2:(s.extract (s.size - 9) s.size).data.toList = (bs s).drop (s.size - 9):=bs_from s _
    rw [if_pos ⟨rfl,rfl,e1⟩,e2,hp]
   have hsz:(s.extract 0 (s.size - 9)).size = s.size - 9:=by rw [ByteArray.size_extract];omega
   have hi:=ih (s.size - 9) (by omega) (s.extract 0 (s.size - 9)) hsz (by omega) (by rw [bs_to];exact fun c hc=>hd c (List.mem_of_mem_take hc)) (out ++ [(pv ((bs s).drop (s.size - 9)):Int)]) (by rw [List.length_append,hsz];simp;omega) j
   rw [bs_to,List.append_assoc,List.singleton_append,← hw] at hi
   rw [show j + 1 + (words (bs s)).length = j + 1 + (words ((bs s).take (s.size - 9))).length + 1 by rw [hw,List.length_cons];omega]
   rw [← hi]
   generalize j + 1 + (words ((bs s).take (s.size - 9))).length = K
   conv=>lhs;unfold Pt.natural_read.l0
   rw [hat,if_pos (by omega),if_pos (by omega),if_pos (by omega),Int.toNat_natCast,hpu,Option.bind_some,if_pos (by omega),Int.emod_eq_of_lt (b:=4294967296) (by omega) (by omega)]
def nat (s:ByteArray):Nat:=pv (bs s)
theorem nat_len (s:ByteArray) (h:nv s = true):(numOf (nat s)).length≤s.size:=by
 have hn:=(nv_iff s).1 h
 have h1:=words_spec _ (bs s) rfl hn.1
 have h2:=trim_numOf (n:=nat s) h1.1 h1.2
 have h3:=len_trimL (words (bs s))
 have h4:=words_len _ (bs s) rfl
 rw [h2] at h3
 rw [bs_length] at h4
 omega
theorem read_eq (s:ByteArray) (hs:s.size≤1099511627776) (h:nv s = true):natural_read.f s = some (numOf (nat s)):=by
 have hn:=(nv_iff s).1 h
 have hw:=words_len _ (bs s) rfl
 have hl:=bs_length s
 have h1:=words_spec _ (bs s) rfl hn.1
 obtain ⟨j,hj⟩:∃ j,2 * s.size + 10 = j + 1 + (words (bs s)).length:=⟨2 * s.size + 9 - (words (bs s)).length,by omega⟩
 unfold natural_read.f Pt.natural_read.f
 rw [hj,read_loop _ s rfl (by omega) hn.1 [] (by simp;omega) j,List.nil_append]
 rw [show natural_num_trim.f j (words (bs s)) = some (trimL (words (bs s))) from (trim_k _ _ rfl (by omega) j (by omega)).1,trim_numOf (n:=nat s) h1.1 h1.2]
 rfl
open Go.Shelf Go.Lib
attribute [local go_sem] Oper.semAt_some
def downs (zs:List Int) (k:Nat):List (Int × Int):=(List.range k).map fun (j:Nat)=>((zs.length:Int) - 1 - (j:Int),rd zs ((zs.length:Int) - 1 - (j:Int)))
theorem downs_succ (zs:List Int) (k:Nat):downs zs (k + 1) = downs zs k ++ [((zs.length:Int) - 1 - k,rd zs ((zs.length:Int) - 1 - k))]:=by simp [downs,List.range_succ]
theorem downs_length (zs:List Int) (k:Nat):(downs zs k).length = k:=by simp [downs]
def clI (i:Int):Int:=if 0≤i∧i < 1152921504606846976 then i else 0
def clW (x:Int):Int:=if 0≤x∧x < 1000000000 then x else 0
theorem clI_eq {i:Int} (h0:0≤i) (h:i < 1152921504606846976):clI i = i:=if_pos ⟨h0,h⟩
theorem clW_eq {x:Int} (h:0≤x∧x < 1000000000):clW x = x:=if_pos h
theorem clI_in (i:Int):0≤clI i∧clI i < 1152921504606846976:=by
 unfold clI
 split<;>omega
theorem clW_in (x:Int):0≤clW x∧clW x < 1000000000:=by
 unfold clW
 split<;>omega
def KpB (n₀ Bs:Nat) (W W':World):Prop:=Below n₀ W W'∧∀ o,W.heap[Bs]? = some o→W'.heap[Bs]? = some o
theorem KpB.t {n₀ Bs:Nat} {A B C:World} (h:KpB n₀ Bs A B) (k:KpB n₀ Bs B C):KpB n₀ Bs A C:=⟨h.1.trans k.1,fun o ho=>k.2 o (h.2 o ho)⟩
theorem KpB.b {n₀ Bs:Nat} {w:World} (hn:n₀≤w.heap.size) (hB:Bs < w.heap.size) (W:World) (l:Nat) (o o':Obj) (hl:w.heap.size≤l) (h:W.heap[l]? = some o) (h1:o.isCells = false) (h2:o.isWalk = false):KpB n₀ Bs W (W.putObj l o') :=
 ⟨belowK_b hn W l o o' hl h h1 h2,fun _ ho=>(World.putObj_heap_other (by omega)).trans ho⟩
theorem rd_in {zs:List Int} (hz:∀ x ∈ zs,0≤x∧x < 1000000000) (i:Int) (h0:0≤i) (h1:i < zs.length):0≤rd zs i∧rd zs i < 1000000000:=by
 unfold rd
 rw [List.getD_eq_getElem?_getD,List.getElem?_eq_getElem (by omega)]
 exact hz _ (List.getElem_mem _)
set_option maxRecDepth 100000 in
set_option maxHeartbeats 2000000 in
theorem back1_in (F:Fence) (n:Nat) (h79:F.fn 147) (hro:F.round = none) (hn:1≤n) (l Bs:Nat) (w0:World) (A:Option Addr) (cap:Nat) (zs:List Int) (hreach:zs.length < 1152921504606846976) (hz:∀ x ∈ zs,0≤x∧x < 1000000000) (hC:(Kd.int .u32).C w0 A zs.length zs) (J Jx:List (Int × Int)→World→Prop)
  (hY:∀ pre (x:Int × Int) W,J pre W→pre.length < zs.length→YieldAt F (n - 1) Tryz.prog l #[.int .i64 (clI x.1),.int .u32 (clW x.2)] W fun e W' =>
   (e = .returned (.bool true)∧J (pre ++ [x]) W'∧KpB w0.heap.size Bs W W') ∨ (e = .returned (.bool false)∧Jx (pre ++ [x]) W'))
  (W:World) (hW:Below w0.heap.size w0 W) (hBs:W.heap[Bs]? = some (.cells #[.slice A zs.length cap] 161 (0,0))) (h0:J [] W) :
  CallsIn F n Tryz.prog 147 #[.func (.yield l) #[] #[],.pointer (some ⟨Bs,0,none⟩)] W fun e W'=>(∃ v,e = .returned v) ∧
   ((∃ ys,ys = downs zs zs.length∧J ys W') ∨ (∃ pre,(∃ k,k≤zs.length∧pre = downs zs k)∧Jx pre W')):=by
 have Af:W.cell? ⟨Bs,0,none⟩ = some (.slice A zs.length cap):=by rw [Lib.cell_of_heap hBs];rfl
 have hwl:wrap64 ((zs.length:Int) - 1) = (zs.length:Int) - 1:=by unfold wrap64;omega
 refine callsIn_of_wp Tryz.func147 rfl h79 ?_ hro
 simp only [Tryz.ntmps147,List.size_toArray,List.length_cons,List.length_nil,Nat.reduceAdd,Nat.reduceSub,Array.replicate_succ,Array.replicate_zero,List.push_toArray,List.append_toArray,List.nil_append,List.cons_append]
 gi_wp2
 clear Af hwl
 gi_loopw [3] (fun v wr=>∃ (k:Nat) (i:Int),i + 1 + k = zs.length∧-1≤i∧v = .int .i64 i∧J (downs zs k) wr∧Below w0.heap.size w0 wr∧wr.heap[Bs]? = some (.cells #[.slice A zs.length cap] 161 (0,0)))
  (fun i _=>(Go.RowKit.intOf i + 1).toNat)
 case atStart=>exact ⟨0,_,by omega,by omega,rfl,h0,hW,hBs⟩
 case round =>
  obtain ⟨k,i,hk,Ai,rfl,hJs,hnx,hBx⟩:=hrel
  have hcx:wr.cell? ⟨Bs,0,none⟩ = some (.slice A zs.length cap):=by rw [Lib.cell_of_heap hBx];rfl
  by_cases hlt:0≤i
  ·have Aa:i < zs.length:=by omega
   obtain ⟨ad,rfl,Ad⟩:=Kd.at_int (Kd.C_below hC hnx) i hlt Aa
   have hYi:=hY _ (i,rd zs i) wr hJs (by rw [downs_length];omega)
   dsimp only at hYi
   rw [clI_eq hlt (by omega),clW_eq (rd_in hz i hlt Aa)] at hYi
   obtain ⟨fn,Ae,Ac,Ag,hy,hR⟩:=hYi
   have Ab:wrap64 (i - 1) = i - 1:=by unfold wrap64;omega
   have hiE:(zs.length:Int) - 1 - k = i:=by omega
   have HiE:=Lib.hid hiE
   have HK:=Lib.hid hk
   have Ah:=Lib.hid Ab
   clear hiE hk Ab
   gi_wp2
   refine hR.mono ?_
   rintro e W3 (⟨rfl,hJ3,hk3⟩|⟨rfl,hJx3⟩)
   ·have Ab:=Ah.out
    gi_wp2
    clear Ab
    go_roundw
    case rel=>exact ⟨k + 1,i - 1,by have:=HK.out;omega,by omega,rfl,by rw [downs_succ,HiE.out];exact hJ3,hnx.trans hk3.1,hk3.2 _ hBx⟩
    case measure=>simp [Go.RowKit.intOf];omega
   ·gi_wp2
    refine bodyPost_ret (results_none rfl _ _ _) rfl ?_
    exact ⟨⟨_,rfl⟩,.inr ⟨_,⟨k + 1,by have:=HK.out;omega,by rw [downs_succ,HiE.out]⟩,hJx3⟩⟩
  ·have hkE:k = zs.length:=by omega
   gi_wp2
   go_end0
   exact ⟨⟨_,rfl⟩,.inl (by rw [← hkE];exact hJs)⟩
set_option maxHeartbeats 1000000 in
theorem back_in (F:Fence) (n:Nat) (h63:F.fn 139) (hro:F.round = none) (a:Option Addr) (len cap:Nat) (w:World) :
  CallsIn F n Tryz.prog 139 #[.slice a len cap] w fun e w'=>e = .returned (.func (.func 147) #[] #[.pointer (some ⟨w.heap.size,0,none⟩)])∧w' = w.alloc (.cells #[.slice a len cap] 161):=by
 refine callsIn_of_wp Tryz.func139 rfl h63 ?_ hro
 simp only [Tryz.ntmps139,List.size_toArray,List.length_cons,List.length_nil,Nat.reduceAdd,Nat.reduceSub,Array.replicate_succ,Array.replicate_zero,List.push_toArray,List.append_toArray,List.nil_append,List.cons_append]
 gi_wp2
 go_ret
 exact ⟨rfl,rfl⟩
theorem back_stops (F:Fence) (n:Nat) (h79:F.fn 147) (hro:F.round = none) (hn:1≤n) (Bs:Nat) (w0:World) (A:Option Addr) (cap:Nat) (zs:List Int) (hreach:zs.length < 1152921504606846976) (hz:∀ x ∈ zs,0≤x∧x < 1000000000) (hC:(Kd.int .u32).C w0 A zs.length zs) (w:World) (hw0:Below w0.heap.size w0 w)
  (hc:w.heap[Bs]? = some (.cells #[.slice A zs.length cap] 161 (0,0))) :
  SeqStopsK F n Tryz.prog 147 #[.pointer (some ⟨Bs,0,none⟩)] (fun x:Int × Int=>#[Value.int .i64 (clI x.1),Value.int .u32 (clW x.2)]) (KpB w0.heap.size Bs) (fun ys=>ys = downs zs zs.length)
   (fun pre=>∃ k,k≤zs.length∧pre = downs zs k) zs.length w:=fun l J Jx W hW _ _ hY h0=>by
 have hlt:Bs < w.heap.size:=(Array.getElem?_eq_some_iff.1 hc).1
 exact back1_in F n h79 hro hn l Bs w0 A cap zs hreach hz hC J Jx hY W (hw0.trans (hW.mono hw0.size)) ((hW.block Bs hlt).trans hc) h0
end Go.Proofs.YtcmbggahndfnnaaGreatDoor.Pr
