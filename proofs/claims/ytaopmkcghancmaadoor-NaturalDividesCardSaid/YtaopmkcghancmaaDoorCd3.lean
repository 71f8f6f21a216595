/- Part 3 of 3: garboardlaw01.NaturalDivides (quotient, remainder, greatest common divisor: the program's answers and the reference's are the same; at most 120 bytes each) answers true for every input, and each argument reads behind the call as before. The library's tables are tied to the program's text by the card. -/
import Derived.Laws.StructEq
import Derived.Test.YtaopmkcghancmaaDoorProg
import Derived.Below
import Derived.Deep.Draws
import Derived.Deep.AppendLies
import Derived.Maps.AppendAt
import Derived.OwnWalk
import Derived.Laws.BytesArg
import Derived.Laws.MakeOwn
import Derived.Laws.OwnMore
import Derived.Deep.OwnRows
import Derived.Tactics
import Derived.Lib.ConvBytes
import Derived.Laws.Slices
import Derived.WalkKit
import Derived.KernelRfl
import Derived.RowKit3
import Derived.Deep.LoopGhost
import Derived.Deep.QuietTactic
import Derived.BigQuiet
import Derived.WideLaws
import Derived.Deep.DeepCutAuto
import Derived.Deep.CutBlock
import Derived.Deep.RegionHeld3
import Derived.Laws.Rows
import Derived.Lib.AppendStr
import Derived.ArgAppend
import Derived.Laws.IdiomCopy
import Derived.OrdersHeld
import Derived.Laws.BitsLemmas
import Derived.RowKit
import Derived.Shelf.Strings.Builder1
import Derived.Shelf.Strings.Builder2
import Derived.Shelf.Small.Wraps
import Derived.Shelf.Strings.BuilderF
import Derived.Shelf.Strings.BuilderK
import Derived.Shelf.Strings.Builder2Cap
import Derived.Shelf.Strconv.Itoa0
import Derived.Shelf.Strconv.Itoa1
import Derived.Shelf.LaysM
import Derived.Shelf.Strconv.Itoa2
import Derived.Shelf.Strconv.Itoa3
import Derived.Shelf.Strconv.Clone
import Derived.Shelf.Strconv.SyntaxError
import Derived.Shelf.Strconv.Lower
import Derived.Shelf.Strconv.ParseUint10
import Derived.Shelf.Strconv.ParseUint10Empty
import Derived.Shelf.Strconv.RangeError
import Derived.Shelf.Strconv.ParseUintEmpty
import Derived.Shelf.Strconv.ParseUint10b64
import Derived.Shelf.Strconv.ParseUint10b32
import Derived.Shelf.Strconv.ParseUint10b16
import Derived.Shelf.Strconv.ParseUint10b8
import Derived.Ground.MpProg
import Derived.Shelf.Pu.ParseUintPublic10
import Derived.Shelf.Strings.Prefix
import Derived.Shelf.Bits.Mul64
import Derived.Shelf.Strings.Repeat
import Derived.Ground.Names2Prog
import Derived.Shelf.Slices.SearchI
import Derived.Lib.AtoiErrMem
import Derived.Lib.AppendIntMem
import Derived.RangeFuncFrom
import Derived.RangeFuncBox
import Derived.RangeFuncLeaves
import Derived.RangeFuncCalls
import Derived.RangeFuncBound
import Derived.Shelf.Abstract
import Derived.OwnWalkIn
import Derived.TacticsInMore
import Derived.LoopNIn
import Derived.LoopIn
import Derived.Lib.Hide
import Derived.Lib.FrozenHead
import Derived.Lib.Walk
import Derived.Lib.ItoaMem
import Derived.BigCall
import Derived.BigGuard
import Derived.Lib.SmallJoins
import Derived.LaidMore
import Derived.ProofKit
import Derived.Stop.Joined
import Derived.SizedLaws
import Derived.DataShut
import Derived.SevenTiedAt
import Derived.Test.YtaopmkcghancmaaDoorCd2
namespace Go.Proofs.YtaopmkcghancmaaDoor.Pr
set_option linter.unusedVariables false
set_option linter.unusedSimpArgs false
open Go.RowKit Go.Proofs.YtaopmkcghancmaaDoor.NatTh Go.Proofs.YtaopmkcghancmaaDoorW.PrintWords Go.Proofs.YtaopmkcghancmaaDoorW.PrintLast Go.Proofs.YtaopmkcghancmaaDoorW.PrintMore
attribute [local go_sem] max2_int min2_int max_two min_two max_three min_three max_four min_four
set_option maxHeartbeats 8000000 in
set_option maxRecDepth 100000 in
theorem over_less (P0_:Nat→Prop) (A0:Option Addr) (c0:Nat) (l0:List Int) (A1:Option Addr) (c1:Nat) (l1:List Int) (a b:Nat) (w:World) (hs0:Kd.V (Kd.int .u32) 64 w w.heap.size (fun k_=>P0_ k_) (.slice A0 l0.length c0) l0) (hr1:Kd.C (Kd.int .u32) w A1 l1.length l1) (hc1:l1.length≤c1) (h0:l0.length≤549755813888) (h1:l1.length≤549755813888) (e0:l0 = numOf a) (e1:l1 = numOf b) (hb0:0 < b) (hlt:a < b) :
  Calls Tryd.prog 47 #[.slice A0 l0.length c0,.slice A1 l1.length c1] w fun e w'=>∃ v0_ v1_:Value,e = .returned (.tuple #[v0_,v1_])∧Kd.R (Kd.int .u32) 64 w' w.heap.size (fun _=>True) v0_ (numOf (a / b))∧Kd.V (Kd.int .u32) 64 w' w.heap.size (fun k_=>(P0_ k_ ∨ w.heap.size≤k_)∧some k_≠(v0_:Value).ownBlock) v1_ (numOf (a % b))∧Below w.heap.size w w':=by
 have hr0:=(Kd.V_reads' hs0).2.2
 have hc0:=(Kd.V_reads' hs0).2.1
 have HS0:=Aside0.mk hs0
 have HR0:=Aside0.mk hr0
 have HC0:=Aside0.mk hc0
 have HR1:=Aside0.mk hr1
 have HC1:=Aside0.mk hc1
 have HB:=Aside0.mk (Below.refl w.heap.size w)
 obtain ⟨kc,A3⟩:∃ k,garboardref01_Cmp.f k l0 l1 = some (ord a b):=by rw [e0,e1];exact (compare_ev a b (ok_len (by rw [← e0];exact h0)) (ok_len (by rw [← e1];exact h1))).2.rounds
 have E0:=Aside0.mk e0
 have E1:=Aside0.mk e1
 clear hs0 hr0 hc0 hr1 hc1 e0 e1
 obtain ⟨t137,ht⟩:∃ t,ord a b = t:=⟨_,rfl⟩
 rw [ht] at A3
 have c4b0:decide (t137 < 0) = true:=by rw [← ht];unfold ord;rw [if_pos hlt];rfl
 have ed:numOf (a / b) = []:=by rw [Nat.div_eq_of_lt hlt,numOf_zero]
 have em:numOf (a % b) = l0:=by rw [Nat.mod_eq_of_lt hlt];exact E0.out.symm
 rw [ed,em]
 replace A3:=Aside0.mk A3
 clear ht ed em
 go_enter Tryd.func47,Tryd.ntmps47
 go_wp2_with (first|((with_reducible refine gate_callee (f:=36) rfl ?_);refine goesL_ (some 21) rfl rfl Tryd.func36 (by kernel_rfl) rfl #[.slice A0 l0.length c0,.slice A1 l1.length c1] rfl (by (try simp only [List.map_toArray,List.map_cons,List.map_nil]);first|done|rfl|(simp only [List.length_drop,List.length_take];rfl)) ?_;(with_reducible refine (garboardref01_Cmp.calls kc _ _ l0 _ _ l1 t137 _ ?side1 ?side2 ?side3 ?side4 A3.out).mono ?_);(case side1=>repeat (first|exact HR0.out|(with_reducible refine Kd.C_alloc ?_ _)|(with_reducible refine Kd.C_drewN ?_ _)|(with_reducible refine Kd.C_drew ?_)));(case side2=>exact HC0.out);(case side3=>repeat (first|exact HR1.out|(with_reducible refine Kd.C_alloc ?_ _)|(with_reducible refine Kd.C_drewN ?_ _)|(with_reducible refine Kd.C_drew ?_)));(case side4=>exact HC1.out);rintro e w' ⟨rfl,⟨nd,rfl⟩⟩;refine ⟨_,rfl,?_⟩))
 go_ret2
 refine ⟨_,_,rfl,Kd.R_nil _ _ _ _ _,Kd.V_mono (by (with_reducible repeat (first|apply Kd.V_alloc|apply Kd.V_drewN|apply Kd.V_drew));exact HS0.out) (fun k hk=>⟨.inl hk,by simp [Value.ownBlock]⟩),(by repeat (first|(with_reducible first|exact HB.out|apply below_alloc|apply pw_below_drewN|apply below_drew1)|exact HB.out))⟩
end Go.Proofs.YtaopmkcghancmaaDoor.Pr
namespace Go.Proofs.YtaopmkcghancmaaDoor.Pr
set_option linter.unusedVariables false
set_option linter.unusedSimpArgs false
open Go.RowKit Go.Proofs.YtaopmkcghancmaaDoor.NatTh Go.Proofs.YtaopmkcghancmaaDoorW.PrintWords Go.Proofs.YtaopmkcghancmaaDoorW.PrintLast Go.Proofs.YtaopmkcghancmaaDoorW.PrintMore
attribute [local go_sem] max2_int min2_int max_two min_two max_three min_three max_four min_four
set_option maxHeartbeats 8000000 in
set_option maxRecDepth 100000 in
theorem over_one (P0_:Nat→Prop) (A0:Option Addr) (c0:Nat) (l0:List Int) (A1:Option Addr) (c1:Nat) (l1:List Int) (a b:Nat) (w:World) (hs0:Kd.V (Kd.int .u32) 64 w w.heap.size (fun k_=>P0_ k_) (.slice A0 l0.length c0) l0) (hr1:Kd.C (Kd.int .u32) w A1 l1.length l1) (hc1:l1.length≤c1) (h0:l0.length≤549755813888) (h1:l1.length≤549755813888) (e0:l0 = numOf a) (e1:l1 = numOf b) (hb0:0 < b) (hlt:¬ a < b) (hx1:l1.length = 1) :
  Calls Tryd.prog 47 #[.slice A0 l0.length c0,.slice A1 l1.length c1] w fun e w'=>∃ v0_ v1_:Value,e = .returned (.tuple #[v0_,v1_])∧Kd.R (Kd.int .u32) 64 w' w.heap.size (fun _=>True) v0_ (numOf (a / b))∧Kd.V (Kd.int .u32) 64 w' w.heap.size (fun k_=>(P0_ k_ ∨ w.heap.size≤k_)∧some k_≠(v0_:Value).ownBlock) v1_ (numOf (a % b))∧Below w.heap.size w w':=by
 have hr0:=(Kd.V_reads' hs0).2.2
 have hc0:=(Kd.V_reads' hs0).2.1
 have HS0:=Aside0.mk hs0
 have HR0:=Aside0.mk hr0
 have HC0:=Aside0.mk hc0
 have HR1:=Aside0.mk hr1
 have HC1:=Aside0.mk hc1
 have HB:=Aside0.mk (Below.refl w.heap.size w)
 obtain ⟨kc,A3⟩:∃ k,garboardref01_Cmp.f k l0 l1 = some (ord a b):=by rw [e0,e1];exact (compare_ev a b (ok_len (by rw [← e0];exact h0)) (ok_len (by rw [← e1];exact h1))).2.rounds
 have E0:=Aside0.mk e0
 have E1:=Aside0.mk e1
 clear hs0 hr0 hc0 hr1 hc1 e0 e1
 obtain ⟨t137,ht⟩:∃ t,ord a b = t:=⟨_,rfl⟩
 rw [ht] at A3
 have c4b0:decide (t137 < 0) = false:=decide_eq_false (by rw [← ht];unfold ord;rw [if_neg hlt];split<;>decide)
 replace A3:=Aside0.mk A3
 clear ht
 have hw:=one_word E1.out hb0 hx1
 obtain ⟨kb,AB⟩:∃ k,garboardref01_small.f k l0 (b:Int) = some (numOf (a / b),((a % b:Nat):Int)):=by rw [E0.out];exact (by_ev a b hb0 (by have:=hw.1;omega) (ok_len (by rw [← E0.out];exact h0))).2.rounds
 obtain ⟨ks,AS⟩:∃ k,garboardref01_Small.f k ((a % b:Nat):Int) = some (numOf (a % b)):=(Small_ev (a % b) (by have:=hw.1;have:=Nat.mod_lt a hb0;omega)).rounds
 replace AB:=Aside0.mk AB
 replace AS:=Aside0.mk AS
 obtain ⟨ad,ead,hcell⟩:=Kd.at_int HR1.out 0 (by decide) (by rw [hx1];decide)
 subst ead
 rw [show ((0:Int)).toNat = 0 from rfl,Addr.add_zero'] at hcell
 rw [hw.2.1] at hcell
 have c16:((l1.length:Int) == 1) = true:=by rw [hx1];rfl
 have q148:(0 < (l1.length:Int)) = True:=eq_true (by rw [hx1];decide)
 have qi148:(0 < l1.length) = True:=eq_true (by rw [hx1];decide)
 clear hx1 hw
 go_enter Tryd.func47,Tryd.ntmps47
 go_wp2_with (first|((with_reducible refine gate_callee (f:=36) rfl ?_);refine goesL_ (some 21) rfl rfl Tryd.func36 (by kernel_rfl) rfl #[.slice A0 l0.length c0,.slice (some ad) l1.length c1] rfl (by (try simp only [List.map_toArray,List.map_cons,List.map_nil]);first|done|rfl|(simp only [List.length_drop,List.length_take];rfl)) ?_;(with_reducible refine (garboardref01_Cmp.calls kc _ _ l0 _ _ l1 t137 _ ?side1 ?side2 ?side3 ?side4 A3.out).mono ?_);(case side1=>repeat (first|exact HR0.out|(with_reducible refine Kd.C_alloc ?_ _)|(with_reducible refine Kd.C_drewN ?_ _)|(with_reducible refine Kd.C_drew ?_)));(case side2=>exact HC0.out);(case side3=>repeat (first|exact HR1.out|(with_reducible refine Kd.C_alloc ?_ _)|(with_reducible refine Kd.C_drewN ?_ _)|(with_reducible refine Kd.C_drew ?_)));(case side4=>exact HC1.out);rintro e w' ⟨rfl,⟨nd,rfl⟩⟩;refine ⟨_,rfl,?_⟩)|((with_reducible refine gate_callee (f:=67) rfl ?_);refine goesL_ (some 32) rfl rfl Tryd.func67 (by kernel_rfl) rfl #[.slice A0 l0.length c0,.int .u32 (b:Int)] rfl (by (try simp only [List.map_toArray,List.map_cons,List.map_nil]);first|done|rfl|(simp only [List.length_drop,List.length_take];rfl)) ?_;(with_reducible refine (rsmall_own kb _ _ l0 (b:Int) _ _ _ ?side1 ?side2 AB.out).mono ?_);(case side1=>repeat (first|exact HR0.out|(with_reducible refine Kd.C_alloc ?_ _)|(with_reducible refine Kd.C_drewN ?_ _)|(with_reducible refine Kd.C_drew ?_)));(case side2=>exact HC0.out);rintro e w19 ⟨v150,rfl,ho0,hb⟩;refine ⟨_,rfl,?_⟩;have HO151:=Aside0.mk (Kd.R_lower (Kd.R_mono (ok':=fun k_=>(w.heap.size≤k_)) ho0 (fun k_ hk_=>Nat.le_trans (below_size (by repeat (first|(with_reducible first|exact HB.out|apply below_alloc|apply pw_below_drewN|apply below_drew1)|exact HB.out))) hk_)) (below_size (by repeat (first|(with_reducible first|exact HB.out|apply below_alloc|apply pw_below_drewN|apply below_drew1)|exact HB.out))));have n2_:=Aside0.mk (below_step (by repeat (first|(with_reducible first|exact HB.out|apply below_alloc|apply pw_below_drewN|apply below_drew1)|exact HB.out)) hb);clear HB;have HB:=n2_;clear n2_;clear ho0 hb)|((with_reducible refine gate_callee (f:=68) rfl ?_);refine goesL_ (some 37) rfl rfl Tryd.func68 (by kernel_rfl) rfl #[.int .u32 ((a % b:Nat):Int)] rfl (by (try simp only [List.map_toArray,List.map_cons,List.map_nil]);first|done|rfl|(simp only [List.length_drop,List.length_take];rfl)) ?_;(with_reducible refine (garboardref01_Small.calls ks ((a % b:Nat):Int) _ _ AS.out).mono ?_);rintro e w20 ⟨v154,rfl,ho0,hb⟩;refine ⟨_,rfl,?_⟩;have n0_:=Aside0.mk (Kd.R_below (by (with_reducible repeat (first|apply Kd.R_alloc|apply Kd.R_drewN|apply Kd.R_drew));exact HO151.out) hb);have HO154:=Aside0.mk (Kd.V_lower (Kd.V_mono (ok':=fun k_=>(w.heap.size≤k_)∧some k_≠(v150:Value).ownBlock) ho0 (fun k_ hk_=>⟨Nat.le_trans (below_size (by repeat (first|(with_reducible first|exact HB.out|apply below_alloc|apply pw_below_drewN|apply below_drew1)|exact HB.out))) hk_,Kd.fresh' (Kd.R_lt (by (with_reducible repeat (first|apply Kd.R_alloc|apply Kd.R_drewN|apply Kd.R_drew));exact HO151.out)) k_ hk_⟩)) (below_size (by repeat (first|(with_reducible first|exact HB.out|apply below_alloc|apply pw_below_drewN|apply below_drew1)|exact HB.out))));have n2_:=Aside0.mk (below_step (by repeat (first|(with_reducible first|exact HB.out|apply below_alloc|apply pw_below_drewN|apply below_drew1)|exact HB.out)) hb);clear HB HO151;have HB:=n2_;have HO151:=n0_;clear n0_ n2_;clear ho0 hb))
 go_ret2
 refine ⟨_,_,rfl,Kd.R_mono (by (with_reducible repeat (first|apply Kd.R_alloc|apply Kd.R_drewN|apply Kd.R_drew));exact HO151.out) (fun _ _=>trivial),Kd.V_mono HO154.out (fun k hk=>⟨.inr hk.1,hk.2⟩),(by repeat (first|(with_reducible first|exact HB.out|apply below_alloc|apply pw_below_drewN|apply below_drew1)|exact HB.out))⟩
end Go.Proofs.YtaopmkcghancmaaDoor.Pr
namespace Go.Proofs.YtaopmkcghancmaaDoor.Pr
set_option linter.unusedVariables false
set_option linter.unusedSimpArgs false
open Go.RowKit Go.Proofs.YtaopmkcghancmaaDoor.NatTh Go.Proofs.YtaopmkcghancmaaDoorW.PrintWords Go.Proofs.YtaopmkcghancmaaDoorW.PrintLast Go.Proofs.YtaopmkcghancmaaDoorW.PrintMore
attribute [local go_sem] max2_int min2_int max_two min_two max_three min_three max_four min_four
theorem rtrim_ownn (k:Nat) (base:Nat) (ok:Nat→Prop) (A0:Option Addr) (c0:Nat) (l0:List Int) (n:Nat) (r:List Int) (w:World) (hn:l0.length = n) (hs0:Kd.R (Kd.int .u32) 64 w base ok (.slice A0 n c0) l0) (h:garboardref01_trim.f k l0 = some r) :
  Calls Tryd.prog 59 #[.slice A0 n c0] w fun e w'=>∃ v0_:Value,e = .returned (v0_)∧Kd.R (Kd.int .u32) 64 w' base ok v0_ r∧Below w.heap.size w w':=by
 subst hn
 exact rtrim_own k base ok A0 c0 l0 r w hs0 h
set_option maxHeartbeats 8000000 in
set_option maxRecDepth 100000 in
theorem over_big (P0_:Nat→Prop) (A0:Option Addr) (c0:Nat) (l0:List Int) (A1:Option Addr) (c1:Nat) (l1:List Int) (a b:Nat) (w:World) (hs0:Kd.V (Kd.int .u32) 64 w w.heap.size (fun k_=>P0_ k_) (.slice A0 l0.length c0) l0) (hr1:Kd.C (Kd.int .u32) w A1 l1.length l1) (hc1:l1.length≤c1) (h0:l0.length≤549755813888) (h1:l1.length≤549755813888) (e0:l0 = numOf a) (e1:l1 = numOf b) (hb0:0 < b) (hlt:¬ a < b) (hx1:2≤l1.length) :
  Calls Tryd.prog 47 #[.slice A0 l0.length c0,.slice A1 l1.length c1] w fun e w'=>∃ v0_ v1_:Value,e = .returned (.tuple #[v0_,v1_])∧Kd.R (Kd.int .u32) 64 w' w.heap.size (fun _=>True) v0_ (numOf (a / b))∧Kd.V (Kd.int .u32) 64 w' w.heap.size (fun k_=>(P0_ k_ ∨ w.heap.size≤k_)∧some k_≠(v0_:Value).ownBlock) v1_ (numOf (a % b))∧Below w.heap.size w w':=by
 have hr0:=(Kd.V_reads' hs0).2.2
 have hc0:=(Kd.V_reads' hs0).2.1
 have HS0:=Aside0.mk hs0
 have HR0:=Aside0.mk hr0
 have HC0:=Aside0.mk hc0
 have HR1:=Aside0.mk hr1
 have HC1:=Aside0.mk hc1
 have HB:=Aside0.mk (Below.refl w.heap.size w)
 obtain ⟨kc,A3⟩:∃ k,garboardref01_Cmp.f k l0 l1 = some (ord a b):=by rw [e0,e1];exact (compare_ev a b (ok_len (by rw [← e0];exact h0)) (ok_len (by rw [← e1];exact h1))).2.rounds
 have E0:=Aside0.mk e0
 have E1:=Aside0.mk e1
 clear hs0 hr0 hc0 hr1 hc1 e0 e1
 obtain ⟨t137,ht⟩:∃ t,ord a b = t:=⟨_,rfl⟩
 rw [ht] at A3
 have c4b0:decide (t137 < 0) = false:=decide_eq_false (by rw [← ht];unfold ord;rw [if_neg hlt];split<;>decide)
 replace A3:=Aside0.mk A3
 clear ht
 obtain ⟨tp,n1,f,N⟩:=rbigN (Nat.not_lt.1 hlt) (by rw [← E0.out];exact h0) (by rw [← E1.out];exact hx1)
 rw [← E0.out,← E1.out] at N
 obtain ⟨vv,hvv⟩:∃ v,v = numOf (b * f):=⟨_,rfl⟩
 obtain ⟨uu,huu⟩:∃ u,u = numOf (a * f) ++ [0,0]:=⟨_,rfl⟩
 have hul:uu.length = (numOf (a * f)).length + 2:=by rw [huu];simp
 obtain ⟨lu,hlu⟩:∃ n,n = l0.length + 1:=⟨_,rfl⟩
 obtain ⟨nq,hnq⟩:∃ n,n = l0.length + 1 - l1.length:=⟨_,rfl⟩
 obtain ⟨qq,hqq⟩:∃ q:List Int,q = List.replicate nq 0:=⟨_,rfl⟩
 have hql:qq.length = nq:=by rw [hqq,List.length_replicate]
 have hO:=N.O
 have hl1a:=N.l1a
 have hl2a:=N.l2a
 have hla:=N.la
 have hle:=N.le
 have hlv:=N.lv
 rw [← hnq,← hlu,← huu,← hqq,← hvv,← hql] at hO
 rw [← hvv] at hlv
 have htl:(uu.take lu).length = lu:=by rw [List.length_take];omega
 obtain ⟨kf,A24⟩:=N.k0
 obtain ⟨k25,A25⟩:=N.k1
 obtain ⟨k27,A27⟩:=N.k2
 obtain ⟨k28,A28⟩:=N.k3
 rw [← hvv] at A27
 rw [← huu] at A28
 have HNW:Aside0 (wrap64 ((lu:Int) - (l1.length:Int)) = (nq:Int)):=⟨w64n (by omega) (by omega)⟩
 have HZZ:Aside0 (wrap64 ((nq:Int) - 1) = (qq.length:Int) - 1):=⟨by rw [hql];exact w64 (by omega) (by omega)⟩
 have HP1:Aside0 (wrap64 ((l0.length:Int) + 1) = (lu:Int)):=⟨w64n (by omega) (by omega)⟩
 have hmax:(((numOf (a * f)).length:Int)≤(lu:Int)) = True:=eq_true (by omega)
 have hmax3:((lu:Int) < ((numOf (a * f)).length:Int)) = False:=eq_false (by omega)
 have hmax4:(lu < (numOf (a * f)).length) = False:=eq_false (by omega)
 have hmax5:decide ((lu:Int) < ((numOf (a * f)).length:Int)) = false:=decide_eq_false (by omega)
 have hmax2:((numOf (a * f)).length≤lu) = True:=eq_true (by omega)
 have LLU:Aside0 (lu≤uu.length):=⟨by omega⟩
 have LU:Aside0 (0 < uu.length):=⟨by omega⟩
 have LV:Aside0 (0 < vv.length):=⟨by omega⟩
 have LQ:Aside0 ((nq:Int).toNat≤70368744177664):=⟨by rw [Int.toNat_natCast];omega⟩
 have LQ2:Aside0 (0 < qq.length):=⟨by omega⟩
 have LM:Aside0 ((numOf (a * f)).length≤549755813889):=⟨by omega⟩
 have LA1:Aside0 ((([]:List Int).length + (numOf (a * f)).length) * 4≤140737488355328):=⟨by simp only [List.length_nil];omega⟩
 have LA2:Aside0 (((numOf (a * f)).length + ([0,0]:List Int).length) * 4≤140737488355328):=⟨by simp only [List.length_cons,List.length_nil];omega⟩
 have c16:((l1.length:Int) == 1) = false:=beq_eq_false_iff_ne.mpr (by omega)
 have c16b:¬ l1.length = 1:=by omega
 have p155:(0≤(n1:Int)) = True:=eq_true (Int.natCast_nonneg _)
 have n1l:=N.n1l
 have q155:((n1:Int) < (l1.length:Int)) = True:=eq_true (by omega)
 have q155b:(n1 < l1.length) = True:=eq_true n1l
 obtain ⟨ad,ead,hcell⟩:=Kd.at_int HR1.out (n1:Int) (Int.natCast_nonneg _) (by omega)
 subst ead
 rw [Int.toNat_natCast,N.te] at hcell
 have e1:=N.n1e
 have e1':IntKind.i64.wrap ((l1.length:Int) - 1) = (n1:Int):=(i64_w _).trans N.n1e
 have e2:=N.wt
 have e3:=N.wt1
 have e4c:=N.tn
 obtain ⟨fi,hfi⟩:∃ x:Int,x = (f:Int):=⟨_,rfl⟩
 have e5:=N.df
 have e6:=N.wf
 have e7:=N.uf
 rw [← hfi] at e5 e6 e7 A24
 have HFI:=Aside0.mk hfi
 clear hfi
 have F0:=Aside0.mk N.f0
 have F1:=Aside0.mk N.f1
 have Nu:=Aside0.mk huu
 have Nq:=Aside0.mk hqq
 have Nv:=Aside0.mk hvv
 have NO:=Aside0.mk hO
 have NQ:=Aside0.mk hql
 have HLV:=Aside0.mk hlv
 have HTL:=Aside0.mk htl
 replace A24:=Aside0.mk A24
 replace A25:=Aside0.mk A25
 replace A27:=Aside0.mk A27
 replace A28:=Aside0.mk A28
 have hnw:=HNW.out
 have hnw':IntKind.i64.wrap ((lu:Int) - (l1.length:Int)) = (nq:Int):=(i64_w _).trans hnw
 have hp1:=HP1.out
 have H0:=Aside0.mk h0
 have H1:=Aside0.mk h1
 clear h0 h1
 clear N huu hqq hvv hO hql hl1a hl2a hla hle hlv htl hnq hlu hul hx1 n1l
 go_enter Tryd.func47,Tryd.ntmps47
 go_wp2_with (first|((with_reducible refine gate_callee (f:=36) rfl ?_);refine goesL_ (some 21) rfl rfl Tryd.func36 (by kernel_rfl) rfl #[.slice A0 l0.length c0,.slice (some ad) l1.length c1] rfl (by (try simp only [List.map_toArray,List.map_cons,List.map_nil]);first|done|rfl|(simp only [List.length_drop,List.length_take];rfl)) ?_;(with_reducible refine (garboardref01_Cmp.calls kc _ _ l0 _ _ l1 t137 _ ?side1 ?side2 ?side3 ?side4 A3.out).mono ?_);(case side1=>repeat (first|exact HR0.out|(with_reducible refine Kd.C_alloc ?_ _)|(with_reducible refine Kd.C_drewN ?_ _)|(with_reducible refine Kd.C_drew ?_)));(case side2=>exact HC0.out);(case side3=>repeat (first|exact HR1.out|(with_reducible refine Kd.C_alloc ?_ _)|(with_reducible refine Kd.C_drewN ?_ _)|(with_reducible refine Kd.C_drew ?_)));(case side4=>exact HC1.out);rintro e w' ⟨rfl,⟨nd,rfl⟩⟩;refine ⟨_,rfl,?_⟩)|((with_reducible refine gate_callee (f:=68) rfl ?_);refine goesL_ (some 49) rfl rfl Tryd.func68 (by kernel_rfl) rfl #[.int .u32 fi] rfl (by (try simp only [List.map_toArray,List.map_cons,List.map_nil]);first|done|rfl|(simp only [List.length_drop,List.length_take];rfl)) ?_;(with_reducible refine (garboardref01_Small.calls kf fi (numOf f) _ A24.out).mono ?_);rintro e w29 ⟨v157,rfl,ho0,hb⟩;refine ⟨_,rfl,?_⟩;have n0_:=Aside0.mk (Kd.V_lower (Kd.V_mono (ok':=(fun k_=>(w.heap.size≤k_))) ho0 (fun k_ hk_=>(Nat.le_trans (below_size (by repeat (first|(with_reducible first|exact HB.out|apply below_alloc|apply pw_below_drewN|apply below_drew1)|exact HB.out))) hk_))) (below_size (by repeat (first|(with_reducible first|exact HB.out|apply below_alloc|apply pw_below_drewN|apply below_drew1)|exact HB.out))));have n1_:=Aside0.mk (below_step (by repeat (first|(with_reducible first|exact HB.out|apply below_alloc|apply pw_below_drewN|apply below_drew1)|exact HB.out)) hb);clear HB;have HS:=n0_;have HB:=n1_;clear n0_ n1_ ho0 hb;obtain ⟨Ao30,co30,eo30⟩:=Kd.V_slice HS.out;subst eo30)|((with_reducible refine gate_callee (f:=44) rfl ?_);refine goesL_ (some 52) rfl rfl Tryd.func44 (by kernel_rfl) rfl #[.slice (some ad) l1.length c1,.slice Ao30 (numOf f).length co30] rfl (by (try simp only [List.map_toArray,List.map_cons,List.map_nil]);first|done|rfl|(simp only [List.length_drop,List.length_take];rfl)) ?_;(with_reducible refine (Times_own k27 _ _ l1 _ _ (numOf f) vv _ ?side1 ?side2 ?side3 ?side4 A27.out).mono ?_);(case side1=>repeat (first|exact (Kd.C_below HR1.out HB.out)|(with_reducible refine Kd.C_alloc ?_ _)|(with_reducible refine Kd.C_drewN ?_ _)|(with_reducible refine Kd.C_drew ?_)));(case side2=>exact HC1.out);(case side3=>repeat (first|exact (Kd.V_reads' HS.out).2.2|(with_reducible refine Kd.C_alloc ?_ _)|(with_reducible refine Kd.C_drewN ?_ _)|(with_reducible refine Kd.C_drew ?_)));(case side4=>exact (Kd.V_reads' HS.out).2.1);rintro e w33 ⟨v166,rfl,ho0,hb⟩;refine ⟨_,rfl,?_⟩;have n0_:=Aside0.mk (Kd.V_below (by (with_reducible repeat (first|apply Kd.V_alloc|apply Kd.V_drewN|apply Kd.V_drew));exact HS.out) hb);have n2_:=Aside0.mk (Kd.R_lower (Kd.R_mono (ok':=(fun k_=>(w.heap.size≤k_))) ho0 (fun k_ hk_=>Nat.le_trans (below_size (by repeat (first|(with_reducible first|exact HB.out|apply below_alloc|apply pw_below_drewN|apply below_drew1)|exact HB.out))) hk_)) (below_size (by repeat (first|(with_reducible first|exact HB.out|apply below_alloc|apply pw_below_drewN|apply below_drew1)|exact HB.out))));have n3_:=Aside0.mk (below_step (by repeat (first|(with_reducible first|exact HB.out|apply below_alloc|apply pw_below_drewN|apply below_drew1)|exact HB.out)) hb);clear HS HB;have HS:=n0_;have HV:=n2_;have HB:=n3_;clear n0_ n2_ n3_ ho0 hb;obtain ⟨gv,cv,ev,hv1,hv2,hv3⟩:=Kd.R_form HV.out LV.out;subst ev;clear hv1 hv2 hv3)|((with_reducible refine gate_dst (N:=53) rfl ?_);refine Kd.R_lit (Kd.int .u32) _ 64 ?hg (N:=53) ?hd (xs:=([]:List Int)) (inner:=[]) (ok:=fun _=>True) (okp:=fun _=>True) ?hr ?hp (fun _ hk=>hk) trivial (Below.refl _ _) (Nat.le_refl _) (by simp) ?_;(case hd=>rfl);(case hg=>rfl);(case hr=>first|(go_simp;done)|(go_simp;rfl));(case hp=>exact (Reps.none _ _));intro ve w2 ho3 hb hg_ hnew_;clear hg_ hnew_;have n0_:=Aside0.mk (Kd.V_elder' (by (with_reducible repeat (first|apply Kd.V_alloc|apply Kd.V_drewN|apply Kd.V_drew));exact HS.out) (Kd.R_base ho3) hb);have n1_:=Aside0.mk (Kd.R_elder' (by (with_reducible repeat (first|apply Kd.R_alloc|apply Kd.R_drewN|apply Kd.R_drew));exact HV.out) (Kd.R_base ho3) hb);have n2_:=Aside0.mk (Kd.R_mono (Kd.R_lower (Kd.R_new' (Kd.R_newM (M:=(fun k_=>(w.heap.size≤k_))) ho3 (below_size (by repeat (first|(with_reducible first|exact HB.out|apply below_alloc|apply pw_below_drewN|apply below_drew1)|exact HB.out))) (fun k_ h_=>h_)) (Kd.R_lt (by (with_reducible repeat (first|apply Kd.R_alloc|apply Kd.R_drewN|apply Kd.R_drew));exact HV.out))) (below_size (by repeat (first|(with_reducible first|exact HB.out|apply below_alloc|apply pw_below_drewN|apply below_drew1)|exact HB.out)))) (ok':=fun k_=>(w.heap.size≤k_)∧some k_≠(.slice (some ⟨gv,0,none⟩) vv.length cv:Value).ownBlock) (fun k_ hk_=>⟨hk_.1.1,hk_.2⟩));have n3_:=Aside0.mk (below_step (by repeat (first|(with_reducible first|exact HB.out|apply below_alloc|apply pw_below_drewN|apply below_drew1)|exact HB.out)) hb);clear HS HV HB;have HS:=n0_;have HV:=n1_;have HE:=n2_;have HB:=n3_;clear n0_ n1_ n2_ n3_ hb ho3)|((with_reducible refine gate_callee (f:=44) rfl ?_);refine goesL_ (some 56) rfl rfl Tryd.func44 (by kernel_rfl) rfl #[.slice A0 l0.length c0,.slice Ao30 (numOf f).length co30] rfl (by (try simp only [List.map_toArray,List.map_cons,List.map_nil]);first|done|rfl|(simp only [List.length_drop,List.length_take];rfl)) ?_;(with_reducible refine (Times_own k25 _ _ l0 _ _ (numOf f) (numOf (a * f)) _ ?side1 ?side2 ?side3 ?side4 A25.out).mono ?_);(case side1=>repeat (first|exact (Kd.C_below HR0.out HB.out)|(with_reducible refine Kd.C_alloc ?_ _)|(with_reducible refine Kd.C_drewN ?_ _)|(with_reducible refine Kd.C_drew ?_)));(case side2=>exact HC0.out);(case side3=>repeat (first|exact (Kd.V_reads' HS.out).2.2|(with_reducible refine Kd.C_alloc ?_ _)|(with_reducible refine Kd.C_drewN ?_ _)|(with_reducible refine Kd.C_drew ?_)));(case side4=>exact (Kd.V_reads' HS.out).2.1);rintro e w31 ⟨v160,rfl,ho0,hb⟩;refine ⟨_,rfl,?_⟩;have n0_:=Aside0.mk (Kd.V_below (by (with_reducible repeat (first|apply Kd.V_alloc|apply Kd.V_drewN|apply Kd.V_drew));exact HS.out) hb);have n1_:=Aside0.mk (Kd.R_below (by (with_reducible repeat (first|apply Kd.R_alloc|apply Kd.R_drewN|apply Kd.R_drew));exact HV.out) hb);have n2_:=Aside0.mk (Kd.R_below (by (with_reducible repeat (first|apply Kd.R_alloc|apply Kd.R_drewN|apply Kd.R_drew));exact HE.out) hb);have n3_:=Aside0.mk (below_step (by repeat (first|(with_reducible first|exact HB.out|apply below_alloc|apply pw_below_drewN|apply below_drew1)|exact HB.out)) hb);have HT:=Aside0.mk ho0;clear HS HV HE HB;have HS:=n0_;have HV:=n1_;have HE:=n2_;have HB:=n3_;clear n0_ n1_ n2_ n3_ ho0 hb;obtain ⟨At,ct,et⟩:=Kd.R_slice HT.out;subst et)|((with_reducible refine gate_builtin (b:=.append) (xs:=#[.tmp 53,.tmp 56]) rfl ?_);at_builtin;refine Kd.R_append_rows (Kd.int .u32) (w0:=w) w.heap.size rfl (.tmp 53) (.tmp 56) 45 64 (.int .u32 0) 4 rfl Tryd.underlying45 info64 rfl (by decide) (by decide) ve ([]:List Int) (numOf (a * f)) _ _ _ (fun k_=>(w.heap.size≤k_)∧some k_≠(.slice (some ⟨gv,0,none⟩) vv.length cv:Value).ownBlock) (fun _=>False) rfl rfl ?aO ?aR (fun _ _ h=>h) (fun _ h=>h.elim) ?aF ?aB ?aS ?aL ?_;(case aR=>repeat (first|exact (Kd.R_reads' HT.out).2.2|(with_reducible refine Kd.C_alloc ?_ _)|(with_reducible refine Kd.C_drewN ?_ _)|(with_reducible refine Kd.C_drew ?_)));(case aB=>exact (by repeat (first|(with_reducible first|exact HB.out|apply below_alloc|apply pw_below_drewN|apply below_drew1)|exact HB.out)));(case aF=>exact (fun k_ hk=>⟨(Nat.le_trans (below_size (by repeat (first|(with_reducible first|exact HB.out|apply below_alloc|apply pw_below_drewN|apply below_drew1)|exact HB.out))) hk),Kd.fresh' (Kd.R_lt (by (with_reducible repeat (first|apply Kd.R_alloc|apply Kd.R_drewN|apply Kd.R_drew));exact HV.out)) k_ hk⟩));(case aO=>exact (by (with_reducible repeat (first|apply Kd.R_alloc|apply Kd.R_drewN|apply Kd.R_drew));exact HE.out));(case aS=>exact (below_size (by repeat (first|(with_reducible first|exact HB.out|apply below_alloc|apply pw_below_drewN|apply below_drew1)|exact HB.out))));(case aL=>exact LA1.out);intro va w34 ho hb hg hat;rw [List.nil_append] at ho;have n0_:=Aside0.mk (Kd.V_afterv (ok:=(fun k_=>(w.heap.size≤k_))) (by (with_reducible repeat (first|apply Kd.V_alloc|apply Kd.V_drewN|apply Kd.V_drew));exact HS.out) hg hat);have n1_:=Aside0.mk (Kd.R_after (ok:=(fun k_=>(w.heap.size≤k_))) (by (with_reducible repeat (first|apply Kd.R_alloc|apply Kd.R_drewN|apply Kd.R_drew));exact HV.out) hg hat);have n2_:=Aside0.mk hb;have n3_:=Aside0.mk ho;clear HS HV HB;have HS:=n0_;have HV:=n1_;have HB:=n2_;have HA:=n3_;clear n0_ n1_ n2_ n3_ ho hb hg hat)|((with_reducible refine gate_dst (N:=58) rfl ?_);refine Kd.R_lit (Kd.int .u32) _ 64 ?hg (N:=58) ?hd (xs:=([0,0]:List Int)) (inner:=[.int .u32 0,.int .u32 0]) (ok:=fun _=>True) (okp:=fun _=>True) ?hr ?hp (fun _ hk=>hk) trivial (Below.refl _ _) (Nat.le_refl _) (by simp) ?_;(case hd=>rfl);(case hg=>rfl);(case hr=>first|(go_simp;done)|(go_simp;rfl));(case hp=>exact (Reps.one (show Kd.M (Kd.int .u32) _ _ _ (0:Int) [.int .u32 0] from rfl) (Reps.one (show Kd.M (Kd.int .u32) _ _ _ (0:Int) [.int .u32 0] from rfl) (Reps.none _ _))));intro vz w35 ho3 hb hg_ hnew_;clear hg_ hnew_;have n0_:=Aside0.mk (Kd.V_below (by (with_reducible repeat (first|apply Kd.V_alloc|apply Kd.V_drewN|apply Kd.V_drew));exact HS.out) hb);have n1_:=Aside0.mk (Kd.R_below (by (with_reducible repeat (first|apply Kd.R_alloc|apply Kd.R_drewN|apply Kd.R_drew));exact HV.out) hb);have n2_:=Aside0.mk (Kd.R_below (by (with_reducible repeat (first|apply Kd.R_alloc|apply Kd.R_drewN|apply Kd.R_drew));exact HA.out) hb);have n3_:=Aside0.mk (below_step (by repeat (first|(with_reducible first|exact HB.out|apply below_alloc|apply pw_below_drewN|apply below_drew1)|exact HB.out)) hb);have HZ:=Aside0.mk ho3;clear HS HV HA HB;have HS:=n0_;have HV:=n1_;have HA:=n2_;have HB:=n3_;clear n0_ n1_ n2_ n3_ hb ho3;obtain ⟨Az,cz,ez⟩:=Kd.R_slice HZ.out;subst ez)|((with_reducible refine gate_builtin (b:=.append) (xs:=#[.tmp 57,.tmp 58]) rfl ?_);at_builtin;refine Kd.R_append_rows (Kd.int .u32) (w0:=w) w.heap.size rfl (.tmp 57) (.tmp 58) 45 64 (.int .u32 0) 4 rfl Tryd.underlying45 info64 rfl (by decide) (by decide) va (numOf (a * f)) ([0,0]:List Int) _ _ _ (fun k_=>(w.heap.size≤k_)∧some k_≠(.slice (some ⟨gv,0,none⟩) vv.length cv:Value).ownBlock) (fun _=>False) rfl rfl ?aO ?aR (fun _ _ h=>h) (fun _ h=>h.elim) ?aF ?aB ?aS ?aL ?_;(case aR=>repeat (first|exact (Kd.R_reads' HZ.out).2.2|(with_reducible refine Kd.C_alloc ?_ _)|(with_reducible refine Kd.C_drewN ?_ _)|(with_reducible refine Kd.C_drew ?_)));(case aB=>exact (by repeat (first|(with_reducible first|exact HB.out|apply below_alloc|apply pw_below_drewN|apply below_drew1)|exact HB.out)));(case aF=>exact (fun k_ hk=>⟨(Nat.le_trans (below_size (by repeat (first|(with_reducible first|exact HB.out|apply below_alloc|apply pw_below_drewN|apply below_drew1)|exact HB.out))) hk),Kd.fresh' (Kd.R_lt (by (with_reducible repeat (first|apply Kd.R_alloc|apply Kd.R_drewN|apply Kd.R_drew));exact HV.out)) k_ hk⟩));(case aO=>exact (by (with_reducible repeat (first|apply Kd.R_alloc|apply Kd.R_drewN|apply Kd.R_drew));exact HA.out));(case aS=>exact (below_size (by repeat (first|(with_reducible first|exact HB.out|apply below_alloc|apply pw_below_drewN|apply below_drew1)|exact HB.out))));(case aL=>exact LA2.out);intro vu w36 ho hb hg hat;rw [← Nu.out] at ho;have n0_:=Aside0.mk (Kd.V_afterv (ok:=(fun k_=>(w.heap.size≤k_))) (by (with_reducible repeat (first|apply Kd.V_alloc|apply Kd.V_drewN|apply Kd.V_drew));exact HS.out) hg hat);have n1_:=Aside0.mk (Kd.R_after (ok:=(fun k_=>(w.heap.size≤k_))) (by (with_reducible repeat (first|apply Kd.R_alloc|apply Kd.R_drewN|apply Kd.R_drew));exact HV.out) hg hat);have n2_:=Aside0.mk hb;have n3_:=Aside0.mk ho;clear HS HV HB;have HS:=n0_;have HV:=n1_;have HB:=n2_;have HU:=n3_;clear n0_ n1_ n2_ n3_ ho hb hg hat;obtain ⟨gu,cu,eu,hu1,hu2,hu3⟩:=Kd.R_form HU.out LU.out;subst eu;clear hu1 hu2 hu3;have hcu:=(Kd.R_reads' HU.out).2.1;have LCU:=Aside0.mk hcu;have hlucu:lu≤cu:=Nat.le_trans LLU.out hcu;clear hcu)|((with_reducible refine gate_callee (f:=59) rfl ?_);refine goesL_ (some 65) rfl rfl Tryd.func59 (by kernel_rfl) rfl #[.slice (some ⟨gu,0,none⟩) uu.length cu] rfl (by (try simp only [List.map_toArray,List.map_cons,List.map_nil]);first|done|rfl|(simp only [List.length_drop,List.length_take];rfl)) ?_;(with_reducible refine (garboardref01_trim.calls k28 (fun k_=>some k_ = (.slice (some ⟨gu,0,none⟩) uu.length cu:Value).ownBlock) _ _ uu (numOf (a * f)) _ ?side1 A28.out).mono ?_);(case side1=>exact Kd.R_V (Kd.R_tight rfl (by (with_reducible repeat (first|apply Kd.R_alloc|apply Kd.R_drewN|apply Kd.R_drew));exact HU.out)));rintro e w37 ⟨v65,rfl,ho0,hb⟩;refine ⟨_,rfl,?_⟩;obtain ⟨A65,c65,e65⟩:=Kd.V_slice ho0;subst e65;have n0_:=Aside0.mk (Kd.V_below (by (with_reducible repeat (first|apply Kd.V_alloc|apply Kd.V_drewN|apply Kd.V_drew));exact HS.out) hb);have n1_:=Aside0.mk (Kd.R_below (by (with_reducible repeat (first|apply Kd.R_alloc|apply Kd.R_drewN|apply Kd.R_drew));exact HV.out) hb);have n2_:=Aside0.mk (Kd.R_below (by (with_reducible repeat (first|apply Kd.R_alloc|apply Kd.R_drewN|apply Kd.R_drew));exact HU.out) hb);have n3_:=Aside0.mk (below_step (by repeat (first|(with_reducible first|exact HB.out|apply below_alloc|apply pw_below_drewN|apply below_drew1)|exact HB.out)) hb);clear HS HV HU HB;have HS:=n0_;have HV:=n1_;have HU:=n2_;have HB:=n3_;clear n0_ n1_ n2_ n3_ ho0 hb)|((with_reducible refine gate_dst (N:=73) rfl ?_);refine Kd.R_make (Kd.int .u32) _ 64 rfl (N:=73) rfl 45 _ _ rfl (nq:Int) rfl rfl Tryd.underlying45 (.int .u32 0) 4 info64 rfl (by decide) (by decide) 0 (ok:=fun _=>True) (okp:=fun _=>True) rfl (fun _ hk=>hk) trivial (Int.natCast_nonneg _) (Nat.le_trans (Nat.mul_le_mul_right _ LQ.out) (by decide)) (Below.refl _ _) (Nat.le_refl _) ?_;intro v172 w43 ho44 hb hg_ hnew_;clear hg_ hnew_;rw [Int.toNat_natCast,← Nq.out] at ho44;have n0_:=Aside0.mk (Kd.R_elder' (by (with_reducible repeat (first|apply Kd.R_alloc|apply Kd.R_drewN|apply Kd.R_drew));exact HU.out) (Kd.R_base ho44) hb);have n1_:=Aside0.mk (Kd.R_elder' (by (with_reducible repeat (first|apply Kd.R_alloc|apply Kd.R_drewN|apply Kd.R_drew));exact HV.out) (Kd.R_base ho44) hb);have n2_:=Aside0.mk (Kd.R_lower ho44 (below_size (by repeat (first|(with_reducible first|exact HB.out|apply below_alloc|apply pw_below_drewN|apply below_drew1)|exact HB.out))));have n4_:=Aside0.mk (Kd.V_elder' (by (with_reducible repeat (first|apply Kd.V_alloc|apply Kd.V_drewN|apply Kd.V_drew));exact HS.out) (Kd.R_base ho44) hb);have n3_:=Aside0.mk (below_step (by repeat (first|(with_reducible first|exact HB.out|apply below_alloc|apply pw_below_drewN|apply below_drew1)|exact HB.out)) hb);clear HU HV HB HS;have HU:=n0_;have HV:=n1_;have HQR:=n2_;have HS:=n4_;have HB:=n3_;clear n0_ n1_ n2_ n3_ n4_ hb ho44;obtain ⟨gq,cq,eq,hv1,hv2,hv3⟩:=Kd.R_form HQR.out LQ2.out;subst eq;clear hv1 hv2 hv3))
 have hU2:=R_take2 HU.out LLU.out
 have hU3:Rw w43 w.heap.size gu cu (uu.take lu):=Rw.of (by rw [HTL.out];exact hU2)
 have hap:=HU.out.1 gu rfl
 have hap2:=HV.out.1 gv rfl
 have hD:DW w.heap.size w43 w43 gu cu gv cv gq cq (uu.take lu) vv qq:=⟨hU3,Rw.of HV.out,Rw.of HQR.out,ne_own hap.1.2,ne_own hap.2,ne_own hap2.2,Below.refl _ _,fun _ _ _ _=>rfl⟩
 have HCU:=Aside0.mk (show vv.length≤cu by have h1:=LCU.out;have h2:=LLU.out;have h3:=NO.out.lq;omega)
 clear hap hap2 HU HV HQR hU2 hU3
 rw [← HLV.out]
 refine router_loop _ _ w w43 w43 gu cu gv cv gq cq lu qq.length (uu.take lu) vv qq ((a * f:Nat):Int) _ _ _ _ _ _ _ _ _ _ _ _ _ _ _ _ _ _ _ _ _ _ _ _ _ _ _ _ _ _ _ _ _ _ _ _ _ _ _ _ _ _ _ _ _ _ _ _ _ _ _ _ _ _ _ _ _ _ _ _ _ _ _ _ _ _ _ _ _ _ _ _ _ _ _ _ _ _ _ _ _ _ _ _ _ _ _ _ _ _ _ _ _ _ _ _ _ _ _ _ _ _ _ _ _ _ _ _ _ _ _ _ _ _ _ _ _ _ _ _ _ _ _ _ _ _ _ _ _ _ _ _ _ _ _ _ _ _ _ _ _ _ _ _ _ _ _ _ _ _ _ _ _ _ _ _ _ _ _ _ _ _ _ _ _ _ _ _ _ _ _ _ HZZ.out rfl NO.out HB.out hD ?_
 intro W u2 q2 y13 y14 y15 y16 y79 y80 y81 y82 y83 y84 y85 y86 y87 y88 y89 y90 y91 y92 y93 y94 y95 y96 y97 y98 y99 y100 y101 y102 y103 y104 y105 y106 y107 y108 y109 y110 y111 y112 y113 y114 y115 y116 y117 y118 y119 y120 y121 y122 y123 y124 y125 y126 y127 y128 y129 y130 y131 y132 y133 y134 y135 y136 y137 y138 y139 y140 y141 y142 y143 y144 y145 y146 y147 y148 y149 y150 y151 y152 y153 y154 y155 y156 y157 y158 y159 y160 y161 hD2 hO2 hq2
 have hcu:vv.length≤cu:=HCU.out
 have EN:REndN a b f u2 vv q2:=by
  have h:=hO2
  rw [Nv.out] at h ⊢
  exact rendN hb0 F0.out F1.out (by rw [← E0.out];exact H0.out) (by rw [← E1.out];exact H1.out) h
 have hle:=EN.le
 have htl2:(u2.take vv.length).length = vv.length:=by rw [List.length_take];exact Nat.min_eq_left hle
 have HF:=Aside0.mk (Kd.V_mono (ok':=fun k=>w.heap.size≤k) (Kd.V_step HS.out (fun k hk hlt=>hD2.rest k (ne_own hk.1.2) (ne_own hk.2) hlt)) (fun k hk=>hk.1.1))
 have HT:=Aside0.mk (R_take2 hD2.ru hle)
 have HTL2:=Aside0.mk htl2
 have HQL:=Aside0.mk hq2
 have HQQ:=Aside0.mk (show Kd.R (Kd.int .u32) 64 W w.heap.size (fun k=>k = gq) (.slice (some ⟨gq,0,none⟩) q2.length cq) q2 from hD2.rq)
 have HB2:=Aside0.mk (HB.out.trans hD2.below)
 obtain ⟨k51,M1⟩:=EN.k1
 obtain ⟨k52,M2⟩:=EN.k2
 obtain ⟨k53,M3⟩:=EN.k3
 rw [← HFI.out] at M2
 have hlf:(numOf f).length = 1:=len_one F0.out (by have:=F1.out;omega)
 obtain ⟨ads,eads,hsc⟩:=Kd.at_int (Kd.V_reads' HF.out).2.2 0 (by decide) (by rw [hlf];decide)
 subst eads
 rw [show ((0:Int)).toNat = 0 from rfl,Addr.add_zero',show rd (numOf f) 0 = fi by rw [HFI.out,numOf_one (by have:=F1.out;omega) F0.out];rfl] at hsc
 have LSC:=World.block_lt_of_cell? W _ hsc
 have qf:(0 < ((numOf f).length:Int)) = True:=eq_true (by rw [hlf];decide)
 have qf2:(0 < (numOf f).length) = True:=eq_true (by rw [hlf];decide)
 replace M1:=Aside0.mk M1
 replace M2:=Aside0.mk M2
 replace M3:=Aside0.mk M3
 clear HB hD2 hO2 hq2 EN hle htl2 HS hlf
 have HB:=HB2
 clear HB2
 go_wp2
 go_region_held3 (fun w'=>w'.cell? ads = some (.int .u32 fi)) (first|exact hsc|exact hsc2|exact hsc3) (first|(go_at_call 59;refine (rtrim_ownn k51 w.heap.size (fun k_=>k_ = gu) _ _ (u2.take vv.length) vv.length (numOf (a % b * f)) _ HTL2.out ?side1 M1.out).mono ?_;(case side1=>exact (by (with_reducible repeat (first|apply Kd.R_alloc|apply Kd.R_drewN|apply Kd.R_drew));exact HT.out));rintro e w51 ⟨v291,rfl,ho0,hb⟩;have hsc2:=(hb.cell (p:=ads) LSC).trans hsc;have LSC2:=Nat.lt_of_lt_of_le LSC hb.size;have n0_:=Aside0.mk (Kd.R_below (by (with_reducible repeat (first|apply Kd.R_alloc|apply Kd.R_drewN|apply Kd.R_drew));exact HQQ.out) hb);have n1_:=Aside0.mk (below_step (by repeat (first|(with_reducible first|exact HB.out|apply below_alloc|apply pw_below_drewN|apply below_drew1)|exact HB.out)) hb);have HO291:=Aside0.mk ho0;clear HQQ HB;have HQQ:=n0_;have HB:=n1_;clear n0_ n1_ ho0 hb;obtain ⟨Ao51,co51,eo51⟩:=Kd.R_slice HO291.out;subst eo51)|(go_at_call 67;refine (garboardref01_small.calls k52 _ _ (numOf (a % b * f)) fi _ _ _ ?side1 ?side2 M2.out).mono ?_;(case side1=>repeat (first|exact (Kd.R_reads' HO291.out).2.2|(with_reducible refine Kd.C_alloc ?_ _)|(with_reducible refine Kd.C_drewN ?_ _)|(with_reducible refine Kd.C_drew ?_)));(case side2=>exact (Kd.R_reads' HO291.out).2.1);rintro e w52 ⟨v294,rfl,ho0,hb⟩;have hsc3:=(hb.cell (p:=ads) LSC2).trans hsc2;have n0_:=Aside0.mk (Kd.R_below (by (with_reducible repeat (first|apply Kd.R_alloc|apply Kd.R_drewN|apply Kd.R_drew));exact HQQ.out) hb);have n2_:=Aside0.mk (Kd.V_lower (Kd.V_mono (ok':=fun k_=>(w.heap.size≤k_)∧some k_≠(.slice (some ⟨gq,0,none⟩) q2.length cq:Value).ownBlock) ho0 (fun k_ hk_=>⟨Nat.le_trans (below_size (by repeat (first|(with_reducible first|exact HB.out|apply below_alloc|apply pw_below_drewN|apply below_drew1)|exact HB.out))) hk_,Kd.fresh' (Kd.R_lt (by (with_reducible repeat (first|apply Kd.R_alloc|apply Kd.R_drewN|apply Kd.R_drew));exact HQQ.out)) k_ hk_⟩)) (below_size (by repeat (first|(with_reducible first|exact HB.out|apply below_alloc|apply pw_below_drewN|apply below_drew1)|exact HB.out))));have n1_:=Aside0.mk (below_step (by repeat (first|(with_reducible first|exact HB.out|apply below_alloc|apply pw_below_drewN|apply below_drew1)|exact HB.out)) hb);clear HQQ HB;have HQQ:=n0_;have HB:=n1_;have HR:=n2_;clear n0_ n1_ n2_ ho0 hb))
 go_wp2_with (first|((with_reducible refine gate_callee (f:=59) rfl ?_);refine goesL_ (some 174) rfl rfl Tryd.func59 (by kernel_rfl) rfl #[.slice (some ⟨gq,0,none⟩) q2.length cq] rfl (by (try simp only [List.map_toArray,List.map_cons,List.map_nil]);first|(rw [HQL.out];done)|(rw [HQL.out];rfl)|rfl) ?_;(with_reducible refine (rtrim_own k53 w.heap.size (fun k_=>k_ = gq) _ _ q2 (numOf (a / b)) _ ?side1 M3.out).mono ?_);(case side1=>exact (by (with_reducible repeat (first|apply Kd.R_alloc|apply Kd.R_drewN|apply Kd.R_drew));exact HQQ.out));rintro e w53 ⟨v297,rfl,ho0,hb⟩;refine ⟨_,rfl,?_⟩;have n0_:=Aside0.mk (Kd.V_below (by (with_reducible repeat (first|apply Kd.V_alloc|apply Kd.V_drewN|apply Kd.V_drew));exact HR.out) hb);have n1_:=Aside0.mk (below_step (by repeat (first|(with_reducible first|exact HB.out|apply below_alloc|apply pw_below_drewN|apply below_drew1)|exact HB.out)) hb);have HO297:=Aside0.mk ho0;clear HR HB;have HR:=n0_;have HB:=n1_;clear n0_ n1_ ho0 hb))
 go_ret2
 refine ⟨_,_,rfl,Kd.R_mono (by (with_reducible repeat (first|apply Kd.R_alloc|apply Kd.R_drewN|apply Kd.R_drew));exact HO297.out) (fun _ _=>trivial),Kd.V_mono HR.out (fun k hk=>⟨.inr hk.1,fun e=>?_⟩),(by repeat (first|(with_reducible first|exact HB.out|apply below_alloc|apply pw_below_drewN|apply below_drew1)|exact HB.out))⟩
 have h297:=HO297.out.1 k e.symm
 subst h297
 exact hk.2 rfl
end Go.Proofs.YtaopmkcghancmaaDoor.Pr
namespace Go.Proofs.YtaopmkcghancmaaDoor.Pr
set_option linter.unusedVariables false
set_option linter.unusedSimpArgs false
open Go.RowKit Go.Proofs.YtaopmkcghancmaaDoor.NatTh Go.Proofs.YtaopmkcghancmaaDoorW.PrintWords Go.Proofs.YtaopmkcghancmaaDoorW.PrintLast Go.Proofs.YtaopmkcghancmaaDoorW.PrintMore
attribute [local go_sem] max2_int min2_int max_two min_two max_three min_three max_four min_four
theorem garboardref01_Over.calls (P0_:Nat→Prop) (A0:Option Addr) (c0:Nat) (l0:List Int) (A1:Option Addr) (c1:Nat) (l1:List Int) (r1 r2:List Int) (w:World) (hs0:Kd.V (Kd.int .u32) 64 w w.heap.size (fun k_=>P0_ k_) (.slice A0 l0.length c0) l0) (hr1:Kd.C (Kd.int .u32) w A1 l1.length l1) (hc1:l1.length≤c1) (h:garboardref01_Over.f l0 l1 = some (r1,r2)) :
  Calls Tryd.prog 47 #[.slice A0 l0.length c0,.slice A1 l1.length c1] w fun e w'=>∃ v0_ v1_:Value,e = .returned (.tuple #[v0_,v1_])∧Kd.R (Kd.int .u32) 64 w' w.heap.size (fun _=>True) v0_ r1∧Kd.V (Kd.int .u32) 64 w' w.heap.size (fun k_=>(P0_ k_ ∨ w.heap.size≤k_)∧some k_≠(v0_:Value).ownBlock) v1_ r2∧Below w.heap.size w w':=by
 unfold garboardref01_Over.f at h
 by_cases hc:can l0∧can l1∧l1≠[]
 ·rw [if_pos hc] at h
  obtain ⟨⟨e0,h0⟩,⟨e1,h1⟩,hne⟩:=hc
  simp only [Option.some.injEq,Prod.mk.injEq] at h
  obtain ⟨rfl,rfl⟩:=h
  have hb0:0 < nm l1:=by
   by_cases e:nm l1 = 0
   ·rw [e,numOf_zero] at e1
    exact absurd e1 hne
   ·omega
  by_cases hlt:nm l0 < nm l1
  ·exact over_less P0_ A0 c0 l0 A1 c1 l1 _ _ w hs0 hr1 hc1 h0 h1 e0 e1 hb0 hlt
  ·have hp:0 < l1.length:=by
    rw [e1]
    exact len_pos hb0
   by_cases hx1:l1.length = 1
   ·exact over_one P0_ A0 c0 l0 A1 c1 l1 _ _ w hs0 hr1 hc1 h0 h1 e0 e1 hb0 hlt hx1
   ·exact over_big P0_ A0 c0 l0 A1 c1 l1 _ _ w hs0 hr1 hc1 h0 h1 e0 e1 hb0 hlt (by omega)
 ·rw [if_neg hc] at h
  cases h
end Go.Proofs.YtaopmkcghancmaaDoor.Pr
namespace Go.Proofs.YtaopmkcghancmaaDoor.Pr
open Go.RowKit Go.Proofs.YtaopmkcghancmaaDoorW.PrintWords Go.Proofs.YtaopmkcghancmaaDoorW.PrintLast Go.Proofs.YtaopmkcghancmaaDoorW.PrintMore
attribute [local go_sem] max2_int min2_int max_two min_two max_three min_three max_four min_four
set_option linter.unusedVariables false
set_option linter.unusedSimpArgs false
def garboardref01_Common.f (k:Nat) (l0:List Int) (l1:List Int):Option (List Int):=garboardref01_Common.l0 k l0 l1
set_option maxHeartbeats 8000000 in
set_option maxRecDepth 100000 in
theorem garboardref01_Common.calls (k:Nat) (P0_:Nat→Prop) (A0:Option Addr) (c0:Nat) (l0:List Int) (P1_:Nat→Prop) (A1:Option Addr) (c1:Nat) (l1:List Int) (r:List Int) (w:World) (hs0:Kd.V (Kd.int .u32) 64 w w.heap.size (fun k_=>P0_ k_) (.slice A0 l0.length c0) l0) (hs1:Kd.V (Kd.int .u32) 64 w w.heap.size (fun k_=>P1_ k_) (.slice A1 l1.length c1) l1) (h:garboardref01_Common.f k l0 l1 = some r) :
  Calls Tryd.prog 49 #[.slice A0 l0.length c0,.slice A1 l1.length c1] w fun e w'=>∃ v0_:Value,e = .returned (v0_)∧Kd.V (Kd.int .u32) 64 w' w.heap.size (fun k_=>((P0_ k_ ∨ P1_ k_) ∨ w.heap.size≤k_)) v0_ r∧Below w.heap.size w w':=by
 have HO0:=Aside0.mk (show Kd.V (Kd.int .u32) 64 w w.heap.size (fun k_=>((P0_ k_ ∨ P1_ k_) ∨ w.heap.size≤k_)) (.slice A0 l0.length c0) l0 from Kd.V_mono hs0 (fun k_ hk=>.inl (.inl hk)))
 have HO1:=Aside0.mk (show Kd.V (Kd.int .u32) 64 w w.heap.size (fun k_=>((P0_ k_ ∨ P1_ k_) ∨ w.heap.size≤k_)) (.slice A1 l1.length c1) l1 from Kd.V_mono hs1 (fun k_ hk=>.inl (.inr hk)))
 have HB:=Aside0.mk (Below.refl w.heap.size w)
 have H:(garboardref01_Common.l0 k l0 l1) = some r:=h
 clear h
 have H':=Aside0.mk H
 clear H
 go_enter Tryd.func49,Tryd.ntmps49
 go_wp2
 repeat (go_quiet (fail);try go_wp2)
 go_loopg [0,1] k (fun kq v0 v1 w'=>∃ (x0_1:List Int) (x1_1:List Int),Aside0 (garboardref01_Common.l0 kq x0_1 x1_1 = some r)∧Aside0 (kq≤k)∧Aside0 (Kd.V (Kd.int .u32) 64 w' w.heap.size (fun k_=>((P0_ k_ ∨ P1_ k_) ∨ w.heap.size≤k_)) v0 x0_1)∧Aside0 (Kd.V (Kd.int .u32) 64 w' w.heap.size (fun k_=>((P0_ k_ ∨ P1_ k_) ∨ w.heap.size≤k_)) v1 x1_1)∧Aside0 (Below w.heap.size w w'))
 case atStart=>exact ⟨(l0),(l1),H',⟨Nat.le_refl _⟩,⟨by (with_reducible repeat (first|apply Kd.V_alloc|apply Kd.V_drewN|apply Kd.V_drew));exact HO0.out⟩,⟨by (with_reducible repeat (first|apply Kd.V_alloc|apply Kd.V_drewN|apply Kd.V_drew));exact HO1.out⟩,⟨by repeat (first|(with_reducible first|exact HB.out|apply below_alloc|apply pw_below_drewN|apply below_drew1)|exact HB.out)⟩⟩
 case round =>
  clear H'
  try clear c1
  try clear p2
  obtain ⟨x0_1,x1_1,HA,HK1,HO_0,HO_1,HB⟩:=hrel
  cases gk with
  | zero=>exact absurd HA.out (by simp [garboardref01_Common.l0])
  | succ k1 =>
   have H:=HA.out
   clear HA
   simp only [garboardref01_Common.l0] at H
   by_cases c3:(x1_1.length:Int) > 0
   ·rw [if_pos c3] at H
    have c3b0:decide (0 < (x1_1.length:Int)) = true:=decide_eq_true c3
    have c3b1:decide (0 < x1_1.length) = true:=decide_eq_true (by omega)
    clear c3
    have HC4:=Aside0.mk H
    clear H
    obtain ⟨Ao5,co5,eo5⟩:=Kd.V_slice HO_1.out
    subst eo5
    go_upto_region 2 with (fail)
    repeat (go_quiet (fail);go_upto_region 2 with (fail))
    go_cut [19] (fun v19 wc=>∃ (kq:Nat) (x19_3:Bool),v19 = .bool x19_3∧Aside0 (garboardref01_Common.j1 kq x0_1 x1_1 x19_3 = some r)∧Aside0 (kq≤k1)∧Aside0 (Kd.V (Kd.int .u32) 64 wc w.heap.size (fun k_=>((P0_ k_ ∨ P1_ k_) ∨ w.heap.size≤k_)) u0 x0_1)∧Aside0 (Kd.V (Kd.int .u32) 64 wc w.heap.size (fun k_=>((P0_ k_ ∨ P1_ k_) ∨ w.heap.size≤k_)) (.slice Ao5 x1_1.length co5) x1_1)∧Aside0 (Below w.heap.size w wc))
    case first =>
     have H:=HC4.out
     clear HC4
     by_cases c6:(x0_1.length:Int)≤2
     ·rw [if_pos c6] at H
      have c6b0:decide ((x0_1.length:Int)≤2) = true:=decide_eq_true c6
      have c6b1:decide (x0_1.length≤2) = true:=decide_eq_true (by omega)
      clear c6
      (first|rw [c6b0]|(simp only [i64_w,i32_w];rw [c6b0])|skip)
      have H':=Aside0.mk H
      clear H
      obtain ⟨Ao7,co7,eo7⟩:=Kd.V_slice HO_0.out
      subst eo7
      go_wp2
      repeat (go_quiet (fail);try go_wp2)
      go_meet
      case rel=>exact ⟨_,(decide ((x1_1.length:Int)≤2)),(by first|rfl|(simp;done)|(simp [*];done)),H',⟨by have:=HK1.out;first|omega|exact Nat.le_refl _⟩,⟨by (with_reducible repeat (first|apply Kd.V_alloc|apply Kd.V_drewN|apply Kd.V_drew));exact HO_0.out⟩,⟨by (with_reducible repeat (first|apply Kd.V_alloc|apply Kd.V_drewN|apply Kd.V_drew));exact HO_1.out⟩,⟨by repeat (first|(with_reducible first|exact HB.out|apply below_alloc|apply pw_below_drewN|apply below_drew1)|exact HB.out)⟩⟩
     ·rw [if_neg c6] at H
      have c6b0:decide ((x0_1.length:Int)≤2) = false:=decide_eq_false c6
      have c6b1:decide (x0_1.length≤2) = false:=decide_eq_false (by omega)
      clear c6
      (first|rw [c6b0]|(simp only [i64_w,i32_w];rw [c6b0])|skip)
      have H':=Aside0.mk H
      clear H
      obtain ⟨Ao8,co8,eo8⟩:=Kd.V_slice HO_0.out
      subst eo8
      go_wp2
      repeat (go_quiet (fail);try go_wp2)
      go_meet
      case rel=>exact ⟨_,(false),(by first|rfl|(simp;done)|(simp [*];done)),H',⟨by have:=HK1.out;first|omega|exact Nat.le_refl _⟩,⟨by (with_reducible repeat (first|apply Kd.V_alloc|apply Kd.V_drewN|apply Kd.V_drew));exact HO_0.out⟩,⟨by (with_reducible repeat (first|apply Kd.V_alloc|apply Kd.V_drewN|apply Kd.V_drew));exact HO_1.out⟩,⟨by repeat (first|(with_reducible first|exact HB.out|apply below_alloc|apply pw_below_drewN|apply below_drew1)|exact HB.out)⟩⟩
    case rest =>
     clear HC4
     try clear c1
     try clear p2
     try clear c3
     try clear c3b0
     try clear c3b1
     try clear c4
     try clear c6
     try clear c6b0
     try clear c6b1
     try clear p2
     obtain ⟨kq,x19_3,rfl,HA,HJ3,HO_0,HO_1,HB⟩:=hcut
     cases kq with
     | zero=>exact absurd HA.out (by simp [garboardref01_Common.j1])
     | succ kj3 =>
      have H:=HA.out
      clear HA
      simp only [garboardref01_Common.j1] at H
      by_cases c9:x19_3 = true
      ·subst c9
       have H1:((garboardref01_word.f kj3 x0_1).bind fun t484=>((garboardref01_word.f kj3 x1_1).bind fun t485=>(garboardref01_Common.l1 kj3 t484 t485))) = some r:=by rw [if_pos rfl] at H;exact H
       clear H
       have H:=H1
       clear H1
       replace H:=Option.bind_eq_some_iff.mp H
       obtain ⟨t484,A100,H⟩:=H
       replace H:((garboardref01_word.f kj3 x1_1).bind fun t485=>(garboardref01_Common.l1 kj3 t484 t485)) = some r:=H
       have A10:=Aside0.mk A100
       clear A100
       replace H:=Option.bind_eq_some_iff.mp H
       obtain ⟨t485,A110,H⟩:=H
       replace H:(garboardref01_Common.l1 kj3 t484 t485) = some r:=H
       have A11:=Aside0.mk A110
       clear A110
       have H':=Aside0.mk H
       clear H
       obtain ⟨Ao12,co12,eo12⟩:=Kd.V_slice HO_0.out
       subst eo12
       go_wp2_with (first|(go_at_call 70;(with_reducible refine (garboardref01_word.calls kj3 _ _ x0_1 t484 _ ?side1 ?side2 A10.out).mono ?_);(case side1=>repeat (first|exact (Kd.V_reads' HO_0.out).2.2|(with_reducible refine Kd.C_alloc ?_ _)|(with_reducible refine Kd.C_drewN ?_ _)|(with_reducible refine Kd.C_drew ?_)));(case side2=>exact (Kd.V_reads' HO_0.out).2.1);rintro e w' ⟨rfl,⟨nd,rfl⟩⟩;(try first|exact ⟨rfl,_,World.drewN_drewN _ _ _⟩|exact ⟨rfl,_,Eq.trans (World.drewN_drewN _ _ _) (congrArg (World.drewN _) (Nat.add_assoc _ _ _))⟩))|(go_at_call 70;(with_reducible refine (garboardref01_word.calls kj3 _ _ x1_1 t485 _ ?side1 ?side2 A11.out).mono ?_);(case side1=>repeat (first|exact (Kd.V_reads' HO_1.out).2.2|(with_reducible refine Kd.C_alloc ?_ _)|(with_reducible refine Kd.C_drewN ?_ _)|(with_reducible refine Kd.C_drew ?_)));(case side2=>exact (Kd.V_reads' HO_1.out).2.1);rintro e w' ⟨rfl,⟨nd,rfl⟩⟩;(try first|exact ⟨rfl,_,World.drewN_drewN _ _ _⟩|exact ⟨rfl,_,Eq.trans (World.drewN_drewN _ _ _) (congrArg (World.drewN _) (Nat.add_assoc _ _ _))⟩)))
       repeat (go_quiet (first|(go_at_call 70;(with_reducible refine (garboardref01_word.calls kj3 _ _ x0_1 t484 _ ?side1 ?side2 A10.out).mono ?_);(case side1=>repeat (first|exact (Kd.V_reads' HO_0.out).2.2|(with_reducible refine Kd.C_alloc ?_ _)|(with_reducible refine Kd.C_drewN ?_ _)|(with_reducible refine Kd.C_drew ?_)));(case side2=>exact (Kd.V_reads' HO_0.out).2.1);rintro e w' ⟨rfl,⟨nd,rfl⟩⟩;(try first|exact ⟨rfl,_,World.drewN_drewN _ _ _⟩|exact ⟨rfl,_,Eq.trans (World.drewN_drewN _ _ _) (congrArg (World.drewN _) (Nat.add_assoc _ _ _))⟩))|(go_at_call 70;(with_reducible refine (garboardref01_word.calls kj3 _ _ x1_1 t485 _ ?side1 ?side2 A11.out).mono ?_);(case side1=>repeat (first|exact (Kd.V_reads' HO_1.out).2.2|(with_reducible refine Kd.C_alloc ?_ _)|(with_reducible refine Kd.C_drewN ?_ _)|(with_reducible refine Kd.C_drew ?_)));(case side2=>exact (Kd.V_reads' HO_1.out).2.1);rintro e w' ⟨rfl,⟨nd,rfl⟩⟩;(try first|exact ⟨rfl,_,World.drewN_drewN _ _ _⟩|exact ⟨rfl,_,Eq.trans (World.drewN_drewN _ _ _) (congrArg (World.drewN _) (Nat.add_assoc _ _ _))⟩)));try go_wp2_with (first|(go_at_call 70;(with_reducible refine (garboardref01_word.calls kj3 _ _ x0_1 t484 _ ?side1 ?side2 A10.out).mono ?_);(case side1=>repeat (first|exact (Kd.V_reads' HO_0.out).2.2|(with_reducible refine Kd.C_alloc ?_ _)|(with_reducible refine Kd.C_drewN ?_ _)|(with_reducible refine Kd.C_drew ?_)));(case side2=>exact (Kd.V_reads' HO_0.out).2.1);rintro e w' ⟨rfl,⟨nd,rfl⟩⟩;(try first|exact ⟨rfl,_,World.drewN_drewN _ _ _⟩|exact ⟨rfl,_,Eq.trans (World.drewN_drewN _ _ _) (congrArg (World.drewN _) (Nat.add_assoc _ _ _))⟩))|(go_at_call 70;(with_reducible refine (garboardref01_word.calls kj3 _ _ x1_1 t485 _ ?side1 ?side2 A11.out).mono ?_);(case side1=>repeat (first|exact (Kd.V_reads' HO_1.out).2.2|(with_reducible refine Kd.C_alloc ?_ _)|(with_reducible refine Kd.C_drewN ?_ _)|(with_reducible refine Kd.C_drew ?_)));(case side2=>exact (Kd.V_reads' HO_1.out).2.1);rintro e w' ⟨rfl,⟨nd,rfl⟩⟩;(try first|exact ⟨rfl,_,World.drewN_drewN _ _ _⟩|exact ⟨rfl,_,Eq.trans (World.drewN_drewN _ _ _) (congrArg (World.drewN _) (Nat.add_assoc _ _ _))⟩))))
       go_loopg [5,6] kj3 (fun kq v5 v6 w'=>∃ (x5_3:Int) (x6_3:Int),v5 = .int .u64 x5_3∧v6 = .int .u64 x6_3∧Aside0 (garboardref01_Common.l1 kq x5_3 x6_3 = some r)∧Aside0 (kq≤kj3)∧Aside0 (Below w.heap.size w w'))
       case atStart=>exact ⟨(t484),(t485),(by first|rfl|(simp;done)|(simp [*];done)),(by first|rfl|(simp;done)|(simp [*];done)),H',⟨Nat.le_refl _⟩,⟨by repeat (first|(with_reducible first|exact HB.out|apply below_alloc|apply pw_below_drewN|apply below_drew1)|exact HB.out)⟩⟩
       case round =>
        clear H'
        try clear c1
        try clear p2
        try clear c3
        try clear c3b0
        try clear c3b1
        try clear c4
        try clear c6
        try clear c6b0
        try clear c6b1
        try clear c9
        try clear p2
        obtain ⟨x5_3,x6_3,rfl,rfl,HA,HK3,HB⟩:=hrel
        cases gk with
        | zero=>exact absurd HA.out (by simp [garboardref01_Common.l1])
        | succ k3 =>
         have H:=HA.out
         clear HA
         simp only [garboardref01_Common.l1] at H
         by_cases c13:x6_3 = 0
         ·rw [if_pos c13] at H
          have c13b0:(x6_3 == 0) = true:=beq_iff_eq.mpr c13
          have c13b1:(x6_3 != 0) = false:=bne_eq_false_iff_eq.mpr c13
          clear c13
          replace H:=Option.bind_eq_some_iff.mp H
          obtain ⟨t486,A140,H⟩:=H
          replace H:(some t486) = some r:=H
          have A14:=Aside0.mk A140
          clear A140
          obtain rfl:=Option.some.inj H
          go_wp2_with (first|(go_at_call 71;(with_reducible refine (garboardref01_wide.calls k3 x5_3 t486 _ A14.out).mono ?_);rintro e w15 ⟨v487,rfl,ho0,hb⟩;have n0_:=Aside0.mk (Kd.V_lower (Kd.V_mono (ok':=fun k_=>((P0_ k_ ∨ P1_ k_) ∨ w.heap.size≤k_)) ho0 (fun k_ hk_=>(.inr (Nat.le_trans (below_size (by repeat (first|(with_reducible first|exact HB.out|apply below_alloc|apply pw_below_drewN|apply below_drew1)|exact HB.out))) hk_)))) (below_size (by repeat (first|(with_reducible first|exact HB.out|apply below_alloc|apply pw_below_drewN|apply below_drew1)|exact HB.out))));have n1_:=Aside0.mk (below_step (by repeat (first|(with_reducible first|exact HB.out|apply below_alloc|apply pw_below_drewN|apply below_drew1)|exact HB.out)) hb);clear HB;have HO488:=n0_;have HB:=n1_;clear n0_ n1_;(try clear hb);(try clear hb2);(try clear hk);(try clear hi);(try clear ho0)))
          repeat (go_quiet (first|(go_at_call 71;(with_reducible refine (garboardref01_wide.calls k3 x5_3 t486 _ A14.out).mono ?_);rintro e w15 ⟨v487,rfl,ho0,hb⟩;have n0_:=Aside0.mk (Kd.V_lower (Kd.V_mono (ok':=fun k_=>((P0_ k_ ∨ P1_ k_) ∨ w.heap.size≤k_)) ho0 (fun k_ hk_=>(.inr (Nat.le_trans (below_size (by repeat (first|(with_reducible first|exact HB.out|apply below_alloc|apply pw_below_drewN|apply below_drew1)|exact HB.out))) hk_)))) (below_size (by repeat (first|(with_reducible first|exact HB.out|apply below_alloc|apply pw_below_drewN|apply below_drew1)|exact HB.out))));have n1_:=Aside0.mk (below_step (by repeat (first|(with_reducible first|exact HB.out|apply below_alloc|apply pw_below_drewN|apply below_drew1)|exact HB.out)) hb);clear HB;have HO488:=n0_;have HB:=n1_;clear n0_ n1_;(try clear hb);(try clear hb2);(try clear hk);(try clear hi);(try clear ho0)));try go_wp2_with (first|(go_at_call 71;(with_reducible refine (garboardref01_wide.calls k3 x5_3 t486 _ A14.out).mono ?_);rintro e w15 ⟨v487,rfl,ho0,hb⟩;have n0_:=Aside0.mk (Kd.V_lower (Kd.V_mono (ok':=fun k_=>((P0_ k_ ∨ P1_ k_) ∨ w.heap.size≤k_)) ho0 (fun k_ hk_=>(.inr (Nat.le_trans (below_size (by repeat (first|(with_reducible first|exact HB.out|apply below_alloc|apply pw_below_drewN|apply below_drew1)|exact HB.out))) hk_)))) (below_size (by repeat (first|(with_reducible first|exact HB.out|apply below_alloc|apply pw_below_drewN|apply below_drew1)|exact HB.out))));have n1_:=Aside0.mk (below_step (by repeat (first|(with_reducible first|exact HB.out|apply below_alloc|apply pw_below_drewN|apply below_drew1)|exact HB.out)) hb);clear HB;have HO488:=n0_;have HB:=n1_;clear n0_ n1_;(try clear hb);(try clear hb2);(try clear hk);(try clear hi);(try clear ho0))))
          go_ret
          exact ⟨_,by first|rfl|(simp [errW_none,errW_some]<;>rfl)|(simp [*,errW_none,errW_some]<;>rfl),by (with_reducible repeat (first|apply Kd.V_alloc|apply Kd.V_drewN|apply Kd.V_drew));exact HO488.out,by repeat (first|(with_reducible first|exact HB.out|apply below_alloc|apply pw_below_drewN|apply below_drew1)|exact HB.out)⟩
         ·rw [if_neg c13] at H
          have c13b0:(x6_3 == 0) = false:=beq_eq_false_iff_ne.mpr c13
          have c13b1:(x6_3 != 0) = true:=bne_iff_ne.mpr c13
          have H':=Aside0.mk H
          clear H
          go_wp2
          repeat (go_quiet (fail);try go_wp2)
          go_roundg k3
          case measure=>have:=HK1.out;have:=HJ3.out;have:=HK3.out;omega
          case rel=>exact ⟨(x6_3),(Int.tmod x5_3 x6_3),(by first|rfl|(simp;done)|(simp [*];done)),(by first|rfl|(simp;done)|(simp [*];done)),H',⟨by have:=HK1.out;have:=HJ3.out;have:=HK3.out;omega⟩,⟨by repeat (first|(with_reducible first|exact HB.out|apply below_alloc|apply pw_below_drewN|apply below_drew1)|exact HB.out)⟩⟩
      ·replace c9:=Bool.eq_false_iff.mpr c9
       subst c9
       have H1:((garboardref01_Over.f x0_1 x1_1).bind fun bt489=>(garboardref01_Common.l0 kj3 x1_1 bt489.2)) = some r:=by rw [if_neg (show ¬ (false = true) by decide)] at H;exact H
       clear H
       have H:=H1
       clear H1
       replace H:=Option.bind_eq_some_iff.mp H
       obtain ⟨⟨t489,t492⟩,A160,H⟩:=H
       replace H:(garboardref01_Common.l0 kj3 x1_1 t492) = some r:=H
       have A16:=Aside0.mk A160
       clear A160
       have H':=Aside0.mk H
       clear H
       obtain ⟨Ao17,co17,eo17⟩:=Kd.V_slice HO_0.out
       subst eo17
       go_wp2_with (first|(go_at_call 47;(with_reducible refine (garboardref01_Over.calls (fun k_=>((P0_ k_ ∨ P1_ k_) ∨ w.heap.size≤k_)) _ _ x0_1 _ _ x1_1 t489 t492 _ ?side1 ?side2 ?side3 A16.out).mono ?_);(case side1=>exact HO_0.out);(case side2=>repeat (first|exact (Kd.V_reads' HO_1.out).2.2|(with_reducible refine Kd.C_alloc ?_ _)|(with_reducible refine Kd.C_drewN ?_ _)|(with_reducible refine Kd.C_drew ?_)));(case side3=>exact (Kd.V_reads' HO_1.out).2.1);rintro e w18 ⟨v490,v493,rfl,ho0,ho1,hb⟩;have n0_:=Aside0.mk (Kd.V_elder' (by (with_reducible repeat (first|apply Kd.V_alloc|apply Kd.V_drewN|apply Kd.V_drew));exact HO_0.out) (Kd.R_base ho0) hb);have n1_:=Aside0.mk (Kd.V_elder' (by (with_reducible repeat (first|apply Kd.V_alloc|apply Kd.V_drewN|apply Kd.V_drew));exact HO_1.out) (Kd.R_base ho0) hb);have n2_:=Aside0.mk (Kd.R_lower (Kd.R_newM (M:=fun k_=>(w.heap.size≤k_)) (Kd.R_mono (ok':=fun k_=>True) ho0 (fun _ hk_=>trivial)) (below_size (by repeat (first|(with_reducible first|exact HB.out|apply below_alloc|apply pw_below_drewN|apply below_drew1)|exact HB.out))) (fun k_ h_=>h_)) (below_size (by repeat (first|(with_reducible first|exact HB.out|apply below_alloc|apply pw_below_drewN|apply below_drew1)|exact HB.out))));have n3_:=Aside0.mk (Kd.V_lower (Kd.V_mono (ok':=fun k_=>((P0_ k_ ∨ P1_ k_) ∨ w.heap.size≤k_)∧some k_≠(v490:Value).ownBlock) ho1 (fun k_ hk_=>⟨Or.elim hk_.1 (fun hs_=>hs_) (fun hn_=>(.inr (Nat.le_trans (below_size (by repeat (first|(with_reducible first|exact HB.out|apply below_alloc|apply pw_below_drewN|apply below_drew1)|exact HB.out))) hn_))),hk_.2⟩)) (below_size (by repeat (first|(with_reducible first|exact HB.out|apply below_alloc|apply pw_below_drewN|apply below_drew1)|exact HB.out))));have n4_:=Aside0.mk (below_step (by repeat (first|(with_reducible first|exact HB.out|apply below_alloc|apply pw_below_drewN|apply below_drew1)|exact HB.out)) hb);clear HO_0;clear HO_1;clear HB;have HO_0:=n0_;have HO_1:=n1_;have HO491:=n2_;have HO494:=n3_;have HB:=n4_;clear n0_ n1_ n2_ n3_ n4_;(try clear hb);(try clear hb2);(try clear hk);(try clear hi);(try clear ho0);(try clear ho1)))
       repeat (go_quiet (first|(go_at_call 47;(with_reducible refine (garboardref01_Over.calls (fun k_=>((P0_ k_ ∨ P1_ k_) ∨ w.heap.size≤k_)) _ _ x0_1 _ _ x1_1 t489 t492 _ ?side1 ?side2 ?side3 A16.out).mono ?_);(case side1=>exact HO_0.out);(case side2=>repeat (first|exact (Kd.V_reads' HO_1.out).2.2|(with_reducible refine Kd.C_alloc ?_ _)|(with_reducible refine Kd.C_drewN ?_ _)|(with_reducible refine Kd.C_drew ?_)));(case side3=>exact (Kd.V_reads' HO_1.out).2.1);rintro e w18 ⟨v490,v493,rfl,ho0,ho1,hb⟩;have n0_:=Aside0.mk (Kd.V_elder' (by (with_reducible repeat (first|apply Kd.V_alloc|apply Kd.V_drewN|apply Kd.V_drew));exact HO_0.out) (Kd.R_base ho0) hb);have n1_:=Aside0.mk (Kd.V_elder' (by (with_reducible repeat (first|apply Kd.V_alloc|apply Kd.V_drewN|apply Kd.V_drew));exact HO_1.out) (Kd.R_base ho0) hb);have n2_:=Aside0.mk (Kd.R_lower (Kd.R_newM (M:=fun k_=>(w.heap.size≤k_)) (Kd.R_mono (ok':=fun k_=>True) ho0 (fun _ hk_=>trivial)) (below_size (by repeat (first|(with_reducible first|exact HB.out|apply below_alloc|apply pw_below_drewN|apply below_drew1)|exact HB.out))) (fun k_ h_=>h_)) (below_size (by repeat (first|(with_reducible first|exact HB.out|apply below_alloc|apply pw_below_drewN|apply below_drew1)|exact HB.out))));have n3_:=Aside0.mk (Kd.V_lower (Kd.V_mono (ok':=fun k_=>((P0_ k_ ∨ P1_ k_) ∨ w.heap.size≤k_)∧some k_≠(v490:Value).ownBlock) ho1 (fun k_ hk_=>⟨Or.elim hk_.1 (fun hs_=>hs_) (fun hn_=>(.inr (Nat.le_trans (below_size (by repeat (first|(with_reducible first|exact HB.out|apply below_alloc|apply pw_below_drewN|apply below_drew1)|exact HB.out))) hn_))),hk_.2⟩)) (below_size (by repeat (first|(with_reducible first|exact HB.out|apply below_alloc|apply pw_below_drewN|apply below_drew1)|exact HB.out))));have n4_:=Aside0.mk (below_step (by repeat (first|(with_reducible first|exact HB.out|apply below_alloc|apply pw_below_drewN|apply below_drew1)|exact HB.out)) hb);clear HO_0;clear HO_1;clear HB;have HO_0:=n0_;have HO_1:=n1_;have HO491:=n2_;have HO494:=n3_;have HB:=n4_;clear n0_ n1_ n2_ n3_ n4_;(try clear hb);(try clear hb2);(try clear hk);(try clear hi);(try clear ho0);(try clear ho1)));try go_wp2_with (first|(go_at_call 47;(with_reducible refine (garboardref01_Over.calls (fun k_=>((P0_ k_ ∨ P1_ k_) ∨ w.heap.size≤k_)) _ _ x0_1 _ _ x1_1 t489 t492 _ ?side1 ?side2 ?side3 A16.out).mono ?_);(case side1=>exact HO_0.out);(case side2=>repeat (first|exact (Kd.V_reads' HO_1.out).2.2|(with_reducible refine Kd.C_alloc ?_ _)|(with_reducible refine Kd.C_drewN ?_ _)|(with_reducible refine Kd.C_drew ?_)));(case side3=>exact (Kd.V_reads' HO_1.out).2.1);rintro e w18 ⟨v490,v493,rfl,ho0,ho1,hb⟩;have n0_:=Aside0.mk (Kd.V_elder' (by (with_reducible repeat (first|apply Kd.V_alloc|apply Kd.V_drewN|apply Kd.V_drew));exact HO_0.out) (Kd.R_base ho0) hb);have n1_:=Aside0.mk (Kd.V_elder' (by (with_reducible repeat (first|apply Kd.V_alloc|apply Kd.V_drewN|apply Kd.V_drew));exact HO_1.out) (Kd.R_base ho0) hb);have n2_:=Aside0.mk (Kd.R_lower (Kd.R_newM (M:=fun k_=>(w.heap.size≤k_)) (Kd.R_mono (ok':=fun k_=>True) ho0 (fun _ hk_=>trivial)) (below_size (by repeat (first|(with_reducible first|exact HB.out|apply below_alloc|apply pw_below_drewN|apply below_drew1)|exact HB.out))) (fun k_ h_=>h_)) (below_size (by repeat (first|(with_reducible first|exact HB.out|apply below_alloc|apply pw_below_drewN|apply below_drew1)|exact HB.out))));have n3_:=Aside0.mk (Kd.V_lower (Kd.V_mono (ok':=fun k_=>((P0_ k_ ∨ P1_ k_) ∨ w.heap.size≤k_)∧some k_≠(v490:Value).ownBlock) ho1 (fun k_ hk_=>⟨Or.elim hk_.1 (fun hs_=>hs_) (fun hn_=>(.inr (Nat.le_trans (below_size (by repeat (first|(with_reducible first|exact HB.out|apply below_alloc|apply pw_below_drewN|apply below_drew1)|exact HB.out))) hn_))),hk_.2⟩)) (below_size (by repeat (first|(with_reducible first|exact HB.out|apply below_alloc|apply pw_below_drewN|apply below_drew1)|exact HB.out))));have n4_:=Aside0.mk (below_step (by repeat (first|(with_reducible first|exact HB.out|apply below_alloc|apply pw_below_drewN|apply below_drew1)|exact HB.out)) hb);clear HO_0;clear HO_1;clear HB;have HO_0:=n0_;have HO_1:=n1_;have HO491:=n2_;have HO494:=n3_;have HB:=n4_;clear n0_ n1_ n2_ n3_ n4_;(try clear hb);(try clear hb2);(try clear hk);(try clear hi);(try clear ho0);(try clear ho1))))
       go_roundg kj3
       case measure=>have:=HK1.out;have:=HJ3.out;omega
       case rel=>exact ⟨(x1_1),(t492),H',⟨by have:=HK1.out;have:=HJ3.out;omega⟩,⟨by (with_reducible repeat (first|apply Kd.V_alloc|apply Kd.V_drewN|apply Kd.V_drew));exact Kd.V_mono HO_1.out (fun _ hk=>hk.1)⟩,⟨by (with_reducible repeat (first|apply Kd.V_alloc|apply Kd.V_drewN|apply Kd.V_drew));exact Kd.V_mono HO494.out (fun _ hk=>hk.1)⟩,⟨by repeat (first|(with_reducible first|exact HB.out|apply below_alloc|apply pw_below_drewN|apply below_drew1)|exact HB.out)⟩⟩
   ·rw [if_neg c3] at H
    have c3b0:decide (0 < (x1_1.length:Int)) = false:=decide_eq_false c3
    have c3b1:decide (0 < x1_1.length) = false:=decide_eq_false (by omega)
    clear c3
    obtain rfl:=Option.some.inj H
    obtain ⟨Ao19,co19,eo19⟩:=Kd.V_slice HO_1.out
    subst eo19
    go_wp2
    repeat (go_quiet (fail);try go_wp2)
    go_ret
    exact ⟨_,by first|rfl|(simp [errW_none,errW_some]<;>rfl)|(simp [*,errW_none,errW_some]<;>rfl),by (with_reducible repeat (first|apply Kd.V_alloc|apply Kd.V_drewN|apply Kd.V_drew));exact HO_0.out,by repeat (first|(with_reducible first|exact HB.out|apply below_alloc|apply pw_below_drewN|apply below_drew1)|exact HB.out)⟩
end Go.Proofs.YtaopmkcghancmaaDoor.Pr
set_option linter.unusedVariables false
set_option linter.unusedSimpArgs false
namespace Go.Proofs.YtaopmkcghancmaaDoor.Pr
open Go.RowKit Go.Proofs.YtaopmkcghancmaaDoorW.PrintWords Go.Proofs.YtaopmkcghancmaaDoorW.PrintLast Go.Proofs.YtaopmkcghancmaaDoorW.PrintMore Go.Proofs.YtaopmkcghancmaaDoor.NatTh
theorem Common_ev (a b:Nat) (ha:(numOf a).length≤549755813888) (hb:(numOf b).length≤549755813888):Ev (fun k=>garboardref01_Common.f k (numOf a) (numOf b)) (numOf (Nat.gcd a b)):=(gcd_both b a ha hb).2
end Go.Proofs.YtaopmkcghancmaaDoor.Pr
namespace Go.Proofs.YtaopmkcghancmaaDoor.Pr
open Go.RowKit Go.Proofs.YtaopmkcghancmaaDoorW.PrintWords Go.Proofs.YtaopmkcghancmaaDoorW.PrintLast Go.Proofs.YtaopmkcghancmaaDoorW.PrintMore
attribute [local go_sem] max2_int min2_int max_two min_two max_three min_three max_four min_four
set_option linter.unusedVariables false
set_option linter.unusedSimpArgs false
def garboardref01_DivMod.f (k:Nat) (a0:ByteArray) (a1:ByteArray):Option (ByteArray × ByteArray × Int):=(garboardref01_both.f k a0 a1).bind fun bt462=>(if bt462.2.2 = 0 then (if (bt462.2.1.length:Int) = 0 then (some ((⟨#[]⟩:ByteArray),(⟨#[]⟩:ByteArray),16)) else ((garboardref01_Over.f bt462.1 bt462.2.1).bind fun bt469=>((garboardref01_To.f k bt469.1).bind fun t475=>((garboardref01_To.f k bt469.2).bind fun t476=>(some (t475,t476,0)))))) else (some ((⟨#[]⟩:ByteArray),(⟨#[]⟩:ByteArray),bt462.2.2)))
set_option maxHeartbeats 8000000 in
set_option maxRecDepth 100000 in
theorem garboardref01_DivMod.calls (k:Nat) (a0:ByteArray) (a1:ByteArray) (r1:ByteArray) (r2:ByteArray) (r3:Int) (w:World) (h:garboardref01_DivMod.f k a0 a1 = some (r1,r2,r3)) :
  Calls Tryd.prog 24 #[.string a0,.string a1] w fun e w'=>e = .returned (.tuple #[.string r1,.string r2,.int .i64 r3])∧Below w.heap.size w w':=by
 have HB:=Aside0.mk (Below.refl w.heap.size w)
 have H:((garboardref01_both.f k a0 a1).bind fun bt462=>(if bt462.2.2 = 0 then (if (bt462.2.1.length:Int) = 0 then (some ((⟨#[]⟩:ByteArray),(⟨#[]⟩:ByteArray),16)) else ((garboardref01_Over.f bt462.1 bt462.2.1).bind fun bt469=>((garboardref01_To.f k bt469.1).bind fun t475=>((garboardref01_To.f k bt469.2).bind fun t476=>(some (t475,t476,0)))))) else (some ((⟨#[]⟩:ByteArray),(⟨#[]⟩:ByteArray),bt462.2.2)))) = some (r1,r2,r3):=h
 clear h
 replace H:=Option.bind_eq_some_iff.mp H
 obtain ⟨⟨t462,t465,t468⟩,A30,H⟩:=H
 replace H:(if t468 = 0 then (if (t465.length:Int) = 0 then (some ((⟨#[]⟩:ByteArray),(⟨#[]⟩:ByteArray),16)) else ((garboardref01_Over.f t462 t465).bind fun bt469=>((garboardref01_To.f k bt469.1).bind fun t475=>((garboardref01_To.f k bt469.2).bind fun t476=>(some (t475,t476,0)))))) else (some ((⟨#[]⟩:ByteArray),(⟨#[]⟩:ByteArray),t468))) = some (r1,r2,r3):=H
 have A3:=Aside0.mk A30
 clear A30
 by_cases c4:t468 = 0
 ·rw [if_pos c4] at H
  have c4b0:(t468 == 0) = true:=beq_iff_eq.mpr c4
  have c4b1:(t468 != 0) = false:=bne_eq_false_iff_eq.mpr c4
  clear c4
  by_cases c5:(t465.length:Int) = 0
  ·rw [if_pos c5] at H
   have c5b0:((t465.length:Int) == 0) = true:=beq_iff_eq.mpr c5
   have c5b1:((t465.length:Int) != 0) = false:=bne_eq_false_iff_eq.mpr c5
   clear c5
   simp only [Option.some.injEq,Prod.mk.injEq] at H
   obtain ⟨rfl,rfl,rfl⟩:=H
   go_enter Tryd.func24,Tryd.ntmps24
   go_wp2_with (first|((with_reducible refine gate_callee (f:=35) rfl ?_);refine goesL_ (some 15) rfl rfl Tryd.func35 (by kernel_rfl) rfl #[.string a0,.string a1] rfl (by (try simp only [List.map_toArray,List.map_cons,List.map_nil]);first|done|rfl|(simp only [List.length_drop,List.length_take];rfl)) ?_;(with_reducible refine (garboardref01_both.calls k a0 a1 t462 t465 t468 _ A3.out).mono ?_);rintro e w6 ⟨v463,v466,rfl,ho0,ho1,hb⟩;refine ⟨_,rfl,?_⟩;have n0_:=Aside0.mk (Kd.V_lower (Kd.V_mono (ok':=fun k_=>True) ho0 (fun k_ hk_=>trivial)) (below_size (by repeat (first|(with_reducible first|exact HB.out|apply below_alloc|apply pw_below_drewN|apply below_drew1)|exact HB.out))));have n1_:=Aside0.mk (Kd.V_lower (Kd.V_mono (ok':=fun k_=>True) ho1 (fun k_ hk_=>trivial)) (below_size (by repeat (first|(with_reducible first|exact HB.out|apply below_alloc|apply pw_below_drewN|apply below_drew1)|exact HB.out))));have n2_:=Aside0.mk (below_step (by repeat (first|(with_reducible first|exact HB.out|apply below_alloc|apply pw_below_drewN|apply below_drew1)|exact HB.out)) hb);clear HB;have HO464:=n0_;have HO467:=n1_;have HB:=n2_;clear n0_ n1_ n2_;(try clear hb);(try clear hb2);(try clear hk);(try clear hi);(try clear ho0);(try clear ho1);obtain ⟨Ao7,co7,eo7⟩:=Kd.V_slice HO467.out;subst eo7))
   go_ret3
   exact ⟨by first|rfl|(simp [errW_none,errW_some]<;>rfl)|(simp [*,errW_none,errW_some]<;>rfl),by repeat (first|(with_reducible first|exact HB.out|apply below_alloc|apply pw_below_drewN|apply below_drew1)|exact HB.out)⟩
  ·rw [if_neg c5] at H
   have c5b0:((t465.length:Int) == 0) = false:=beq_eq_false_iff_ne.mpr c5
   have c5b1:((t465.length:Int) != 0) = true:=bne_iff_ne.mpr c5
   have c5b2:¬ (t465 = []):=fun h_=>c5 (by rw [h_];rfl)
   replace H:=Option.bind_eq_some_iff.mp H
   obtain ⟨⟨t469,t472⟩,A80,H⟩:=H
   replace H:((garboardref01_To.f k t469).bind fun t475=>((garboardref01_To.f k t472).bind fun t476=>(some (t475,t476,0)))) = some (r1,r2,r3):=H
   have A8:=Aside0.mk A80
   clear A80
   replace H:=Option.bind_eq_some_iff.mp H
   obtain ⟨t475,A90,H⟩:=H
   replace H:((garboardref01_To.f k t472).bind fun t476=>(some (t475,t476,0))) = some (r1,r2,r3):=H
   have A9:=Aside0.mk A90
   clear A90
   replace H:=Option.bind_eq_some_iff.mp H
   obtain ⟨t476,A100,H⟩:=H
   replace H:(some (t475,t476,0)) = some (r1,r2,r3):=H
   have A10:=Aside0.mk A100
   clear A100
   simp only [Option.some.injEq,Prod.mk.injEq] at H
   obtain ⟨rfl,rfl,rfl⟩:=H
   go_enter Tryd.func24,Tryd.ntmps24
   go_wp2_with (first|((with_reducible refine gate_callee (f:=35) rfl ?_);refine goesL_ (some 15) rfl rfl Tryd.func35 (by kernel_rfl) rfl #[.string a0,.string a1] rfl (by (try simp only [List.map_toArray,List.map_cons,List.map_nil]);first|done|rfl|(simp only [List.length_drop,List.length_take];rfl)) ?_;(with_reducible refine (garboardref01_both.calls k a0 a1 t462 t465 t468 _ A3.out).mono ?_);rintro e w11 ⟨v463,v466,rfl,ho0,ho1,hb⟩;refine ⟨_,rfl,?_⟩;have n0_:=Aside0.mk (Kd.V_lower (Kd.V_mono (ok':=fun k_=>True) ho0 (fun k_ hk_=>trivial)) (below_size (by repeat (first|(with_reducible first|exact HB.out|apply below_alloc|apply pw_below_drewN|apply below_drew1)|exact HB.out))));have n1_:=Aside0.mk (Kd.V_lower (Kd.V_mono (ok':=fun k_=>True) ho1 (fun k_ hk_=>trivial)) (below_size (by repeat (first|(with_reducible first|exact HB.out|apply below_alloc|apply pw_below_drewN|apply below_drew1)|exact HB.out))));have n2_:=Aside0.mk (below_step (by repeat (first|(with_reducible first|exact HB.out|apply below_alloc|apply pw_below_drewN|apply below_drew1)|exact HB.out)) hb);clear HB;have HO464:=n0_;have HO467:=n1_;have HB:=n2_;clear n0_ n1_ n2_;(try clear hb);(try clear hb2);(try clear hk);(try clear hi);(try clear ho0);(try clear ho1);obtain ⟨Ao12,co12,eo12⟩:=Kd.V_slice HO467.out;subst eo12;obtain ⟨Ao13,co13,eo13⟩:=Kd.V_slice HO464.out;subst eo13)|((with_reducible refine gate_callee (f:=47) rfl ?_);refine goesL_ (some 28) rfl rfl Tryd.func47 (by kernel_rfl) rfl #[.slice Ao13 t462.length co13,.slice Ao12 t465.length co12] rfl (by (try simp only [List.map_toArray,List.map_cons,List.map_nil]);first|done|rfl|(simp only [List.length_drop,List.length_take];rfl)) ?_;(with_reducible refine (garboardref01_Over.calls (fun k_=>True) _ _ t462 _ _ t465 t469 t472 _ ?side1 ?side2 ?side3 A8.out).mono ?_);(case side1=>exact HO464.out);(case side2=>repeat (first|exact (Kd.V_reads' HO467.out).2.2|(with_reducible refine Kd.C_alloc ?_ _)|(with_reducible refine Kd.C_drewN ?_ _)|(with_reducible refine Kd.C_drew ?_)));(case side3=>exact (Kd.V_reads' HO467.out).2.1);rintro e w14 ⟨v470,v473,rfl,ho0,ho1,hb⟩;refine ⟨_,rfl,?_⟩;have n0_:=Aside0.mk (Kd.V_elder' (by (with_reducible repeat (first|apply Kd.V_alloc|apply Kd.V_drewN|apply Kd.V_drew));exact HO464.out) (Kd.R_base ho0) hb);have n1_:=Aside0.mk (Kd.V_elder' (by (with_reducible repeat (first|apply Kd.V_alloc|apply Kd.V_drewN|apply Kd.V_drew));exact HO467.out) (Kd.R_base ho0) hb);have n2_:=Aside0.mk (Kd.R_lower (Kd.R_mono (ok':=fun k_=>True) ho0 (fun _ hk_=>trivial)) (below_size (by repeat (first|(with_reducible first|exact HB.out|apply below_alloc|apply pw_below_drewN|apply below_drew1)|exact HB.out))));have n3_:=Aside0.mk (Kd.V_lower (Kd.V_mono (ok':=fun k_=>some k_≠(v470:Value).ownBlock) ho1 (fun k_ hk_=>hk_.2)) (below_size (by repeat (first|(with_reducible first|exact HB.out|apply below_alloc|apply pw_below_drewN|apply below_drew1)|exact HB.out))));have n4_:=Aside0.mk (below_step (by repeat (first|(with_reducible first|exact HB.out|apply below_alloc|apply pw_below_drewN|apply below_drew1)|exact HB.out)) hb);clear HO464;clear HO467;clear HB;have HO464:=n0_;have HO467:=n1_;have HO471:=n2_;have HO474:=n3_;have HB:=n4_;clear n0_ n1_ n2_ n3_ n4_;(try clear hb);(try clear hb2);(try clear hk);(try clear hi);(try clear ho0);(try clear ho1);obtain ⟨Ao15,co15,eo15⟩:=Kd.R_slice HO471.out;subst eo15)|((with_reducible refine gate_callee (f:=39) rfl ?_);refine goesL_ (some 32) rfl rfl Tryd.func39 (by kernel_rfl) rfl #[.slice Ao15 t469.length co15] rfl (by (try simp only [List.map_toArray,List.map_cons,List.map_nil]);first|done|rfl|(simp only [List.length_drop,List.length_take];rfl)) ?_;(with_reducible refine (garboardref01_To.calls k _ _ t469 t475 _ ?side1 ?side2 A9.out).mono ?_);(case side1=>repeat (first|exact (Kd.R_reads' HO471.out).2.2|(with_reducible refine Kd.C_alloc ?_ _)|(with_reducible refine Kd.C_drewN ?_ _)|(with_reducible refine Kd.C_drew ?_)));(case side2=>exact (Kd.R_reads' HO471.out).2.1);rintro e w16 ⟨rfl,hb⟩;refine ⟨_,rfl,?_⟩;have n0_:=Aside0.mk (Kd.V_below (by (with_reducible repeat (first|apply Kd.V_alloc|apply Kd.V_drewN|apply Kd.V_drew));exact HO464.out) hb);have n1_:=Aside0.mk (Kd.V_below (by (with_reducible repeat (first|apply Kd.V_alloc|apply Kd.V_drewN|apply Kd.V_drew));exact HO467.out) hb);have n2_:=Aside0.mk (Kd.R_below (by (with_reducible repeat (first|apply Kd.R_alloc|apply Kd.R_drewN|apply Kd.R_drew));exact HO471.out) hb);have n3_:=Aside0.mk (Kd.V_below (by (with_reducible repeat (first|apply Kd.V_alloc|apply Kd.V_drewN|apply Kd.V_drew));exact HO474.out) hb);have n4_:=Aside0.mk (below_step (by repeat (first|(with_reducible first|exact HB.out|apply below_alloc|apply pw_below_drewN|apply below_drew1)|exact HB.out)) hb);clear HO464;clear HO467;clear HO471;clear HO474;clear HB;have HO464:=n0_;have HO467:=n1_;have HO471:=n2_;have HO474:=n3_;have HB:=n4_;clear n0_ n1_ n2_ n3_ n4_;(try clear hb);(try clear hb2);(try clear hk);(try clear hi);obtain ⟨Ao17,co17,eo17⟩:=Kd.V_slice HO474.out;subst eo17)|((with_reducible refine gate_callee (f:=39) rfl ?_);refine goesL_ (some 34) rfl rfl Tryd.func39 (by kernel_rfl) rfl #[.slice Ao17 t472.length co17] rfl (by (try simp only [List.map_toArray,List.map_cons,List.map_nil]);first|done|rfl|(simp only [List.length_drop,List.length_take];rfl)) ?_;(with_reducible refine (garboardref01_To.calls k _ _ t472 t476 _ ?side1 ?side2 A10.out).mono ?_);(case side1=>repeat (first|exact (Kd.V_reads' HO474.out).2.2|(with_reducible refine Kd.C_alloc ?_ _)|(with_reducible refine Kd.C_drewN ?_ _)|(with_reducible refine Kd.C_drew ?_)));(case side2=>exact (Kd.V_reads' HO474.out).2.1);rintro e w18 ⟨rfl,hb⟩;refine ⟨_,rfl,?_⟩;have n0_:=Aside0.mk (Kd.V_below (by (with_reducible repeat (first|apply Kd.V_alloc|apply Kd.V_drewN|apply Kd.V_drew));exact HO464.out) hb);have n1_:=Aside0.mk (Kd.V_below (by (with_reducible repeat (first|apply Kd.V_alloc|apply Kd.V_drewN|apply Kd.V_drew));exact HO467.out) hb);have n2_:=Aside0.mk (Kd.R_below (by (with_reducible repeat (first|apply Kd.R_alloc|apply Kd.R_drewN|apply Kd.R_drew));exact HO471.out) hb);have n3_:=Aside0.mk (Kd.V_below (by (with_reducible repeat (first|apply Kd.V_alloc|apply Kd.V_drewN|apply Kd.V_drew));exact HO474.out) hb);have n4_:=Aside0.mk (below_step (by repeat (first|(with_reducible first|exact HB.out|apply below_alloc|apply pw_below_drewN|apply below_drew1)|exact HB.out)) hb);clear HO464;clear HO467;clear HO471;clear HO474;clear HB;have HO464:=n0_;have HO467:=n1_;have HO471:=n2_;have HO474:=n3_;have HB:=n4_;clear n0_ n1_ n2_ n3_ n4_;(try clear hb);(try clear hb2);(try clear hk);(try clear hi)))
   go_ret3
   exact ⟨by first|rfl|(simp [errW_none,errW_some]<;>rfl)|(simp [*,errW_none,errW_some]<;>rfl),by repeat (first|(with_reducible first|exact HB.out|apply below_alloc|apply pw_below_drewN|apply below_drew1)|exact HB.out)⟩
 ·rw [if_neg c4] at H
  have c4b0:(t468 == 0) = false:=beq_eq_false_iff_ne.mpr c4
  have c4b1:(t468 != 0) = true:=bne_iff_ne.mpr c4
  simp only [Option.some.injEq,Prod.mk.injEq] at H
  obtain ⟨rfl,rfl,rfl⟩:=H
  go_enter Tryd.func24,Tryd.ntmps24
  go_wp2_with (first|((with_reducible refine gate_callee (f:=35) rfl ?_);refine goesL_ (some 15) rfl rfl Tryd.func35 (by kernel_rfl) rfl #[.string a0,.string a1] rfl (by (try simp only [List.map_toArray,List.map_cons,List.map_nil]);first|done|rfl|(simp only [List.length_drop,List.length_take];rfl)) ?_;(with_reducible refine (garboardref01_both.calls k a0 a1 t462 t465 t468 _ A3.out).mono ?_);rintro e w19 ⟨v463,v466,rfl,ho0,ho1,hb⟩;refine ⟨_,rfl,?_⟩;have n0_:=Aside0.mk (Kd.V_lower (Kd.V_mono (ok':=fun k_=>True) ho0 (fun k_ hk_=>trivial)) (below_size (by repeat (first|(with_reducible first|exact HB.out|apply below_alloc|apply pw_below_drewN|apply below_drew1)|exact HB.out))));have n1_:=Aside0.mk (Kd.V_lower (Kd.V_mono (ok':=fun k_=>True) ho1 (fun k_ hk_=>trivial)) (below_size (by repeat (first|(with_reducible first|exact HB.out|apply below_alloc|apply pw_below_drewN|apply below_drew1)|exact HB.out))));have n2_:=Aside0.mk (below_step (by repeat (first|(with_reducible first|exact HB.out|apply below_alloc|apply pw_below_drewN|apply below_drew1)|exact HB.out)) hb);clear HB;have HO464:=n0_;have HO467:=n1_;have HB:=n2_;clear n0_ n1_ n2_;(try clear hb);(try clear hb2);(try clear hk);(try clear hi);(try clear ho0);(try clear ho1)))
  go_ret3
  exact ⟨by first|rfl|(simp [errW_none,errW_some]<;>rfl)|(simp [*,errW_none,errW_some]<;>rfl),by repeat (first|(with_reducible first|exact HB.out|apply below_alloc|apply pw_below_drewN|apply below_drew1)|exact HB.out)⟩
end Go.Proofs.YtaopmkcghancmaaDoor.Pr
namespace Go.Proofs.YtaopmkcghancmaaDoor.Pr
open Go.RowKit Go.Proofs.YtaopmkcghancmaaDoorW.PrintWords Go.Proofs.YtaopmkcghancmaaDoorW.PrintLast Go.Proofs.YtaopmkcghancmaaDoorW.PrintMore
attribute [local go_sem] max2_int min2_int max_two min_two max_three min_three max_four min_four
set_option linter.unusedVariables false
set_option linter.unusedSimpArgs false
def garboardref01_GCD.f (k:Nat) (a0:ByteArray) (a1:ByteArray):Option (ByteArray × Int):=(garboardref01_both.f k a0 a1).bind fun bt495=>(if bt495.2.2 = 0 then ((garboardref01_Common.f k bt495.1 bt495.2.1).bind fun t502=>((garboardref01_To.f k t502).bind fun t505=>(some (t505,0)))) else (some ((⟨#[]⟩:ByteArray),bt495.2.2)))
set_option maxHeartbeats 8000000 in
set_option maxRecDepth 100000 in
theorem garboardref01_GCD.calls (k:Nat) (a0:ByteArray) (a1:ByteArray) (r1:ByteArray) (r2:Int) (w:World) (h:garboardref01_GCD.f k a0 a1 = some (r1,r2)) :
  Calls Tryd.prog 26 #[.string a0,.string a1] w fun e w'=>e = .returned (.tuple #[.string r1,.int .i64 r2])∧Below w.heap.size w w':=by
 have HB:=Aside0.mk (Below.refl w.heap.size w)
 have H:((garboardref01_both.f k a0 a1).bind fun bt495=>(if bt495.2.2 = 0 then ((garboardref01_Common.f k bt495.1 bt495.2.1).bind fun t502=>((garboardref01_To.f k t502).bind fun t505=>(some (t505,0)))) else (some ((⟨#[]⟩:ByteArray),bt495.2.2)))) = some (r1,r2):=h
 clear h
 replace H:=Option.bind_eq_some_iff.mp H
 obtain ⟨⟨t495,t498,t501⟩,A30,H⟩:=H
 replace H:(if t501 = 0 then ((garboardref01_Common.f k t495 t498).bind fun t502=>((garboardref01_To.f k t502).bind fun t505=>(some (t505,0)))) else (some ((⟨#[]⟩:ByteArray),t501))) = some (r1,r2):=H
 have A3:=Aside0.mk A30
 clear A30
 by_cases c4:t501 = 0
 ·rw [if_pos c4] at H
  have c4b0:(t501 == 0) = true:=beq_iff_eq.mpr c4
  have c4b1:(t501 != 0) = false:=bne_eq_false_iff_eq.mpr c4
  clear c4
  replace H:=Option.bind_eq_some_iff.mp H
  obtain ⟨t502,A50,H⟩:=H
  replace H:((garboardref01_To.f k t502).bind fun t505=>(some (t505,0))) = some (r1,r2):=H
  have A5:=Aside0.mk A50
  clear A50
  replace H:=Option.bind_eq_some_iff.mp H
  obtain ⟨t505,A60,H⟩:=H
  replace H:(some (t505,0)) = some (r1,r2):=H
  have A6:=Aside0.mk A60
  clear A60
  simp only [Option.some.injEq,Prod.mk.injEq] at H
  obtain ⟨rfl,rfl⟩:=H
  go_enter Tryd.func26,Tryd.ntmps26
  go_wp2_with (first|((with_reducible refine gate_callee (f:=35) rfl ?_);refine goesL_ (some 12) rfl rfl Tryd.func35 (by kernel_rfl) rfl #[.string a0,.string a1] rfl (by (try simp only [List.map_toArray,List.map_cons,List.map_nil]);first|done|rfl|(simp only [List.length_drop,List.length_take];rfl)) ?_;(with_reducible refine (garboardref01_both.calls k a0 a1 t495 t498 t501 _ A3.out).mono ?_);rintro e w7 ⟨v496,v499,rfl,ho0,ho1,hb⟩;refine ⟨_,rfl,?_⟩;have n0_:=Aside0.mk (Kd.V_lower (Kd.V_mono (ok':=fun k_=>True) ho0 (fun k_ hk_=>trivial)) (below_size (by repeat (first|(with_reducible first|exact HB.out|apply below_alloc|apply pw_below_drewN|apply below_drew1)|exact HB.out))));have n1_:=Aside0.mk (Kd.V_lower (Kd.V_mono (ok':=fun k_=>True) ho1 (fun k_ hk_=>trivial)) (below_size (by repeat (first|(with_reducible first|exact HB.out|apply below_alloc|apply pw_below_drewN|apply below_drew1)|exact HB.out))));have n2_:=Aside0.mk (below_step (by repeat (first|(with_reducible first|exact HB.out|apply below_alloc|apply pw_below_drewN|apply below_drew1)|exact HB.out)) hb);clear HB;have HO497:=n0_;have HO500:=n1_;have HB:=n2_;clear n0_ n1_ n2_;(try clear hb);(try clear hb2);(try clear hk);(try clear hi);(try clear ho0);(try clear ho1);obtain ⟨Ao8,co8,eo8⟩:=Kd.V_slice HO497.out;subst eo8;obtain ⟨Ao9,co9,eo9⟩:=Kd.V_slice HO500.out;subst eo9)|((with_reducible refine gate_callee (f:=49) rfl ?_);refine goesL_ (some 21) rfl rfl Tryd.func49 (by kernel_rfl) rfl #[.slice Ao8 t495.length co8,.slice Ao9 t498.length co9] rfl (by (try simp only [List.map_toArray,List.map_cons,List.map_nil]);first|done|rfl|(simp only [List.length_drop,List.length_take];rfl)) ?_;(with_reducible refine (garboardref01_Common.calls k (fun k_=>True) _ _ t495 (fun k_=>True) _ _ t498 t502 _ ?side1 ?side2 A5.out).mono ?_);(case side1=>exact HO497.out);(case side2=>exact HO500.out);rintro e w10 ⟨v503,rfl,ho0,hb⟩;refine ⟨_,rfl,?_⟩;have n0_:=Aside0.mk (Kd.V_below (by (with_reducible repeat (first|apply Kd.V_alloc|apply Kd.V_drewN|apply Kd.V_drew));exact HO497.out) hb);have n1_:=Aside0.mk (Kd.V_below (by (with_reducible repeat (first|apply Kd.V_alloc|apply Kd.V_drewN|apply Kd.V_drew));exact HO500.out) hb);have n2_:=Aside0.mk (Kd.V_lower (Kd.V_mono (ok':=fun k_=>True) ho0 (fun k_ hk_=>trivial)) (below_size (by repeat (first|(with_reducible first|exact HB.out|apply below_alloc|apply pw_below_drewN|apply below_drew1)|exact HB.out))));have n3_:=Aside0.mk (below_step (by repeat (first|(with_reducible first|exact HB.out|apply below_alloc|apply pw_below_drewN|apply below_drew1)|exact HB.out)) hb);clear HO497;clear HO500;clear HB;have HO497:=n0_;have HO500:=n1_;have HO504:=n2_;have HB:=n3_;clear n0_ n1_ n2_ n3_;(try clear hb);(try clear hb2);(try clear hk);(try clear hi);(try clear ho0);obtain ⟨Ao11,co11,eo11⟩:=Kd.V_slice HO504.out;subst eo11)|((with_reducible refine gate_callee (f:=39) rfl ?_);refine goesL_ (some 22) rfl rfl Tryd.func39 (by kernel_rfl) rfl #[.slice Ao11 t502.length co11] rfl (by (try simp only [List.map_toArray,List.map_cons,List.map_nil]);first|done|rfl|(simp only [List.length_drop,List.length_take];rfl)) ?_;(with_reducible refine (garboardref01_To.calls k _ _ t502 t505 _ ?side1 ?side2 A6.out).mono ?_);(case side1=>repeat (first|exact (Kd.V_reads' HO504.out).2.2|(with_reducible refine Kd.C_alloc ?_ _)|(with_reducible refine Kd.C_drewN ?_ _)|(with_reducible refine Kd.C_drew ?_)));(case side2=>exact (Kd.V_reads' HO504.out).2.1);rintro e w12 ⟨rfl,hb⟩;refine ⟨_,rfl,?_⟩;have n0_:=Aside0.mk (Kd.V_below (by (with_reducible repeat (first|apply Kd.V_alloc|apply Kd.V_drewN|apply Kd.V_drew));exact HO497.out) hb);have n1_:=Aside0.mk (Kd.V_below (by (with_reducible repeat (first|apply Kd.V_alloc|apply Kd.V_drewN|apply Kd.V_drew));exact HO500.out) hb);have n2_:=Aside0.mk (Kd.V_below (by (with_reducible repeat (first|apply Kd.V_alloc|apply Kd.V_drewN|apply Kd.V_drew));exact HO504.out) hb);have n3_:=Aside0.mk (below_step (by repeat (first|(with_reducible first|exact HB.out|apply below_alloc|apply pw_below_drewN|apply below_drew1)|exact HB.out)) hb);clear HO497;clear HO500;clear HO504;clear HB;have HO497:=n0_;have HO500:=n1_;have HO504:=n2_;have HB:=n3_;clear n0_ n1_ n2_ n3_;(try clear hb);(try clear hb2);(try clear hk);(try clear hi)))
  go_ret2
  exact ⟨by first|rfl|(simp [errW_none,errW_some]<;>rfl)|(simp [*,errW_none,errW_some]<;>rfl),by repeat (first|(with_reducible first|exact HB.out|apply below_alloc|apply pw_below_drewN|apply below_drew1)|exact HB.out)⟩
 ·rw [if_neg c4] at H
  have c4b0:(t501 == 0) = false:=beq_eq_false_iff_ne.mpr c4
  have c4b1:(t501 != 0) = true:=bne_iff_ne.mpr c4
  simp only [Option.some.injEq,Prod.mk.injEq] at H
  obtain ⟨rfl,rfl⟩:=H
  go_enter Tryd.func26,Tryd.ntmps26
  go_wp2_with (first|((with_reducible refine gate_callee (f:=35) rfl ?_);refine goesL_ (some 12) rfl rfl Tryd.func35 (by kernel_rfl) rfl #[.string a0,.string a1] rfl (by (try simp only [List.map_toArray,List.map_cons,List.map_nil]);first|done|rfl|(simp only [List.length_drop,List.length_take];rfl)) ?_;(with_reducible refine (garboardref01_both.calls k a0 a1 t495 t498 t501 _ A3.out).mono ?_);rintro e w13 ⟨v496,v499,rfl,ho0,ho1,hb⟩;refine ⟨_,rfl,?_⟩;have n0_:=Aside0.mk (Kd.V_lower (Kd.V_mono (ok':=fun k_=>True) ho0 (fun k_ hk_=>trivial)) (below_size (by repeat (first|(with_reducible first|exact HB.out|apply below_alloc|apply pw_below_drewN|apply below_drew1)|exact HB.out))));have n1_:=Aside0.mk (Kd.V_lower (Kd.V_mono (ok':=fun k_=>True) ho1 (fun k_ hk_=>trivial)) (below_size (by repeat (first|(with_reducible first|exact HB.out|apply below_alloc|apply pw_below_drewN|apply below_drew1)|exact HB.out))));have n2_:=Aside0.mk (below_step (by repeat (first|(with_reducible first|exact HB.out|apply below_alloc|apply pw_below_drewN|apply below_drew1)|exact HB.out)) hb);clear HB;have HO497:=n0_;have HO500:=n1_;have HB:=n2_;clear n0_ n1_ n2_;(try clear hb);(try clear hb2);(try clear hk);(try clear hi);(try clear ho0);(try clear ho1)))
  go_ret2
  exact ⟨by first|rfl|(simp [errW_none,errW_some]<;>rfl)|(simp [*,errW_none,errW_some]<;>rfl),by repeat (first|(with_reducible first|exact HB.out|apply below_alloc|apply pw_below_drewN|apply below_drew1)|exact HB.out)⟩
end Go.Proofs.YtaopmkcghancmaaDoor.Pr
set_option linter.unusedVariables false
set_option linter.unusedSimpArgs false
namespace Go.Proofs.YtaopmkcghancmaaDoor.Pr
open Go.RowKit Go.Lib Go.Proofs.YtaopmkcghancmaaDoorW.PrintWords Go.Proofs.YtaopmkcghancmaaDoorW.PrintLast Go.Proofs.YtaopmkcghancmaaDoorW.PrintMore Go.Proofs.YtaopmkcghancmaaDoor.NatTh
theorem rGCD_ev (a b:ByteArray) (ha:Sh a) (hb:Sh b):Ev (fun k=>garboardref01_GCD.f k a b) (gcdV a b):=by
 refine Ev.congr (fun k=>rfl) (Ev.bind (rboth_ev a b ha hb) ?_)
 unfold gcdV bothV
 by_cases h:(nv a && nv b) = true
 ·obtain ⟨h1,h2⟩:=Bool.and_eq_true_iff.1 h
  rw [if_pos h,if_pos h]
  have la:=nat_can a h1 ha
  have lb:=nat_can b h2 hb
  have hc:=Common_ev (nat a) (nat b) (by omega) (by omega)
  have ll:=gcd_len (nat a) (nat b) 274877906944 la lb
  exact Ev.congr (f:=fun k=>(garboardref01_Common.f k (numOf (nat a)) (numOf (nat b))).bind fun t=>(garboardref01_To.f k t).bind fun t366=>some (t366,0)) (fun k=>if_pos rfl) (Ev.bind hc (Ev.bind (To_ev _ (by omega)) (Ev.now _)))
 ·rw [if_neg h,if_neg h]
  exact ⟨0,fun k _=>rfl⟩
theorem rDivMod_ev (a b:ByteArray) (ha:Sh a) (hb:Sh b):Ev (fun k=>garboardref01_DivMod.f k a b) (divV a b):=by
 refine Ev.congr (fun k=>rfl) (Ev.bind (rboth_ev a b ha hb) ?_)
 unfold divV bothV
 by_cases h:(nv a && nv b) = true
 ·obtain ⟨h1,h2⟩:=Bool.and_eq_true_iff.1 h
  rw [if_pos h,if_pos h]
  have la:=nat_can a h1 ha
  have lb:=nat_can b h2 hb
  by_cases h0:nat b = 0
  ·rw [if_pos h0,h0,numOf_zero]
   exact Ev.congr (fun k=>(if_pos rfl).trans (if_pos (by simp))) (Ev.now _)
  ·have hp:=len_pos (Nat.pos_of_ne_zero h0)
   have lq:=len_mono (Nat.div_le_self (nat a) (nat b))
   have lr:=mod_len (nat a) (nat b)
   rw [if_neg h0]
   refine Ev.congr (f:=fun k=>(garboardref01_To.f k (numOf (nat a / nat b))).bind fun t475=>((garboardref01_To.f k (numOf (nat a % nat b))).bind fun t476=>(some (t475,t476,0)))) (fun k=>?_) (Ev.bind (To_ev _ (by omega)) (Ev.bind (To_ev _ (by omega)) (Ev.now _)))
   dsimp only
   rw [if_pos rfl,if_neg (by omega),(divide_eq (nat a) (nat b) (by omega) (by omega) h0).2,Option.bind_some]
 ·rw [if_neg h,if_neg h]
  exact ⟨0,fun k _=>rfl⟩
end Go.Proofs.YtaopmkcghancmaaDoor.Pr
namespace Go.Proofs.YtaopmkcghancmaaDoor.Pr
open Go.RowKit Go.Proofs.YtaopmkcghancmaaDoorW.PrintWords Go.Proofs.YtaopmkcghancmaaDoorW.PrintLast Go.Proofs.YtaopmkcghancmaaDoorW.PrintMore
attribute [local go_sem] max2_int min2_int max_two min_two max_three min_three max_four min_four
set_option linter.unusedVariables false
set_option linter.unusedSimpArgs false
def garboardlaw01_NaturalDivides.j0:Nat→ByteArray→ByteArray→Bool→Option (Bool)
 | 0,_,_,_=>none
 | k + 1,x0,x1,x22=>if x22 = true then ((garboardlaw01_awake.f k).bind fun t511=>(some t511)) else ((natural_DivMod.f k x0 x1).bind fun bt512=>((garboardref01_DivMod.f k x0 x1).bind fun bt515=>((natural_GCD.f x0 x1).bind fun bt518=>((garboardref01_GCD.f k x0 x1).bind fun bt520=>(if bt512.1.toList = bt515.1.toList then (if bt512.2.1.toList = bt515.2.1.toList then (if bt512.2.2 = bt515.2.2 then (if bt518.1.toList = bt520.1.toList then (some (bt518.2 == bt520.2)) else (some false)) else (some false)) else (some false)) else (some false))))))
def garboardlaw01_NaturalDivides.f (k:Nat) (a0:ByteArray) (a1:ByteArray):Option (Bool):=(garboardlaw01_awake.f k).bind fun t506=>(if t506 = true then ((garboardlaw01_long.f k (([a0,a1]:List ByteArray))).bind fun t510=>(garboardlaw01_NaturalDivides.j0 k a0 a1 t510)) else (garboardlaw01_NaturalDivides.j0 k a0 a1 true))
set_option maxHeartbeats 8000000 in
set_option maxRecDepth 100000 in
theorem garboardlaw01_NaturalDivides.calls (k:Nat) (a0:ByteArray) (a1:ByteArray) (r:Bool) (w:World) (hL:LaidW w) (h:garboardlaw01_NaturalDivides.f k a0 a1 = some r) :
  Calls Tryd.prog 5 #[.string a0,.string a1] w fun e w'=>e = .returned (.bool r)∧Below w.heap.size w w':=by
 have HB:=Aside0.mk (Below.refl w.heap.size w)
 have HLW:=Aside0.mk hL
 clear hL
 have H:((garboardlaw01_awake.f k).bind fun t506=>(if t506 = true then ((garboardlaw01_long.f k (([a0,a1]:List ByteArray))).bind fun t510=>(garboardlaw01_NaturalDivides.j0 k a0 a1 t510)) else (garboardlaw01_NaturalDivides.j0 k a0 a1 true))) = some r:=h
 clear h
 have HC3:=Aside0.mk H
 clear H
 go_enter Tryd.func5,Tryd.ntmps5
 go_upto_region 1 with (fail)
 go_cut [22] (fun v22 wc=>∃ (kq:Nat) (x22_2:Bool),v22 = .bool x22_2∧Aside0 (garboardlaw01_NaturalDivides.j0 kq a0 a1 x22_2 = some r)∧Aside0 (kq≤k)∧Aside0 (Below w.heap.size w wc))
 case first =>
  have H:=HC3.out
  clear HC3
  replace H:=Option.bind_eq_some_iff.mp H
  obtain ⟨t506,A40,H⟩:=H
  replace H:(if t506 = true then ((garboardlaw01_long.f k (([a0,a1]:List ByteArray))).bind fun t510=>(garboardlaw01_NaturalDivides.j0 k a0 a1 t510)) else (garboardlaw01_NaturalDivides.j0 k a0 a1 true)) = some r:=H
  have A4:=Aside0.mk A40
  clear A40
  by_cases c5:t506 = true
  ·subst c5
   have H1:((garboardlaw01_long.f k (([a0,a1]:List ByteArray))).bind fun t510=>(garboardlaw01_NaturalDivides.j0 k a0 a1 t510)) = some r:=by rw [if_pos rfl] at H;exact H
   clear H
   have H:=H1
   clear H1
   obtain ⟨y507,hy507⟩:∃ y_:List ByteArray,y_ = (([a0,a1]:List ByteArray)):=⟨_,rfl⟩
   replace H:((garboardlaw01_long.f k y507).bind fun t510=>(garboardlaw01_NaturalDivides.j0 k a0 a1 t510)) = some r:=by first|(rw [hy507];with_reducible exact H)|(have H2_:=(Option.bind_some _ _).symm.trans H;rw [hy507];with_reducible exact H2_)|(have H2_:=(Option.bind_some _ _).symm.trans H;with_reducible exact H2_)|with_reducible exact H|(rw [hy507];exact H)|exact H
   have Ny507:=Aside0.mk hy507
   clear hy507
   replace H:=Option.bind_eq_some_iff.mp H
   obtain ⟨t510,A60,H⟩:=H
   replace H:(garboardlaw01_NaturalDivides.j0 k a0 a1 t510) = some r:=H
   have A6:=Aside0.mk A60
   clear A60
   have H':=Aside0.mk H
   clear H
   go_wp2_with (first|((with_reducible refine gate_callee (f:=11) rfl ?_);refine goesL_ (some 15) rfl rfl Tryd.func11 (by kernel_rfl) rfl #[] rfl (by (try simp only [List.map_toArray,List.map_cons,List.map_nil]);first|done|rfl|(simp only [List.length_drop,List.length_take];rfl)) ?_;(with_reducible refine (garboardlaw01_awake.calls k  true _ ?side1 A4.out).mono ?_);(case side1=>exact HLW.out.below (by repeat (first|(with_reducible first|exact HB.out|apply below_alloc|apply pw_below_drewN|apply below_drew1)|exact HB.out)));rintro e w7 ⟨rfl,hb⟩;refine ⟨_,rfl,?_⟩;have n0_:=Aside0.mk (below_step (by repeat (first|(with_reducible first|exact HB.out|apply below_alloc|apply pw_below_drewN|apply below_drew1)|exact HB.out)) hb);clear HB;have HB:=n0_;clear n0_;(try clear hb);(try clear hb2);(try clear hk);(try clear hi))|((with_reducible refine gate_dst (N:=20) rfl ?_);(try (refine gate_guard (by rfl) ?_;dsimp only));refine Kd.R_lit Kd.string _ 9 ?hg (N:=20) ?hd (xs:=([a0,a1]:List ByteArray)) (inner:=[.string a0,.string a1]) (ok:=fun _=>True) (okp:=fun _=>True) ?hr ?hp (fun _ hk=>hk) trivial (Below.refl _ _) (Nat.le_refl _) (by simp) ?_;(case hd=>rfl);(case hg=>rfl);(case hr=>first|(go_simp;done)|(go_simp;rfl));(case hp=>exact (Reps.one (show Kd.M Kd.string _ _ _ a0 [.string a0] from rfl) (Reps.one (show Kd.M Kd.string _ _ _ a1 [.string a1] from rfl) (Reps.none _ _))));intro v508 w8 ho9 hb hg_ hnew_;clear hg_ hnew_;(first|rw [← Ny507.out] at ho9|(simp only [Int.reduceToNat] at ho9;rw [← Ny507.out] at ho9));have n0_:=Aside0.mk (Kd.R_lower ho9 (below_size (by repeat (first|(with_reducible first|exact HB.out|apply below_alloc|apply pw_below_drewN|apply below_drew1)|exact HB.out))));have n1_:=Aside0.mk (below_step (by repeat (first|(with_reducible first|exact HB.out|apply below_alloc|apply pw_below_drewN|apply below_drew1)|exact HB.out)) hb);clear HB;have HO509:=n0_;have HB:=n1_;clear n0_ n1_;clear hb ho9;obtain ⟨Ao10,co10,eo10⟩:=Kd.R_slice HO509.out;subst eo10)|(go_at_call 12;(with_reducible refine (garboardlaw01_long.calls k _ _ y507 t510 _ ?side1 ?side2 A6.out).mono ?_);(case side1=>repeat (first|exact (Kd.R_reads' HO509.out).2.2|(with_reducible refine Kd.C_alloc ?_ _)|(with_reducible refine Kd.C_drewN ?_ _)|(with_reducible refine Kd.C_drew ?_)));(case side2=>exact (Kd.R_reads' HO509.out).2.1);rintro e w' ⟨rfl,⟨nd,rfl⟩⟩))
   go_meet
   case rel=>exact ⟨_,(t510),(by first|rfl|(simp;done)|(simp [*];done)),H',⟨by first|omega|exact Nat.le_refl _⟩,⟨by repeat (first|(with_reducible first|exact HB.out|apply below_alloc|apply pw_below_drewN|apply below_drew1)|exact HB.out)⟩⟩
  ·replace c5:=Bool.eq_false_iff.mpr c5
   subst c5
   have H1:(garboardlaw01_NaturalDivides.j0 k a0 a1 true) = some r:=by rw [if_neg (show ¬ (false = true) by decide)] at H;exact H
   clear H
   have H:=H1
   clear H1
   have H':=Aside0.mk H
   clear H
   go_wp2_with (first|((with_reducible refine gate_callee (f:=11) rfl ?_);refine goesL_ (some 15) rfl rfl Tryd.func11 (by kernel_rfl) rfl #[] rfl (by (try simp only [List.map_toArray,List.map_cons,List.map_nil]);first|done|rfl|(simp only [List.length_drop,List.length_take];rfl)) ?_;(with_reducible refine (garboardlaw01_awake.calls k  false _ ?side1 A4.out).mono ?_);(case side1=>exact HLW.out.below (by repeat (first|(with_reducible first|exact HB.out|apply below_alloc|apply pw_below_drewN|apply below_drew1)|exact HB.out)));rintro e w11 ⟨rfl,hb⟩;refine ⟨_,rfl,?_⟩;have n0_:=Aside0.mk (below_step (by repeat (first|(with_reducible first|exact HB.out|apply below_alloc|apply pw_below_drewN|apply below_drew1)|exact HB.out)) hb);clear HB;have HB:=n0_;clear n0_;(try clear hb);(try clear hb2);(try clear hk);(try clear hi)))
   go_meet
   case rel=>exact ⟨_,(true),(by first|rfl|(simp;done)|(simp [*];done)),H',⟨by first|omega|exact Nat.le_refl _⟩,⟨by repeat (first|(with_reducible first|exact HB.out|apply below_alloc|apply pw_below_drewN|apply below_drew1)|exact HB.out)⟩⟩
 case rest =>
  clear HC3
  try clear c1
  try clear p2
  try clear c5
  try clear c11
  obtain ⟨kq,x22_2,rfl,HA,HJ2,HB⟩:=hcut
  cases kq with
  | zero=>exact absurd HA.out (by simp [garboardlaw01_NaturalDivides.j0])
  | succ kj2 =>
   have H:=HA.out
   clear HA
   simp only [garboardlaw01_NaturalDivides.j0] at H
   by_cases c12:x22_2 = true
   ·subst c12
    have H1:((garboardlaw01_awake.f kj2).bind fun t511=>(some t511)) = some r:=by rw [if_pos rfl] at H;exact H
    clear H
    have H:=H1
    clear H1
    replace H:=Option.bind_eq_some_iff.mp H
    obtain ⟨t511,A130,H⟩:=H
    replace H:(some t511) = some r:=H
    have A13:=Aside0.mk A130
    clear A130
    obtain rfl:=Option.some.inj H
    go_wp2_with (first|((with_reducible refine gate_callee (f:=11) rfl ?_);refine goesL_ (some 23) rfl rfl Tryd.func11 (by kernel_rfl) rfl #[] rfl (by (try simp only [List.map_toArray,List.map_cons,List.map_nil]);first|done|rfl|(simp only [List.length_drop,List.length_take];rfl)) ?_;(with_reducible refine (garboardlaw01_awake.calls kj2  t511 _ ?side1 A13.out).mono ?_);(case side1=>exact HLW.out.below (by repeat (first|(with_reducible first|exact HB.out|apply below_alloc|apply pw_below_drewN|apply below_drew1)|exact HB.out)));rintro e w14 ⟨rfl,hb⟩;refine ⟨_,rfl,?_⟩;have n0_:=Aside0.mk (below_step (by repeat (first|(with_reducible first|exact HB.out|apply below_alloc|apply pw_below_drewN|apply below_drew1)|exact HB.out)) hb);clear HB;have HB:=n0_;clear n0_;(try clear hb);(try clear hb2);(try clear hk);(try clear hi)))
    go_ret
    exact ⟨by first|rfl|(simp [errW_none,errW_some]<;>rfl)|(simp [*,errW_none,errW_some]<;>rfl),by repeat (first|(with_reducible first|exact HB.out|apply below_alloc|apply pw_below_drewN|apply below_drew1)|exact HB.out)⟩
   ·replace c12:=Bool.eq_false_iff.mpr c12
    subst c12
    have H1:((natural_DivMod.f kj2 a0 a1).bind fun bt512=>((garboardref01_DivMod.f kj2 a0 a1).bind fun bt515=>((natural_GCD.f a0 a1).bind fun bt518=>((garboardref01_GCD.f kj2 a0 a1).bind fun bt520=>(if bt512.1.toList = bt515.1.toList then (if bt512.2.1.toList = bt515.2.1.toList then (if bt512.2.2 = bt515.2.2 then (if bt518.1.toList = bt520.1.toList then (some (bt518.2 == bt520.2)) else (some false)) else (some false)) else (some false)) else (some false)))))) = some r:=by rw [if_neg (show ¬ (false = true) by decide)] at H;exact H
    clear H
    have H:=H1
    clear H1
    replace H:=Option.bind_eq_some_iff.mp H
    obtain ⟨⟨t512,t513,t514⟩,A150,H⟩:=H
    replace H:((garboardref01_DivMod.f kj2 a0 a1).bind fun bt515=>((natural_GCD.f a0 a1).bind fun bt518=>((garboardref01_GCD.f kj2 a0 a1).bind fun bt520=>(if t512.toList = bt515.1.toList then (if t513.toList = bt515.2.1.toList then (if t514 = bt515.2.2 then (if bt518.1.toList = bt520.1.toList then (some (bt518.2 == bt520.2)) else (some false)) else (some false)) else (some false)) else (some false))))) = some r:=H
    have A15:=Aside0.mk A150
    clear A150
    replace H:=Option.bind_eq_some_iff.mp H
    obtain ⟨⟨t515,t516,t517⟩,A160,H⟩:=H
    replace H:((natural_GCD.f a0 a1).bind fun bt518=>((garboardref01_GCD.f kj2 a0 a1).bind fun bt520=>(if t512.toList = t515.toList then (if t513.toList = t516.toList then (if t514 = t517 then (if bt518.1.toList = bt520.1.toList then (some (bt518.2 == bt520.2)) else (some false)) else (some false)) else (some false)) else (some false)))) = some r:=H
    have A16:=Aside0.mk A160
    clear A160
    replace H:=Option.bind_eq_some_iff.mp H
    obtain ⟨⟨t518,t519⟩,A170,H⟩:=H
    replace H:((garboardref01_GCD.f kj2 a0 a1).bind fun bt520=>(if t512.toList = t515.toList then (if t513.toList = t516.toList then (if t514 = t517 then (if t518.toList = bt520.1.toList then (some (t519 == bt520.2)) else (some false)) else (some false)) else (some false)) else (some false))) = some r:=H
    have A17:=Aside0.mk A170
    clear A170
    replace H:=Option.bind_eq_some_iff.mp H
    obtain ⟨⟨t520,t521⟩,A180,H⟩:=H
    replace H:(if t512.toList = t515.toList then (if t513.toList = t516.toList then (if t514 = t517 then (if t518.toList = t520.toList then (some (t519 == t521)) else (some false)) else (some false)) else (some false)) else (some false)) = some r:=H
    have A18:=Aside0.mk A180
    clear A180
    by_cases c19:t512.toList = t515.toList
    ·rw [if_pos c19] at H
     have c19b0:(t512.toList == t515.toList) = true:=beq_iff_eq.mpr c19
     have c19b1:(t512.toList != t515.toList) = false:=bne_eq_false_iff_eq.mpr c19
     clear c19
     by_cases c20:t513.toList = t516.toList
     ·rw [if_pos c20] at H
      have c20b0:(t513.toList == t516.toList) = true:=beq_iff_eq.mpr c20
      have c20b1:(t513.toList != t516.toList) = false:=bne_eq_false_iff_eq.mpr c20
      clear c20
      by_cases c21:t514 = t517
      ·rw [if_pos c21] at H
       have c21b0:(t514 == t517) = true:=beq_iff_eq.mpr c21
       have c21b1:(t514 != t517) = false:=bne_eq_false_iff_eq.mpr c21
       clear c21
       by_cases c22:t518.toList = t520.toList
       ·rw [if_pos c22] at H
        have c22b0:(t518.toList == t520.toList) = true:=beq_iff_eq.mpr c22
        have c22b1:(t518.toList != t520.toList) = false:=bne_eq_false_iff_eq.mpr c22
        clear c22
        obtain rfl:=Option.some.inj H
        go_wp2_with (first|((with_reducible refine gate_callee (f:=23) rfl ?_);refine goesL_ (some 27) rfl rfl Tryd.func23 (by kernel_rfl) rfl #[.string a0,.string a1] rfl (by (try simp only [List.map_toArray,List.map_cons,List.map_nil]);first|done|rfl|(simp only [List.length_drop,List.length_take];rfl)) ?_;(with_reducible refine (natural_DivMod.calls kj2 a0 a1 t512 t513 t514 _ ?side1 A15.out).mono ?_);(case side1=>exact HLW.out.below (by repeat (first|(with_reducible first|exact HB.out|apply below_alloc|apply pw_below_drewN|apply below_drew1)|exact HB.out)));rintro e w23 ⟨rfl,hb⟩;refine ⟨_,rfl,?_⟩;have n0_:=Aside0.mk (below_step (by repeat (first|(with_reducible first|exact HB.out|apply below_alloc|apply pw_below_drewN|apply below_drew1)|exact HB.out)) hb);clear HB;have HB:=n0_;clear n0_;(try clear hb);(try clear hb2);(try clear hk);(try clear hi))|((with_reducible refine gate_callee (f:=24) rfl ?_);refine goesL_ (some 34) rfl rfl Tryd.func24 (by kernel_rfl) rfl #[.string a0,.string a1] rfl (by (try simp only [List.map_toArray,List.map_cons,List.map_nil]);first|done|rfl|(simp only [List.length_drop,List.length_take];rfl)) ?_;(with_reducible refine (garboardref01_DivMod.calls kj2 a0 a1 t515 t516 t517 _ A16.out).mono ?_);rintro e w24 ⟨rfl,hb⟩;refine ⟨_,rfl,?_⟩;have n0_:=Aside0.mk (below_step (by repeat (first|(with_reducible first|exact HB.out|apply below_alloc|apply pw_below_drewN|apply below_drew1)|exact HB.out)) hb);clear HB;have HB:=n0_;clear n0_;(try clear hb);(try clear hb2);(try clear hk);(try clear hi))|((with_reducible refine gate_callee (f:=25) rfl ?_);refine goesL_ (some 41) rfl rfl Tryd.func25 (by kernel_rfl) rfl #[.string a0,.string a1] rfl (by (try simp only [List.map_toArray,List.map_cons,List.map_nil]);first|done|rfl|(simp only [List.length_drop,List.length_take];rfl)) ?_;(with_reducible refine (natural_GCD.calls a0 a1 t518 t519 _ ?side1 A17.out).mono ?_);(case side1=>exact HLW.out.below (by repeat (first|(with_reducible first|exact HB.out|apply below_alloc|apply pw_below_drewN|apply below_drew1)|exact HB.out)));rintro e w25 ⟨rfl,hb⟩;refine ⟨_,rfl,?_⟩;have n0_:=Aside0.mk (below_step (by repeat (first|(with_reducible first|exact HB.out|apply below_alloc|apply pw_below_drewN|apply below_drew1)|exact HB.out)) hb);clear HB;have HB:=n0_;clear n0_;(try clear hb);(try clear hb2);(try clear hk);(try clear hi))|((with_reducible refine gate_callee (f:=26) rfl ?_);refine goesL_ (some 47) rfl rfl Tryd.func26 (by kernel_rfl) rfl #[.string a0,.string a1] rfl (by (try simp only [List.map_toArray,List.map_cons,List.map_nil]);first|done|rfl|(simp only [List.length_drop,List.length_take];rfl)) ?_;(with_reducible refine (garboardref01_GCD.calls kj2 a0 a1 t520 t521 _ A18.out).mono ?_);rintro e w26 ⟨rfl,hb⟩;refine ⟨_,rfl,?_⟩;have n0_:=Aside0.mk (below_step (by repeat (first|(with_reducible first|exact HB.out|apply below_alloc|apply pw_below_drewN|apply below_drew1)|exact HB.out)) hb);clear HB;have HB:=n0_;clear n0_;(try clear hb);(try clear hb2);(try clear hk);(try clear hi)))
        go_ret
        exact ⟨by first|rfl|(simp [errW_none,errW_some]<;>rfl)|(simp [*,errW_none,errW_some]<;>rfl),by repeat (first|(with_reducible first|exact HB.out|apply below_alloc|apply pw_below_drewN|apply below_drew1)|exact HB.out)⟩
       ·rw [if_neg c22] at H
        have c22b0:(t518.toList == t520.toList) = false:=beq_eq_false_iff_ne.mpr c22
        have c22b1:(t518.toList != t520.toList) = true:=bne_iff_ne.mpr c22
        obtain rfl:=Option.some.inj H
        go_wp2_with (first|((with_reducible refine gate_callee (f:=23) rfl ?_);refine goesL_ (some 27) rfl rfl Tryd.func23 (by kernel_rfl) rfl #[.string a0,.string a1] rfl (by (try simp only [List.map_toArray,List.map_cons,List.map_nil]);first|done|rfl|(simp only [List.length_drop,List.length_take];rfl)) ?_;(with_reducible refine (natural_DivMod.calls kj2 a0 a1 t512 t513 t514 _ ?side1 A15.out).mono ?_);(case side1=>exact HLW.out.below (by repeat (first|(with_reducible first|exact HB.out|apply below_alloc|apply pw_below_drewN|apply below_drew1)|exact HB.out)));rintro e w27 ⟨rfl,hb⟩;refine ⟨_,rfl,?_⟩;have n0_:=Aside0.mk (below_step (by repeat (first|(with_reducible first|exact HB.out|apply below_alloc|apply pw_below_drewN|apply below_drew1)|exact HB.out)) hb);clear HB;have HB:=n0_;clear n0_;(try clear hb);(try clear hb2);(try clear hk);(try clear hi))|((with_reducible refine gate_callee (f:=24) rfl ?_);refine goesL_ (some 34) rfl rfl Tryd.func24 (by kernel_rfl) rfl #[.string a0,.string a1] rfl (by (try simp only [List.map_toArray,List.map_cons,List.map_nil]);first|done|rfl|(simp only [List.length_drop,List.length_take];rfl)) ?_;(with_reducible refine (garboardref01_DivMod.calls kj2 a0 a1 t515 t516 t517 _ A16.out).mono ?_);rintro e w28 ⟨rfl,hb⟩;refine ⟨_,rfl,?_⟩;have n0_:=Aside0.mk (below_step (by repeat (first|(with_reducible first|exact HB.out|apply below_alloc|apply pw_below_drewN|apply below_drew1)|exact HB.out)) hb);clear HB;have HB:=n0_;clear n0_;(try clear hb);(try clear hb2);(try clear hk);(try clear hi))|((with_reducible refine gate_callee (f:=25) rfl ?_);refine goesL_ (some 41) rfl rfl Tryd.func25 (by kernel_rfl) rfl #[.string a0,.string a1] rfl (by (try simp only [List.map_toArray,List.map_cons,List.map_nil]);first|done|rfl|(simp only [List.length_drop,List.length_take];rfl)) ?_;(with_reducible refine (natural_GCD.calls a0 a1 t518 t519 _ ?side1 A17.out).mono ?_);(case side1=>exact HLW.out.below (by repeat (first|(with_reducible first|exact HB.out|apply below_alloc|apply pw_below_drewN|apply below_drew1)|exact HB.out)));rintro e w29 ⟨rfl,hb⟩;refine ⟨_,rfl,?_⟩;have n0_:=Aside0.mk (below_step (by repeat (first|(with_reducible first|exact HB.out|apply below_alloc|apply pw_below_drewN|apply below_drew1)|exact HB.out)) hb);clear HB;have HB:=n0_;clear n0_;(try clear hb);(try clear hb2);(try clear hk);(try clear hi))|((with_reducible refine gate_callee (f:=26) rfl ?_);refine goesL_ (some 47) rfl rfl Tryd.func26 (by kernel_rfl) rfl #[.string a0,.string a1] rfl (by (try simp only [List.map_toArray,List.map_cons,List.map_nil]);first|done|rfl|(simp only [List.length_drop,List.length_take];rfl)) ?_;(with_reducible refine (garboardref01_GCD.calls kj2 a0 a1 t520 t521 _ A18.out).mono ?_);rintro e w30 ⟨rfl,hb⟩;refine ⟨_,rfl,?_⟩;have n0_:=Aside0.mk (below_step (by repeat (first|(with_reducible first|exact HB.out|apply below_alloc|apply pw_below_drewN|apply below_drew1)|exact HB.out)) hb);clear HB;have HB:=n0_;clear n0_;(try clear hb);(try clear hb2);(try clear hk);(try clear hi)))
        go_ret
        exact ⟨by first|rfl|(simp [errW_none,errW_some]<;>rfl)|(simp [*,errW_none,errW_some]<;>rfl),by repeat (first|(with_reducible first|exact HB.out|apply below_alloc|apply pw_below_drewN|apply below_drew1)|exact HB.out)⟩
      ·rw [if_neg c21] at H
       have c21b0:(t514 == t517) = false:=beq_eq_false_iff_ne.mpr c21
       have c21b1:(t514 != t517) = true:=bne_iff_ne.mpr c21
       obtain rfl:=Option.some.inj H
       go_wp2_with (first|((with_reducible refine gate_callee (f:=23) rfl ?_);refine goesL_ (some 27) rfl rfl Tryd.func23 (by kernel_rfl) rfl #[.string a0,.string a1] rfl (by (try simp only [List.map_toArray,List.map_cons,List.map_nil]);first|done|rfl|(simp only [List.length_drop,List.length_take];rfl)) ?_;(with_reducible refine (natural_DivMod.calls kj2 a0 a1 t512 t513 t514 _ ?side1 A15.out).mono ?_);(case side1=>exact HLW.out.below (by repeat (first|(with_reducible first|exact HB.out|apply below_alloc|apply pw_below_drewN|apply below_drew1)|exact HB.out)));rintro e w31 ⟨rfl,hb⟩;refine ⟨_,rfl,?_⟩;have n0_:=Aside0.mk (below_step (by repeat (first|(with_reducible first|exact HB.out|apply below_alloc|apply pw_below_drewN|apply below_drew1)|exact HB.out)) hb);clear HB;have HB:=n0_;clear n0_;(try clear hb);(try clear hb2);(try clear hk);(try clear hi))|((with_reducible refine gate_callee (f:=24) rfl ?_);refine goesL_ (some 34) rfl rfl Tryd.func24 (by kernel_rfl) rfl #[.string a0,.string a1] rfl (by (try simp only [List.map_toArray,List.map_cons,List.map_nil]);first|done|rfl|(simp only [List.length_drop,List.length_take];rfl)) ?_;(with_reducible refine (garboardref01_DivMod.calls kj2 a0 a1 t515 t516 t517 _ A16.out).mono ?_);rintro e w32 ⟨rfl,hb⟩;refine ⟨_,rfl,?_⟩;have n0_:=Aside0.mk (below_step (by repeat (first|(with_reducible first|exact HB.out|apply below_alloc|apply pw_below_drewN|apply below_drew1)|exact HB.out)) hb);clear HB;have HB:=n0_;clear n0_;(try clear hb);(try clear hb2);(try clear hk);(try clear hi))|((with_reducible refine gate_callee (f:=25) rfl ?_);refine goesL_ (some 41) rfl rfl Tryd.func25 (by kernel_rfl) rfl #[.string a0,.string a1] rfl (by (try simp only [List.map_toArray,List.map_cons,List.map_nil]);first|done|rfl|(simp only [List.length_drop,List.length_take];rfl)) ?_;(with_reducible refine (natural_GCD.calls a0 a1 t518 t519 _ ?side1 A17.out).mono ?_);(case side1=>exact HLW.out.below (by repeat (first|(with_reducible first|exact HB.out|apply below_alloc|apply pw_below_drewN|apply below_drew1)|exact HB.out)));rintro e w33 ⟨rfl,hb⟩;refine ⟨_,rfl,?_⟩;have n0_:=Aside0.mk (below_step (by repeat (first|(with_reducible first|exact HB.out|apply below_alloc|apply pw_below_drewN|apply below_drew1)|exact HB.out)) hb);clear HB;have HB:=n0_;clear n0_;(try clear hb);(try clear hb2);(try clear hk);(try clear hi))|((with_reducible refine gate_callee (f:=26) rfl ?_);refine goesL_ (some 47) rfl rfl Tryd.func26 (by kernel_rfl) rfl #[.string a0,.string a1] rfl (by (try simp only [List.map_toArray,List.map_cons,List.map_nil]);first|done|rfl|(simp only [List.length_drop,List.length_take];rfl)) ?_;(with_reducible refine (garboardref01_GCD.calls kj2 a0 a1 t520 t521 _ A18.out).mono ?_);rintro e w34 ⟨rfl,hb⟩;refine ⟨_,rfl,?_⟩;have n0_:=Aside0.mk (below_step (by repeat (first|(with_reducible first|exact HB.out|apply below_alloc|apply pw_below_drewN|apply below_drew1)|exact HB.out)) hb);clear HB;have HB:=n0_;clear n0_;(try clear hb);(try clear hb2);(try clear hk);(try clear hi)))
       go_ret
       exact ⟨by first|rfl|(simp [errW_none,errW_some]<;>rfl)|(simp [*,errW_none,errW_some]<;>rfl),by repeat (first|(with_reducible first|exact HB.out|apply below_alloc|apply pw_below_drewN|apply below_drew1)|exact HB.out)⟩
     ·rw [if_neg c20] at H
      have c20b0:(t513.toList == t516.toList) = false:=beq_eq_false_iff_ne.mpr c20
      have c20b1:(t513.toList != t516.toList) = true:=bne_iff_ne.mpr c20
      obtain rfl:=Option.some.inj H
      go_wp2_with (first|((with_reducible refine gate_callee (f:=23) rfl ?_);refine goesL_ (some 27) rfl rfl Tryd.func23 (by kernel_rfl) rfl #[.string a0,.string a1] rfl (by (try simp only [List.map_toArray,List.map_cons,List.map_nil]);first|done|rfl|(simp only [List.length_drop,List.length_take];rfl)) ?_;(with_reducible refine (natural_DivMod.calls kj2 a0 a1 t512 t513 t514 _ ?side1 A15.out).mono ?_);(case side1=>exact HLW.out.below (by repeat (first|(with_reducible first|exact HB.out|apply below_alloc|apply pw_below_drewN|apply below_drew1)|exact HB.out)));rintro e w35 ⟨rfl,hb⟩;refine ⟨_,rfl,?_⟩;have n0_:=Aside0.mk (below_step (by repeat (first|(with_reducible first|exact HB.out|apply below_alloc|apply pw_below_drewN|apply below_drew1)|exact HB.out)) hb);clear HB;have HB:=n0_;clear n0_;(try clear hb);(try clear hb2);(try clear hk);(try clear hi))|((with_reducible refine gate_callee (f:=24) rfl ?_);refine goesL_ (some 34) rfl rfl Tryd.func24 (by kernel_rfl) rfl #[.string a0,.string a1] rfl (by (try simp only [List.map_toArray,List.map_cons,List.map_nil]);first|done|rfl|(simp only [List.length_drop,List.length_take];rfl)) ?_;(with_reducible refine (garboardref01_DivMod.calls kj2 a0 a1 t515 t516 t517 _ A16.out).mono ?_);rintro e w36 ⟨rfl,hb⟩;refine ⟨_,rfl,?_⟩;have n0_:=Aside0.mk (below_step (by repeat (first|(with_reducible first|exact HB.out|apply below_alloc|apply pw_below_drewN|apply below_drew1)|exact HB.out)) hb);clear HB;have HB:=n0_;clear n0_;(try clear hb);(try clear hb2);(try clear hk);(try clear hi))|((with_reducible refine gate_callee (f:=25) rfl ?_);refine goesL_ (some 41) rfl rfl Tryd.func25 (by kernel_rfl) rfl #[.string a0,.string a1] rfl (by (try simp only [List.map_toArray,List.map_cons,List.map_nil]);first|done|rfl|(simp only [List.length_drop,List.length_take];rfl)) ?_;(with_reducible refine (natural_GCD.calls a0 a1 t518 t519 _ ?side1 A17.out).mono ?_);(case side1=>exact HLW.out.below (by repeat (first|(with_reducible first|exact HB.out|apply below_alloc|apply pw_below_drewN|apply below_drew1)|exact HB.out)));rintro e w37 ⟨rfl,hb⟩;refine ⟨_,rfl,?_⟩;have n0_:=Aside0.mk (below_step (by repeat (first|(with_reducible first|exact HB.out|apply below_alloc|apply pw_below_drewN|apply below_drew1)|exact HB.out)) hb);clear HB;have HB:=n0_;clear n0_;(try clear hb);(try clear hb2);(try clear hk);(try clear hi))|((with_reducible refine gate_callee (f:=26) rfl ?_);refine goesL_ (some 47) rfl rfl Tryd.func26 (by kernel_rfl) rfl #[.string a0,.string a1] rfl (by (try simp only [List.map_toArray,List.map_cons,List.map_nil]);first|done|rfl|(simp only [List.length_drop,List.length_take];rfl)) ?_;(with_reducible refine (garboardref01_GCD.calls kj2 a0 a1 t520 t521 _ A18.out).mono ?_);rintro e w38 ⟨rfl,hb⟩;refine ⟨_,rfl,?_⟩;have n0_:=Aside0.mk (below_step (by repeat (first|(with_reducible first|exact HB.out|apply below_alloc|apply pw_below_drewN|apply below_drew1)|exact HB.out)) hb);clear HB;have HB:=n0_;clear n0_;(try clear hb);(try clear hb2);(try clear hk);(try clear hi)))
      go_ret
      exact ⟨by first|rfl|(simp [errW_none,errW_some]<;>rfl)|(simp [*,errW_none,errW_some]<;>rfl),by repeat (first|(with_reducible first|exact HB.out|apply below_alloc|apply pw_below_drewN|apply below_drew1)|exact HB.out)⟩
    ·rw [if_neg c19] at H
     have c19b0:(t512.toList == t515.toList) = false:=beq_eq_false_iff_ne.mpr c19
     have c19b1:(t512.toList != t515.toList) = true:=bne_iff_ne.mpr c19
     obtain rfl:=Option.some.inj H
     go_wp2_with (first|((with_reducible refine gate_callee (f:=23) rfl ?_);refine goesL_ (some 27) rfl rfl Tryd.func23 (by kernel_rfl) rfl #[.string a0,.string a1] rfl (by (try simp only [List.map_toArray,List.map_cons,List.map_nil]);first|done|rfl|(simp only [List.length_drop,List.length_take];rfl)) ?_;(with_reducible refine (natural_DivMod.calls kj2 a0 a1 t512 t513 t514 _ ?side1 A15.out).mono ?_);(case side1=>exact HLW.out.below (by repeat (first|(with_reducible first|exact HB.out|apply below_alloc|apply pw_below_drewN|apply below_drew1)|exact HB.out)));rintro e w39 ⟨rfl,hb⟩;refine ⟨_,rfl,?_⟩;have n0_:=Aside0.mk (below_step (by repeat (first|(with_reducible first|exact HB.out|apply below_alloc|apply pw_below_drewN|apply below_drew1)|exact HB.out)) hb);clear HB;have HB:=n0_;clear n0_;(try clear hb);(try clear hb2);(try clear hk);(try clear hi))|((with_reducible refine gate_callee (f:=24) rfl ?_);refine goesL_ (some 34) rfl rfl Tryd.func24 (by kernel_rfl) rfl #[.string a0,.string a1] rfl (by (try simp only [List.map_toArray,List.map_cons,List.map_nil]);first|done|rfl|(simp only [List.length_drop,List.length_take];rfl)) ?_;(with_reducible refine (garboardref01_DivMod.calls kj2 a0 a1 t515 t516 t517 _ A16.out).mono ?_);rintro e w40 ⟨rfl,hb⟩;refine ⟨_,rfl,?_⟩;have n0_:=Aside0.mk (below_step (by repeat (first|(with_reducible first|exact HB.out|apply below_alloc|apply pw_below_drewN|apply below_drew1)|exact HB.out)) hb);clear HB;have HB:=n0_;clear n0_;(try clear hb);(try clear hb2);(try clear hk);(try clear hi))|((with_reducible refine gate_callee (f:=25) rfl ?_);refine goesL_ (some 41) rfl rfl Tryd.func25 (by kernel_rfl) rfl #[.string a0,.string a1] rfl (by (try simp only [List.map_toArray,List.map_cons,List.map_nil]);first|done|rfl|(simp only [List.length_drop,List.length_take];rfl)) ?_;(with_reducible refine (natural_GCD.calls a0 a1 t518 t519 _ ?side1 A17.out).mono ?_);(case side1=>exact HLW.out.below (by repeat (first|(with_reducible first|exact HB.out|apply below_alloc|apply pw_below_drewN|apply below_drew1)|exact HB.out)));rintro e w41 ⟨rfl,hb⟩;refine ⟨_,rfl,?_⟩;have n0_:=Aside0.mk (below_step (by repeat (first|(with_reducible first|exact HB.out|apply below_alloc|apply pw_below_drewN|apply below_drew1)|exact HB.out)) hb);clear HB;have HB:=n0_;clear n0_;(try clear hb);(try clear hb2);(try clear hk);(try clear hi))|((with_reducible refine gate_callee (f:=26) rfl ?_);refine goesL_ (some 47) rfl rfl Tryd.func26 (by kernel_rfl) rfl #[.string a0,.string a1] rfl (by (try simp only [List.map_toArray,List.map_cons,List.map_nil]);first|done|rfl|(simp only [List.length_drop,List.length_take];rfl)) ?_;(with_reducible refine (garboardref01_GCD.calls kj2 a0 a1 t520 t521 _ A18.out).mono ?_);rintro e w42 ⟨rfl,hb⟩;refine ⟨_,rfl,?_⟩;have n0_:=Aside0.mk (below_step (by repeat (first|(with_reducible first|exact HB.out|apply below_alloc|apply pw_below_drewN|apply below_drew1)|exact HB.out)) hb);clear HB;have HB:=n0_;clear n0_;(try clear hb);(try clear hb2);(try clear hk);(try clear hi)))
     go_ret
     exact ⟨by first|rfl|(simp [errW_none,errW_some]<;>rfl)|(simp [*,errW_none,errW_some]<;>rfl),by repeat (first|(with_reducible first|exact HB.out|apply below_alloc|apply pw_below_drewN|apply below_drew1)|exact HB.out)⟩
end Go.Proofs.YtaopmkcghancmaaDoor.Pr
set_option linter.unusedVariables false
set_option linter.unusedSimpArgs false
namespace Go.Proofs.YtaopmkcghancmaaDoor.Pr
open Go.RowKit Go.Lib Go.Proofs.YtaopmkcghancmaaDoorW.PrintWords Go.Proofs.YtaopmkcghancmaaDoorW.PrintLast Go.Proofs.YtaopmkcghancmaaDoorW.PrintMore Go.Proofs.YtaopmkcghancmaaDoor.NatTh
theorem sh120 {a:ByteArray} (h:a.size≤120):Sh a:=(Nat.le_trans h (by omega):a.size≤274877906944)
theorem Divides_law (a b:ByteArray):Ev (fun k=>garboardlaw01_NaturalDivides.f k a b) true:=by
 refine law_head [a,b] (by simp) (fun k t=>garboardlaw01_NaturalDivides.j0 k a b t) _ (fun k=>rfl) (fun k=>by rw [garboardlaw01_NaturalDivides.j0,if_pos rfl]) (fun hs=>?_)
 have ha:=sh120 (hs a (by simp))
 have hb:=sh120 (hs b (by simp))
 have e1:natural_GCD.f a b = some (gcdV a b):=if_pos ⟨ha,hb⟩
 refine Ev.step (f:=fun k=>(natural_DivMod.f k a b).bind fun bt512=>((garboardref01_DivMod.f k a b).bind fun bt515=>((garboardref01_GCD.f k a b).bind fun bt520=>(if bt512.1.toList = bt515.1.toList then (if bt512.2.1.toList = bt515.2.1.toList then (if bt512.2.2 = bt515.2.2 then (if (gcdV a b).1.toList = bt520.1.toList then (some ((gcdV a b).2 == bt520.2)) else (some false)) else (some false)) else (some false)) else (some false))))) (fun k=>?_) (Ev.bind (DivMod_ev a b ha hb) (Ev.bind (rDivMod_ev a b ha hb) (Ev.bind (rGCD_ev a b ha hb) ?_)))
 ·rw [garboardlaw01_NaturalDivides.j0,if_neg (by simp),e1]
  rfl
 ·refine Ev.congr (fun k=>?_) (Ev.now _)
  rw [if_pos rfl,if_pos rfl,if_pos rfl,if_pos rfl,beq_self_eq_true]
end Go.Proofs.YtaopmkcghancmaaDoor.Pr
namespace Go.Proofs.YtaopmkcghancmaaDoor.Pr
set_option linter.unusedVariables false
set_option linter.unusedSimpArgs false
open Go.ChangeShapes Go.WideShapes Go.ChangeAt Go.Deep Go.Joins Go.RowKit Go.Proofs.YtaopmkcghancmaaDoorW.PrintWords
theorem own:ownKnob Tryd.prog.godebug = none:=by kernel_rfl
theorem laidOut:laidOutB Tryd.prog = true:=by kernel_rfl
set_option maxRecDepth 100000 in
theorem openS {H:Type} {enc:TypeId × Value→H} {W:World} {r:Reach} {b0:Nat} {v:Value} {d:DataW H} {p:List MemPlace} (hv:Value.okWide Tryd.prog W r b0 9 v) (h:DataW.Trod enc Tryd.prog W 0 (fun _=>true) true 9 v d p):∃ s,v = .string s:=by
 obtain ⟨s,e,_⟩:=Go.ChangeMaps.open_string Tryd.underlying9 hv h
 exact ⟨s,e⟩
def laid5:List (String × DataW Unit):=[("math/bits.deBruijn32tab",Rows.laid_math_bits_deBruijn32tab),("math/bits.deBruijn64tab",Rows.laid_math_bits_deBruijn64tab),("internal/strconv.uint64pow10",Rows.laid_internal_strconv_uint64pow10),("strconv.ErrRange",Rows.laid_strconv_ErrRange),("strconv.ErrSyntax",Rows.laid_strconv_ErrSyntax)]
theorem gPow:Tryd.prog.globalNamed "internal/strconv.uint64pow10" = some 0:=by kernel_rfl
theorem gPowType:(Tryd.prog.globals[0]?).map (·.type) = some 123:=by kernel_rfl
theorem laid_tab {W:World} (h:laidMetH Tryd.prog laid5 W):LaidW W:=by
 rw [MakeChecks.laidMetH_plain _ _ _ (by kernel_rfl)] at h
 obtain ⟨ps,⟨g0,t0,cs0,f0,p0,q0,hg0,ht0,hv0,hd0,⟨g1,t1,cs1,f1,p1,q1,hg1,ht1,hv1,hd1,⟨g2,t2,cs2,f2,p2,q2,hg2,ht2,hv2,hd2,_,_⟩,_⟩,_⟩,_⟩:=h
 obtain rfl:=Option.some.inj (gPow.symm.trans hg2)
 obtain rfl:=Option.some.inj (gPowType.symm.trans ht2)
 have e:(Rows.laid_internal_strconv_uint64pow10:DataW Unit) = Lib.tabData .u64 Lib.pow10Tab:=rfl
 rw [e] at hd2
 unfold LaidW Lib.TabIs
 rw [hv2,← Lib.cells_of_tab Tryd.underlying123 Tryd.underlying61 (by kernel_rfl) (by kernel_rfl) hd2]
theorem door_met (os:Os) (args:Array Value):laidMetH Tryd.prog laid5 ((World.doorLaid Tryd.prog 400 os).forCall (fun _ _=>0) ⟨#[],args,[]⟩).memory :=
 laidMetH_of_parts3 (fuel:=8) (laidMet_of_run' 8 (by kernel_rfl) (by kernel_rfl)) (by kernel_rfl) (by kernel_rfl)
end Go.Proofs.YtaopmkcghancmaaDoor.Pr
namespace Go.Proofs.YtaopmkcghancmaaDoor.Pr
set_option linter.unusedVariables false
set_option linter.unusedSimpArgs false
open Go.ChangeShapes Go.WideShapes Go.ChangeAt Go.RowKit Go.Proofs.YtaopmkcghancmaaDoorW.PrintWords
set_option maxRecDepth 100000 in
theorem naturalDivides_lifted (os:Os) (started:os.Started) (H:Type) (enc:TypeId × Value→H) :
  ReturnsInHanded {} Tryd.checked os 5 .any (fun w args=>(Rows.naturalDividesSpec.pre enc Tryd.prog Tryd.f5 [] false w args∧laidMetH Tryd.prog laid5 w)∧sizedMet enc Tryd.prog Tryd.f5 (OpenSpec.ofChange Rows.naturalDividesSpec) false w args)
   (Rows.naturalDividesSpec.post enc Tryd.prog Tryd.f5 false true false false):=by
 refine returnsInHanded_of_change_and (C:=Tryd.checked) (X:=fun w _=>laidMetH Tryd.prog laid5 w) (fun _ _ _ hh h=>h.of_heap hh) own started (by kernel_rfl) Tryd.func5
  (ChangeSpec.witness_shaped (enc:=enc) (C:=Tryd.checked) (os:=os) (X:=fun w _=>laidMetH Tryd.prog laid5 w) false (World.doorLaid Tryd.prog 400 os) #[.string ⟨#[]⟩,.string ⟨#[]⟩] 8 rfl (World.shaped_of_RefB (by kernel_rfl) (by kernel_rfl)) (by kernel_rfl) (by kernel_rfl) (by kernel_rfl) (door_met os _)) ?_
 intro W base args ds gs before hval0 hW _ _ hL _
 have hval:∀ (j:Nat) t v,Tryd.f5.params[j]? = some t→args[j]? = some v→Value.okWide Tryd.prog W .any base t v:=hval0
 have hW':=hW
 obtain ⟨p,q,hA0,hV,rfl,hfz,hnd⟩:=hW
 have hA:DataW.TrodAll enc Tryd.prog W 0 (fun _=>true) true Tryd.f5.params.toList args.toList ds p:=hA0
 rw [Tryd.params5] at hA hval
 obtain ⟨v0,vs0,d0,ds0,p0,q0,hargs,rfl,rfl,h0,r0⟩:=trodAll_cons hA
 obtain ⟨v1,vs1,d1,ds1,p1,q1,rfl,rfl,rfl,h1,r1⟩:=trodAll_cons r0
 obtain ⟨rfl,rfl,rfl⟩:=trodAll_nil r1
 obtain rfl:args = #[v0,v1]:=by cases args;simp_all
 obtain ⟨rfl,rfl⟩:=trodVars_none hV
 have lt0:∀ x ∈ p0,x.block < W.heap.size:=by obtain ⟨m,hm⟩:=h0;exact DataW.trod_lt m _ _ _ hm
 have lt1:∀ x ∈ p1,x.block < W.heap.size:=by obtain ⟨m,hm⟩:=h1;exact DataW.trod_lt m _ _ _ hm
 have k0:=h0
 have k1:=h1
 obtain ⟨a0,rfl⟩:=openS (hval 0 9 v0 rfl rfl) h0
 obtain ⟨a1,rfl⟩:=openS (hval 1 9 v1 rfl rfl) h1
 have hT:=laid_tab hL
 clear hA0 hval0 hval
 obtain ⟨k,hk⟩:=(Divides_law a0 a1).rounds
 refine (garboardlaw01_NaturalDivides.calls k a0 a1 true W hT hk).mono fun e W' ⟨he,bel⟩=>?_
 subst he
 exact ⟨_,rfl,_,_,_,[],_,[],hW',trodAll_mk1 (shut_bool Tryd.underlying4 _),(trodAll_cons_mk (Below.trod laidOut (by kernel_rfl) (of_decide_eq_true (by kernel_rfl)) k0 bel lt0) (trodAll_cons_mk (Below.trod laidOut (by kernel_rfl) (of_decide_eq_true (by kernel_rfl)) k1 bel lt1) trodAll_mk0)),rfl,bel.frame _,fun h=>by cases h⟩
theorem naturalDivides_row:Rows.NaturalDividesSaid :=
 OpenClaim.holds_of_wide 5 Tryd.f5 rfl rfl rfl rfl rfl rfl rfl ⟨rfl,rfl,rfl,rfl,rfl⟩ rfl rfl rfl rfl rfl (by kernel_rfl) Tryd.func5 (by kernel_rfl)
  (of_decide_eq_true (by kernel_rfl)) (by unfold Func.isWrapper;first|(rw [if_pos (by decide +kernel)];kernel_rfl)|(rw [if_neg (by decide +kernel)];exact ⟨rfl,rfl⟩))
  (fun os started H enc _=>naturalDivides_lifted os started H enc)
end Go.Proofs.YtaopmkcghancmaaDoor.Pr
namespace Go.Proofs.YtaopmkcghancmaaDoor
open Go
theorem naturalDivides_card_holds:Rows.NaturalDividesCardSaid :=
 Claim7.holds_tied_plain_at .later [] [.data,.data,.data,.sentinel,.sentinel] true (true, "15e2bb534210d3ebfac1118a7fbd3a9c70502882d4f4aec048f40a6a26db7ede") true
  Pr.naturalDivides_row (fun _ h=>by cases h) (by kernel_rfl) (fun _ h=>by cases h) naturalDivides_row_tie rfl ⟨rfl,rfl⟩ (by kernel_rfl) rfl
  (fun f fn hf hfn=>by
   obtain rfl:f = 5:=Option.some.inj ((show Tryd.prog.funcNamed "garboard/garboardlaw01.NaturalDivides" = some 5 by kernel_rfl).symm.trans hf) |>.symm
   obtain rfl:fn = Tryd.f5:=(Option.some.inj (Tryd.func5.symm.trans hfn)).symm
   exact ⟨by kernel_rfl,fun j t ht=>by
    rw [Tryd.params5] at ht
    have hm:t ∈ [9,9]:=by simpa using Array.mem_of_getElem? ht
    have hall:([9,9].all fun u=>!Tryd.prog.wantsStandIn u) = true:=by kernel_rfl
    exact (show Tryd.prog.wantsStandIn t = false by simpa using List.all_eq_true.1 hall t hm)⟩)
  (by kernel_rfl)
end Go.Proofs.YtaopmkcghancmaaDoor
