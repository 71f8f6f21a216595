/- Part 1 of 1: garboardlaw02.IntegerCombines (the linear combination gives the greatest common divisor, its first factor is in its bounds; at most 120 bytes each) answers true for every input, and each argument reads behind the call as before. The library's tables are tied to the program's text by the card. -/
import Derived.Below
import Derived.Deep.Draws
import Derived.Deep.AppendLies
import Derived.Maps.AppendAt
import Derived.OwnWalk
import Derived.Laws.BytesArg
import Derived.Laws.MakeOwn
import Derived.Laws.OwnMore
import Derived.Deep.OwnRows
import Derived.Tactics
import Derived.Lib.ConvBytes
import Derived.Laws.Slices
import Derived.WalkKit
import Derived.KernelRfl
import Derived.RowKit3
import Derived.Deep.LoopGhost
import Derived.Deep.QuietTactic
import Derived.BigQuiet
import Derived.WideLaws
import Derived.Deep.DeepCutAuto
import Derived.Deep.CutBlock
import Derived.Deep.RegionHeld3
import Derived.Laws.Rows
import Derived.Lib.AppendStr
import Derived.ArgAppend
import Derived.Laws.IdiomCopy
import Derived.RowKit
import Derived.OrdersHeld
import Derived.Laws.BitsLemmas
import Derived.Laws.StructEq
import Derived.Test.YtaknchlegjcdhaaGreatDoorProg
import Derived.RangeFuncFrom
import Derived.RangeFuncBox
import Derived.RangeFuncLeaves
import Derived.RangeFuncCalls
import Derived.RangeFuncBound
import Derived.Shelf.Abstract
import Derived.OwnWalkIn
import Derived.TacticsInMore
import Derived.LoopNIn
import Derived.LoopIn
import Derived.Lib.Hide
import Derived.Lib.FrozenHead
import Derived.Lib.AppendIntMem
import Derived.Shelf.LaysM
import Derived.Shelf.Strconv.Itoa3
import Derived.Shelf.Strings.Builder1
import Derived.Shelf.Strings.Builder2
import Derived.Shelf.Small.Wraps
import Derived.Shelf.Strings.BuilderF
import Derived.Shelf.Strings.BuilderK
import Derived.Shelf.Strings.Builder2Cap
import Derived.Shelf.Strconv.Itoa0
import Derived.Shelf.Strconv.Itoa1
import Derived.Shelf.Strconv.Itoa2
import Derived.Shelf.Strconv.Clone
import Derived.Shelf.Strconv.SyntaxError
import Derived.Shelf.Strconv.Lower
import Derived.Shelf.Strconv.ParseUint10
import Derived.Shelf.Strconv.ParseUint10Empty
import Derived.Shelf.Strconv.RangeError
import Derived.Shelf.Strconv.ParseUintEmpty
import Derived.Shelf.Strconv.ParseUint10b64
import Derived.Shelf.Strconv.ParseUint10b32
import Derived.Shelf.Strconv.ParseUint10b16
import Derived.Shelf.Strconv.ParseUint10b8
import Derived.Shelf.Strings.Prefix
import Derived.Shelf.Bits.Mul64
import Derived.Shelf.Strings.Repeat
import Derived.Ground.Names2Prog
import Derived.Shelf.Slices.SearchI
import Derived.Lib.Walk
import Derived.Lib.ItoaMem
import Derived.BigCall
import Derived.BigGuard
import Derived.Lib.ItoaNum
import Derived.Lib.ParseIntB
import Derived.Ground.MpProg
import Derived.Shelf.Pu.ParseUintPublic10
import Derived.Lib.AtoiErrMem
import Derived.Great.BuildSlice
import Derived.Lib.SmallJoins
import Derived.LaidMore
import Derived.ProofKit
import Derived.Stop.Joined
import Derived.SizedLaws
import Derived.DataShut
import Derived.SevenTiedAt
import Derived.Test.YtaknchlegjcdhaaGreatDoorDz5
namespace Go.Proofs.YtaknchlegjcdhaaGreatDoor.Pr
open Go.RowKit Go.Proofs.YtaknchlegjcdhaaGreatDoorW.PrintWords Go.Proofs.YtaknchlegjcdhaaGreatDoorW.PrintLast Go.Proofs.YtaknchlegjcdhaaGreatDoorW.PrintMore
attribute [local go_sem] max2_int min2_int max_two min_two max_three min_three max_four min_four
set_option maxHeartbeats 8000000
set_option maxRecDepth 100000
set_option linter.unusedVariables false
set_option linter.unusedSimpArgs false
def garboardref01_word.l0:Nat→List Int→Int→Int→Option (Int)
 | 0,_,_,_=>none
 | k + 1,x0,x3,x4=>if x4 ≥ 0 then (if 0≤x4 then (if x4 < (x0.length:Int) then (garboardref01_word.l0 k x0 (IntKind.u64.wrap ((IntKind.u64.wrap (x3 * 1000000000)) + (IntKind.u64.wrap (rd x0 x4)))) (wrap64 (x4 - 1))) else (none)) else (none)) else (some x3)
def garboardref01_word.f (k:Nat) (l0:List Int):Option (Int):=garboardref01_word.l0 k l0 0 (wrap64 ((l0.length:Int) - 1))
end Go.Proofs.YtaknchlegjcdhaaGreatDoor.Pr
namespace Go.Proofs.YtaknchlegjcdhaaGreatDoor.Pr
open Go.RowKit Go.Proofs.YtaknchlegjcdhaaGreatDoorW.PrintWords Go.Proofs.YtaknchlegjcdhaaGreatDoorW.PrintLast Go.Proofs.YtaknchlegjcdhaaGreatDoorW.PrintMore
attribute [local go_sem] max2_int min2_int max_two min_two max_three min_three max_four min_four
set_option maxHeartbeats 8000000
set_option maxRecDepth 100000
set_option linter.unusedVariables false
set_option linter.unusedSimpArgs false
def garboardref01_wide.f (k:Nat) (a0:Int):Option (List Int):=(garboardref01_trim.f k (([(Int.tmod a0 1000000000) % 4294967296,(Int.tmod (IntKind.u64.wrap (Int.tdiv a0 1000000000)) 1000000000) % 4294967296,(IntKind.u64.wrap (Int.tdiv (IntKind.u64.wrap (Int.tdiv a0 1000000000)) 1000000000)) % 4294967296]:List Int))).bind fun t791=>(some t791)
end Go.Proofs.YtaknchlegjcdhaaGreatDoor.Pr
set_option linter.unusedVariables false
set_option linter.unusedSimpArgs false
namespace Go.Proofs.YtaknchlegjcdhaaGreatDoor.Pr
open Go.RowKit Go.Proofs.YtaknchlegjcdhaaGreatDoorW.PrintWords Go.Proofs.YtaknchlegjcdhaaGreatDoorW.PrintLast Go.Proofs.YtaknchlegjcdhaaGreatDoorW.PrintMore Go.Proofs.YtaknchlegjcdhaaGreatDoor.NatTh
theorem wide_ev (a:Nat) (h:a < 18446744073709551616):Ev (fun k=>garboardref01_wide.f k a) (numOf a):=by
 have e1:Int.tmod (a:Int) 1000000000 = (a:Int) % 1000000000:=Int.tmod_eq_emod_of_nonneg (by omega)
 have e2:Int.tdiv (a:Int) 1000000000 = (a:Int) / 1000000000:=Int.tdiv_eq_ediv_of_nonneg (by omega)
 have e3:Int.tmod ((a:Int) / 1000000000) 1000000000 = (a:Int) / 1000000000 % 1000000000:=Int.tmod_eq_emod_of_nonneg (by omega)
 have e4:Int.tdiv ((a:Int) / 1000000000) 1000000000 = (a:Int) / 1000000000 / 1000000000:=Int.tdiv_eq_ediv_of_nonneg (by omega)
 have ew:Wd [(a:Int) % 1000000000,(a:Int) / 1000000000 % 1000000000,(a:Int) / 1000000000 / 1000000000]:=Wd.cons (by unfold B;omega) (wd2 (by omega) (by omega))
 have ev:val [(a:Int) % 1000000000,(a:Int) / 1000000000 % 1000000000,(a:Int) / 1000000000 / 1000000000] = a:=by
  simp only [val,BB]
  omega
 have h1:=rtrim_ev (l:=[(a:Int) % 1000000000,(a:Int) / 1000000000 % 1000000000,(a:Int) / 1000000000 / 1000000000]) (by simp)
 rw [trim_numOf ew ev] at h1
 refine Ev.congr (f:=fun k=>(garboardref01_trim.f k [(a:Int) % 1000000000,(a:Int) / 1000000000 % 1000000000,(a:Int) / 1000000000 / 1000000000]).bind fun t=>some t) (fun k=>?_) (Ev.bind h1 (Ev.now _))
 simp only [garboardref01_wide.f]
 rw [e1,e2,u64w (x:=(a:Int) / 1000000000) (by omega) (by omega),e3,e4,u64w (by omega) (by omega),Int.emod_eq_of_lt (show (0:Int)≤(a:Int) % 1000000000 by omega) (by omega),Int.emod_eq_of_lt (show (0:Int)≤(a:Int) / 1000000000 % 1000000000 by omega) (by omega),Int.emod_eq_of_lt (show (0:Int)≤(a:Int) / 1000000000 / 1000000000 by omega) (by omega)]
theorem word_loop (x:List Int) (hx:Wd x) (hv:val x < 18446744073709551616) (hb:x.length < 1152921504606846976):∀ (n:Nat),n≤x.length→∀ k,n < k→garboardref01_word.l0 k x (val (x.drop n)) ((n:Int) - 1) = some (val x):=by
 intro n
 induction n with
 | zero =>
  intro _ k hk
  obtain ⟨k,rfl⟩:∃ m,k = m + 1:=⟨k - 1,by omega⟩
  simp only [garboardref01_word.l0]
  rw [if_neg (by omega)]
  simp
 | succ n ih =>
  intro hn k hk
  obtain ⟨k,rfl⟩:∃ m,k = m + 1:=⟨k - 1,by omega⟩
  have e1:(((n + 1:Nat):Int) - 1) = n:=by omega
  have hd:=val_drop_succ x n (by omega)
  have hnn:=val_drop_nn hx (n + 1)
  have hle:val (x.drop n)≤val x:=by
   have h1:=val_split x n (by omega)
   have h2:=val_take_nn hx n
   have h3:=val_drop_nn hx n
   have h4:1 * val (x.drop n)≤B ^ n * val (x.drop n):=Int.mul_le_mul_of_nonneg_right (by have:=Bpow_pos n;omega) h3
   omega
  have hg:=hx.getD n
  rw [BB] at hd hg
  simp only [garboardref01_word.l0]
  rw [e1,if_pos (by omega),if_pos (by omega),if_pos (by omega),rd_eq,w64 (x:=(n:Int) - 1) (by omega) (by omega),u64w (x:=val (x.drop (n + 1)) * 1000000000) (by omega) (by omega),u64w (x:=x.getD n 0) (by omega) (by omega),u64w (by omega) (by omega),show val (x.drop (n + 1)) * 1000000000 + x.getD n 0 = val (x.drop n) by omega]
  exact ih (by omega) k (by omega)
theorem word_ev (a:Nat) (h:a < 18446744073709551616) (ho:Ok (numOf a)):Ev (fun k=>garboardref01_word.f k (numOf a)) (a:Int):=by
 unfold Ok at ho
 refine ⟨(numOf a).length + 1,fun k hk=>?_⟩
 have h1:=word_loop (numOf a) (num_numOf a).1 (by rw [val_numOf];omega) (by omega) (numOf a).length (Nat.le_refl _) k (by omega)
 rw [List.drop_length,val_numOf] at h1
 simp only [garboardref01_word.f]
 rw [w64 (by omega) (by omega)]
 exact h1
end Go.Proofs.YtaknchlegjcdhaaGreatDoor.Pr
namespace Go.Proofs.YtaknchlegjcdhaaGreatDoor.Pr
open Go.RowKit Go.Proofs.YtaknchlegjcdhaaGreatDoorW.PrintWords Go.Proofs.YtaknchlegjcdhaaGreatDoorW.PrintLast Go.Proofs.YtaknchlegjcdhaaGreatDoorW.PrintMore Go.Proofs.YtaknchlegjcdhaaGreatDoor.NatTh
theorem V_of_C {w:World} {A:Option Addr} {c:Nat} {xs:List Int} (h:Kd.C (Kd.int .u32) w A xs.length xs) (hc:xs.length≤c):Kd.V (Kd.int .u32) 95 w w.heap.size (fun _=>True) (.slice A xs.length c) xs:=by
 refine ⟨A,c,rfl,hc,fun W' hW=>?_⟩
 obtain ⟨h1,h2,h3⟩:=h
 refine ⟨h1,h2,fun hn=>?_⟩
 obtain ⟨ad,e,hcell⟩:=h3 hn
 refine ⟨ad,e,fun j x hx=>?_⟩
 obtain ⟨cs,hl,hK,hcc⟩:=hcell j x hx
 refine ⟨cs,hl,hK,fun i u hu=>?_⟩
 have h4:=hcc i u hu
 exact (World.cell?_of_block (hW _ trivial (World.block_lt_of_cell? w _ h4))).trans h4
end Go.Proofs.YtaknchlegjcdhaaGreatDoor.Pr
namespace Go.Proofs.YtaknchlegjcdhaaGreatDoor.Pr
set_option linter.unusedVariables false
set_option linter.unusedSimpArgs false
open Go.RowKit Go.Shelf Go.Lib Go.Proofs.YtaknchlegjcdhaaGreatDoor.NatTh Go.Proofs.YtaknchlegjcdhaaGreatDoorW.PrintWords Go.Proofs.YtaknchlegjcdhaaGreatDoorW.PrintLast Go.Proofs.YtaknchlegjcdhaaGreatDoorW.PrintMore
set_option maxHeartbeats 1000000 in
theorem apply48 (vn vm:Value) (r:List Int) (s:ByteArray) (w:World) (hL:LaidW w) (hm:Calls Tryz.prog 68 #[vn,vm] w (Gives r w)) (ht:natural_num_text.f r = some s) :
  Calls Tryz.prog 67 #[.func (.func 68) #[vn] #[],vm] w fun e w'=>e = .returned (.tuple #[.string s,.int .i64 0])∧Below w.heap.size w w':=by
 have HT:=Lib.hid ht
 have HL:=Lib.hid hL
 clear ht hL
 go_enter Tryz.func67,Tryz.ntmps67
 go_wp2_with (first|(go_at_call 68;refine hm.mono ?_;rintro e w1 ⟨A,c,rfl,hC,hc,hb⟩;have HB:=Lib.hid hb;have HC:=Lib.hid hC;have Hc:=Lib.hid hc;clear hb hC hc)|(go_at_call 70;refine (natural_num_text.calls _ _ r s _ HC.out Hc.out (HL.out.below HB.out) HT.out).mono ?_;rintro e w2 ⟨rfl,hb2⟩;have HB2:=Lib.hid hb2;clear hb2))
 go_ret2
 exact ⟨rfl,below_step HB.out HB2.out⟩
end Go.Proofs.YtaknchlegjcdhaaGreatDoor.Pr
namespace Go.Proofs.YtaknchlegjcdhaaGreatDoor.Pr
open Go.RowKit Go.Proofs.YtaknchlegjcdhaaGreatDoorW.PrintWords Go.Proofs.YtaknchlegjcdhaaGreatDoorW.PrintLast Go.Proofs.YtaknchlegjcdhaaGreatDoorW.PrintMore
attribute [local go_sem] max2_int min2_int max_two min_two max_three min_three max_four min_four
set_option maxHeartbeats 8000000
set_option maxRecDepth 100000
set_option linter.unusedVariables false
set_option linter.unusedSimpArgs false
mutual
def natural_num_gcd.l0:Nat→List Int→List Int→Option (List Int)
 | 0,_,_=>none
 | k + 1,x0,x1=>if (x1.length:Int) > 0 then ((natural_num_small.f x0).bind fun bt935=>((natural_num_small.f x1).bind fun bt937=>(if bt935.2 = true then (natural_num_gcd.j1 k x0 x1 bt935.1 bt937.1 bt937.2) else (natural_num_gcd.j1 k x0 x1 bt935.1 bt937.1 false)))) else (some x0)
def natural_num_gcd.j1:Nat→List Int→List Int→Int→Int→Bool→Option (List Int)
 | 0,_,_,_,_,_=>none
 | k + 1,x0,x1,x5,x7,x27=>if x27 = true then (natural_num_gcd.l1 k x5 x7) else ((natural_num_divide.f x0 x1).bind fun bt942=>(natural_num_gcd.l0 k x1 bt942.2))
def natural_num_gcd.l1:Nat→Int→Int→Option (List Int)
 | 0,_,_=>none
 | k + 1,x5,x7=>if x7 > 0 then (if x7 = 0 then (none) else (natural_num_gcd.l1 k x7 (Int.tmod x5 x7))) else ((natural_of.f k x5).bind fun t939=>(some t939))
end
def natural_num_gcd.f (k:Nat) (l0:List Int) (l1:List Int):Option (List Int):=natural_num_gcd.l0 k l0 l1
theorem natural_num_gcd.calls (k:Nat) (P0_:Nat→Prop) (A0:Option Addr) (c0:Nat) (l0:List Int) (P1_:Nat→Prop) (A1:Option Addr) (c1:Nat) (l1:List Int) (r:List Int) (w:World) (hs0:Kd.V (Kd.int .u32) 95 w w.heap.size (fun k_=>P0_ k_) (.slice A0 l0.length c0) l0) (hs1:Kd.V (Kd.int .u32) 95 w w.heap.size (fun k_=>P1_ k_) (.slice A1 l1.length c1) l1) (h:natural_num_gcd.f k l0 l1 = some r) :
  Calls Tryz.prog 68 #[.slice A0 l0.length c0,.slice A1 l1.length c1] w fun e w'=>∃ v0_:Value,e = .returned (v0_)∧Kd.V (Kd.int .u32) 95 w' w.heap.size (fun k_=>((P0_ k_ ∨ P1_ k_) ∨ w.heap.size≤k_)) v0_ r∧Below w.heap.size w w':=by
 have HO0:=Aside0.mk (show Kd.V (Kd.int .u32) 95 w w.heap.size (fun k_=>((P0_ k_ ∨ P1_ k_) ∨ w.heap.size≤k_)) (.slice A0 l0.length c0) l0 from Kd.V_mono hs0 (fun k_ hk=>.inl (.inl hk)))
 have HO1:=Aside0.mk (show Kd.V (Kd.int .u32) 95 w w.heap.size (fun k_=>((P0_ k_ ∨ P1_ k_) ∨ w.heap.size≤k_)) (.slice A1 l1.length c1) l1 from Kd.V_mono hs1 (fun k_ hk=>.inl (.inr hk)))
 have HB:=Aside0.mk (Below.refl w.heap.size w)
 have H:(natural_num_gcd.l0 k l0 l1) = some r:=h
 clear h
 have H':=Aside0.mk H
 clear H
 go_enter Tryz.func68,Tryz.ntmps68
 go_wp2
 repeat (go_quiet (fail);try go_wp2)
 go_loopg [0,1] k (fun kq v0 v1 w'=>∃ (x0_1:List Int) (x1_1:List Int),Aside0 (natural_num_gcd.l0 kq x0_1 x1_1 = some r)∧Aside0 (kq≤k)∧Aside0 (Kd.V (Kd.int .u32) 95 w' w.heap.size (fun k_=>((P0_ k_ ∨ P1_ k_) ∨ w.heap.size≤k_)) v0 x0_1)∧Aside0 (Kd.V (Kd.int .u32) 95 w' w.heap.size (fun k_=>((P0_ k_ ∨ P1_ k_) ∨ w.heap.size≤k_)) v1 x1_1)∧Aside0 (Below w.heap.size w w'))
 case atStart=>exact ⟨(l0),(l1),H',⟨Nat.le_refl _⟩,⟨by (with_reducible repeat (first|apply Kd.V_alloc|apply Kd.V_drewN|apply Kd.V_drew));exact HO0.out⟩,⟨by (with_reducible repeat (first|apply Kd.V_alloc|apply Kd.V_drewN|apply Kd.V_drew));exact HO1.out⟩,⟨bx_⟩⟩
 case round =>
  clear H'
  try clear c1
  try clear p2
  obtain ⟨x0_1,x1_1,HA,HK1,HO_0,HO_1,HB⟩:=hrel
  cases gk with
  | zero=>exact absurd HA.out (by simp [natural_num_gcd.l0])
  | succ k1 =>
   have H:=HA.out
   clear HA
   simp only [natural_num_gcd.l0] at H
   by_cases c3:(x1_1.length:Int) > 0
   ·rw [if_pos c3] at H
    have c3b0:decide (0 < (x1_1.length:Int)) = true:=decide_eq_true c3
    have c3b1:decide (0 < x1_1.length) = true:=decide_eq_true (by omega)
    clear c3
    obtain ⟨⟨t935,t936⟩,A4,H⟩:=bn_ H
    dsimp only at H
    obtain ⟨⟨t937,t938⟩,A5,H⟩:=bn_ H
    dsimp only at H
    have HC6:=Aside0.mk H
    clear H
    obtain ⟨Ao7,co7,eo7⟩:=Kd.V_slice HO_1.out
    subst eo7
    obtain ⟨Ao8,co8,eo8⟩:=Kd.V_slice HO_0.out
    subst eo8
    go_upto_region 4 with (first|(go_at_call 93;(with_reducible refine (natural_num_small.calls _ _ x0_1 t935 t936 _ ?side1 ?side2 A4.out).mono ?_);(case side1=>exact cx_ ((Kd.V_reads' HO_0.out).2.2));(case side2=>exact (Kd.V_reads' HO_0.out).2.1);rintro e w' ⟨rfl,⟨nd,rfl⟩⟩;(try first|exact ⟨rfl,_,World.drewN_drewN _ _ _⟩|exact ⟨rfl,_,Eq.trans (World.drewN_drewN _ _ _) (congrArg (World.drewN _) (Nat.add_assoc _ _ _))⟩))|(go_at_call 93;(with_reducible refine (natural_num_small.calls _ _ x1_1 t937 t938 _ ?side1 ?side2 A5.out).mono ?_);(case side1=>exact cx_ ((Kd.V_reads' HO_1.out).2.2));(case side2=>exact (Kd.V_reads' HO_1.out).2.1);rintro e w' ⟨rfl,⟨nd,rfl⟩⟩;(try first|exact ⟨rfl,_,World.drewN_drewN _ _ _⟩|exact ⟨rfl,_,Eq.trans (World.drewN_drewN _ _ _) (congrArg (World.drewN _) (Nat.add_assoc _ _ _))⟩)))
    repeat (go_quiet (first|(go_at_call 93;(with_reducible refine (natural_num_small.calls _ _ x0_1 t935 t936 _ ?side1 ?side2 A4.out).mono ?_);(case side1=>exact cx_ ((Kd.V_reads' HO_0.out).2.2));(case side2=>exact (Kd.V_reads' HO_0.out).2.1);rintro e w' ⟨rfl,⟨nd,rfl⟩⟩;(try first|exact ⟨rfl,_,World.drewN_drewN _ _ _⟩|exact ⟨rfl,_,Eq.trans (World.drewN_drewN _ _ _) (congrArg (World.drewN _) (Nat.add_assoc _ _ _))⟩))|(go_at_call 93;(with_reducible refine (natural_num_small.calls _ _ x1_1 t937 t938 _ ?side1 ?side2 A5.out).mono ?_);(case side1=>exact cx_ ((Kd.V_reads' HO_1.out).2.2));(case side2=>exact (Kd.V_reads' HO_1.out).2.1);rintro e w' ⟨rfl,⟨nd,rfl⟩⟩;(try first|exact ⟨rfl,_,World.drewN_drewN _ _ _⟩|exact ⟨rfl,_,Eq.trans (World.drewN_drewN _ _ _) (congrArg (World.drewN _) (Nat.add_assoc _ _ _))⟩)));go_upto_region 4 with (first|(go_at_call 93;(with_reducible refine (natural_num_small.calls _ _ x0_1 t935 t936 _ ?side1 ?side2 A4.out).mono ?_);(case side1=>exact cx_ ((Kd.V_reads' HO_0.out).2.2));(case side2=>exact (Kd.V_reads' HO_0.out).2.1);rintro e w' ⟨rfl,⟨nd,rfl⟩⟩;(try first|exact ⟨rfl,_,World.drewN_drewN _ _ _⟩|exact ⟨rfl,_,Eq.trans (World.drewN_drewN _ _ _) (congrArg (World.drewN _) (Nat.add_assoc _ _ _))⟩))|(go_at_call 93;(with_reducible refine (natural_num_small.calls _ _ x1_1 t937 t938 _ ?side1 ?side2 A5.out).mono ?_);(case side1=>exact cx_ ((Kd.V_reads' HO_1.out).2.2));(case side2=>exact (Kd.V_reads' HO_1.out).2.1);rintro e w' ⟨rfl,⟨nd,rfl⟩⟩;(try first|exact ⟨rfl,_,World.drewN_drewN _ _ _⟩|exact ⟨rfl,_,Eq.trans (World.drewN_drewN _ _ _) (congrArg (World.drewN _) (Nat.add_assoc _ _ _))⟩))))
    (try simp only [Act.put,List.setIfInBounds_toArray,List.set_cons_zero,List.set_cons_succ])
    go_cut [27] (fun v27 wc=>∃ (kq:Nat) (x27_5:Bool),v27 = .bool x27_5∧Aside0 (natural_num_gcd.j1 kq x0_1 x1_1 t935 t937 x27_5 = some r)∧Aside0 (kq≤k1)∧Aside0 (Kd.V (Kd.int .u32) 95 wc w.heap.size (fun k_=>((P0_ k_ ∨ P1_ k_) ∨ w.heap.size≤k_)) (.slice Ao8 x0_1.length co8) x0_1)∧Aside0 (Kd.V (Kd.int .u32) 95 wc w.heap.size (fun k_=>((P0_ k_ ∨ P1_ k_) ∨ w.heap.size≤k_)) (.slice Ao7 x1_1.length co7) x1_1)∧Aside0 (Below w.heap.size w wc))
    case first =>
     have H:=HC6.out
     clear HC6
     by_cases c9:t936 = true
     ·subst c9
      have H1:(natural_num_gcd.j1 k1 x0_1 x1_1 t935 t937 t938) = some r:=by rw [if_pos rfl] at H;exact H
      clear H
      have H:=H1
      clear H1
      have H':=Aside0.mk H
      clear H
      go_wp2
      repeat (go_quiet (fail);try go_wp2)
      go_meet
      case rel=>exact ⟨_,(t938),(by first|rfl|(simp;done)|(simp [*];done)),H',⟨by have:=HK1.out;first|omega|exact Nat.le_refl _⟩,⟨by (with_reducible repeat (first|apply Kd.V_alloc|apply Kd.V_drewN|apply Kd.V_drew));exact HO_0.out⟩,⟨by (with_reducible repeat (first|apply Kd.V_alloc|apply Kd.V_drewN|apply Kd.V_drew));exact HO_1.out⟩,⟨bx_⟩⟩
     ·replace c9:=Bool.eq_false_iff.mpr c9
      subst c9
      have H1:(natural_num_gcd.j1 k1 x0_1 x1_1 t935 t937 false) = some r:=by rw [if_neg (show ¬ (false = true) by decide)] at H;exact H
      clear H
      have H:=H1
      clear H1
      have H':=Aside0.mk H
      clear H
      go_wp2
      repeat (go_quiet (fail);try go_wp2)
      go_meet
      case rel=>exact ⟨_,(false),(by first|rfl|(simp;done)|(simp [*];done)),H',⟨by have:=HK1.out;first|omega|exact Nat.le_refl _⟩,⟨by (with_reducible repeat (first|apply Kd.V_alloc|apply Kd.V_drewN|apply Kd.V_drew));exact HO_0.out⟩,⟨by (with_reducible repeat (first|apply Kd.V_alloc|apply Kd.V_drewN|apply Kd.V_drew));exact HO_1.out⟩,⟨bx_⟩⟩
    case rest =>
     clear HC6
     try clear c1
     try clear p2
     try clear c3
     try clear c3b0
     try clear c3b1
     try clear c6
     try clear c9
     try clear p2
     obtain ⟨kq,x27_5,rfl,HA,HJ5,HO_0,HO_1,HB⟩:=hcut
     cases kq with
     | zero=>exact absurd HA.out (by simp [natural_num_gcd.j1])
     | succ kj5 =>
      have H:=HA.out
      clear HA
      simp only [natural_num_gcd.j1] at H
      by_cases c10:x27_5 = true
      ·subst c10
       have H1:(natural_num_gcd.l1 kj5 t935 t937) = some r:=by rw [if_pos rfl] at H;exact H
       clear H
       have H:=H1
       clear H1
       have H':=Aside0.mk H
       clear H
       go_wp2
       repeat (go_quiet (fail);try go_wp2)
       go_loopg [5,7] kj5 (fun kq v5 v7 w'=>∃ (x5_3:Int) (x7_3:Int),v5 = .int .u64 x5_3∧v7 = .int .u64 x7_3∧Aside0 (natural_num_gcd.l1 kq x5_3 x7_3 = some r)∧Aside0 (kq≤kj5)∧Aside0 (Below w.heap.size w w'))
       case atStart=>exact ⟨(t935),(t937),(by first|rfl|(simp;done)|(simp [*];done)),(by first|rfl|(simp;done)|(simp [*];done)),H',⟨Nat.le_refl _⟩,⟨bx_⟩⟩
       case round =>
        clear H'
        try clear c1
        try clear p2
        try clear c3
        try clear c3b0
        try clear c3b1
        try clear c6
        try clear c9
        try clear c10
        try clear p2
        obtain ⟨x5_3,x7_3,rfl,rfl,HA,HK3,HB⟩:=hrel
        cases gk with
        | zero=>exact absurd HA.out (by simp [natural_num_gcd.l1])
        | succ k3 =>
         have H:=HA.out
         clear HA
         simp only [natural_num_gcd.l1] at H
         by_cases c11:x7_3 > 0
         ·rw [if_pos c11] at H
          have c11b0:decide (0 < x7_3) = true:=decide_eq_true c11
          clear c11
          by_cases c12:x7_3 = 0
          ·rw [if_pos c12] at H
           exact absurd H sm_
          ·rw [if_neg c12] at H
           have c12b0:(x7_3 == 0) = false:=beq_eq_false_iff_ne.mpr c12
           have c12b1:(x7_3 != 0) = true:=bne_iff_ne.mpr c12
           have H':=Aside0.mk H
           clear H
           go_wp2
           repeat (go_quiet (fail);try go_wp2)
           go_roundg k3
           case measure=>have:=HK1.out;have:=HJ5.out;have:=HK3.out;omega
           case rel=>exact ⟨(x7_3),(Int.tmod x5_3 x7_3),(by first|rfl|(simp;done)|(simp [*];done)),(by first|rfl|(simp;done)|(simp [*];done)),H',⟨by have:=HK1.out;have:=HJ5.out;have:=HK3.out;omega⟩,⟨bx_⟩⟩
         ·rw [if_neg c11] at H
          have c11b0:decide (0 < x7_3) = false:=decide_eq_false c11
          clear c11
          obtain ⟨t939,A13,H⟩:=bn_ H
          obtain rfl:=Option.some.inj H
          go_wp2_with (first|(go_at_call 94;(with_reducible refine (natural_of.calls k3 x5_3 t939 _ A13.out).mono ?_);rintro e w14 ⟨v940,rfl,ho0,hb⟩;have HO941:=Aside0.mk (Kd.V_lower (Kd.V_mono (ok':=fun k_=>((P0_ k_ ∨ P1_ k_) ∨ w.heap.size≤k_)) ho0 (fun k_ hk_=>(.inr (Nat.le_trans (below_size bx_) hk_)))) (below_size bx_));replace HB:=bs_ hb;(try clear hb);(try clear ho0)))
          repeat (go_quiet (first|(go_at_call 94;(with_reducible refine (natural_of.calls k3 x5_3 t939 _ A13.out).mono ?_);rintro e w14 ⟨v940,rfl,ho0,hb⟩;have HO941:=Aside0.mk (Kd.V_lower (Kd.V_mono (ok':=fun k_=>((P0_ k_ ∨ P1_ k_) ∨ w.heap.size≤k_)) ho0 (fun k_ hk_=>(.inr (Nat.le_trans (below_size bx_) hk_)))) (below_size bx_));replace HB:=bs_ hb;(try clear hb);(try clear ho0)));try go_wp2_with (first|(go_at_call 94;(with_reducible refine (natural_of.calls k3 x5_3 t939 _ A13.out).mono ?_);rintro e w14 ⟨v940,rfl,ho0,hb⟩;have HO941:=Aside0.mk (Kd.V_lower (Kd.V_mono (ok':=fun k_=>((P0_ k_ ∨ P1_ k_) ∨ w.heap.size≤k_)) ho0 (fun k_ hk_=>(.inr (Nat.le_trans (below_size bx_) hk_)))) (below_size bx_));replace HB:=bs_ hb;(try clear hb);(try clear ho0))))
          go_ret
          exact ⟨_,rf_,by (with_reducible repeat (first|apply Kd.V_alloc|apply Kd.V_drewN|apply Kd.V_drew));exact HO941.out,bx_⟩
      ·replace c10:=Bool.eq_false_iff.mpr c10
       subst c10
       have H1:((natural_num_divide.f x0_1 x1_1).bind fun bt942=>(natural_num_gcd.l0 kj5 x1_1 bt942.2)) = some r:=by rw [if_neg (show ¬ (false = true) by decide)] at H;exact H
       clear H
       have H:=H1
       clear H1
       obtain ⟨⟨t942,t945⟩,A15,H⟩:=bn_ H
       dsimp only at H
       have H':=Aside0.mk H
       clear H
       go_wp2_with (first|(go_at_call 69;(with_reducible refine (natural_num_divide.calls (fun k_=>((P0_ k_ ∨ P1_ k_) ∨ w.heap.size≤k_)) _ _ x0_1 _ _ x1_1 t942 t945 _ ?side1 ?side2 ?side3 A15.out).mono ?_);(case side1=>exact HO_0.out);(case side2=>exact cx_ ((Kd.V_reads' HO_1.out).2.2));(case side3=>exact (Kd.V_reads' HO_1.out).2.1);rintro e w16 ⟨v943,v946,rfl,ho0,ho1,hb⟩;have HO944:=Aside0.mk (Kd.R_lower (Kd.R_newM (M:=fun k_=>(w.heap.size≤k_)) (Kd.R_mono (ok':=fun k_=>True) ho0 (fun _ hk_=>trivial)) (below_size bx_) (fun k_ h_=>h_)) (below_size bx_));have HO947:=Aside0.mk (Kd.V_lower (Kd.V_mono (ok':=fun k_=>((P0_ k_ ∨ P1_ k_) ∨ w.heap.size≤k_)∧some k_≠(v943:Value).ownBlock) ho1 (fun k_ hk_=>⟨Or.elim hk_.1 (fun hs_=>hs_) (fun hn_=>(.inr (Nat.le_trans (below_size bx_) hn_))),hk_.2⟩)) (below_size bx_));replace HO_0:=Aside0.mk (Kd.V_elder' (by (with_reducible repeat (first|apply Kd.V_alloc|apply Kd.V_drewN|apply Kd.V_drew));exact HO_0.out) (Kd.R_base ho0) hb);replace HO_1:=Aside0.mk (Kd.V_elder' (by (with_reducible repeat (first|apply Kd.V_alloc|apply Kd.V_drewN|apply Kd.V_drew));exact HO_1.out) (Kd.R_base ho0) hb);replace HB:=bs_ hb;(try clear hb);(try clear ho0);(try clear ho1)))
       repeat (go_quiet (first|(go_at_call 69;(with_reducible refine (natural_num_divide.calls (fun k_=>((P0_ k_ ∨ P1_ k_) ∨ w.heap.size≤k_)) _ _ x0_1 _ _ x1_1 t942 t945 _ ?side1 ?side2 ?side3 A15.out).mono ?_);(case side1=>exact HO_0.out);(case side2=>exact cx_ ((Kd.V_reads' HO_1.out).2.2));(case side3=>exact (Kd.V_reads' HO_1.out).2.1);rintro e w16 ⟨v943,v946,rfl,ho0,ho1,hb⟩;have HO944:=Aside0.mk (Kd.R_lower (Kd.R_newM (M:=fun k_=>(w.heap.size≤k_)) (Kd.R_mono (ok':=fun k_=>True) ho0 (fun _ hk_=>trivial)) (below_size bx_) (fun k_ h_=>h_)) (below_size bx_));have HO947:=Aside0.mk (Kd.V_lower (Kd.V_mono (ok':=fun k_=>((P0_ k_ ∨ P1_ k_) ∨ w.heap.size≤k_)∧some k_≠(v943:Value).ownBlock) ho1 (fun k_ hk_=>⟨Or.elim hk_.1 (fun hs_=>hs_) (fun hn_=>(.inr (Nat.le_trans (below_size bx_) hn_))),hk_.2⟩)) (below_size bx_));replace HO_0:=Aside0.mk (Kd.V_elder' (by (with_reducible repeat (first|apply Kd.V_alloc|apply Kd.V_drewN|apply Kd.V_drew));exact HO_0.out) (Kd.R_base ho0) hb);replace HO_1:=Aside0.mk (Kd.V_elder' (by (with_reducible repeat (first|apply Kd.V_alloc|apply Kd.V_drewN|apply Kd.V_drew));exact HO_1.out) (Kd.R_base ho0) hb);replace HB:=bs_ hb;(try clear hb);(try clear ho0);(try clear ho1)));try go_wp2_with (first|(go_at_call 69;(with_reducible refine (natural_num_divide.calls (fun k_=>((P0_ k_ ∨ P1_ k_) ∨ w.heap.size≤k_)) _ _ x0_1 _ _ x1_1 t942 t945 _ ?side1 ?side2 ?side3 A15.out).mono ?_);(case side1=>exact HO_0.out);(case side2=>exact cx_ ((Kd.V_reads' HO_1.out).2.2));(case side3=>exact (Kd.V_reads' HO_1.out).2.1);rintro e w16 ⟨v943,v946,rfl,ho0,ho1,hb⟩;have HO944:=Aside0.mk (Kd.R_lower (Kd.R_newM (M:=fun k_=>(w.heap.size≤k_)) (Kd.R_mono (ok':=fun k_=>True) ho0 (fun _ hk_=>trivial)) (below_size bx_) (fun k_ h_=>h_)) (below_size bx_));have HO947:=Aside0.mk (Kd.V_lower (Kd.V_mono (ok':=fun k_=>((P0_ k_ ∨ P1_ k_) ∨ w.heap.size≤k_)∧some k_≠(v943:Value).ownBlock) ho1 (fun k_ hk_=>⟨Or.elim hk_.1 (fun hs_=>hs_) (fun hn_=>(.inr (Nat.le_trans (below_size bx_) hn_))),hk_.2⟩)) (below_size bx_));replace HO_0:=Aside0.mk (Kd.V_elder' (by (with_reducible repeat (first|apply Kd.V_alloc|apply Kd.V_drewN|apply Kd.V_drew));exact HO_0.out) (Kd.R_base ho0) hb);replace HO_1:=Aside0.mk (Kd.V_elder' (by (with_reducible repeat (first|apply Kd.V_alloc|apply Kd.V_drewN|apply Kd.V_drew));exact HO_1.out) (Kd.R_base ho0) hb);replace HB:=bs_ hb;(try clear hb);(try clear ho0);(try clear ho1))))
       go_roundg kj5
       case measure=>have:=HK1.out;have:=HJ5.out;omega
       case rel=>exact ⟨(x1_1),(t945),H',⟨by have:=HK1.out;have:=HJ5.out;omega⟩,⟨by (with_reducible repeat (first|apply Kd.V_alloc|apply Kd.V_drewN|apply Kd.V_drew));exact Kd.V_mono HO_1.out (fun _ hk=>hk.1)⟩,⟨by (with_reducible repeat (first|apply Kd.V_alloc|apply Kd.V_drewN|apply Kd.V_drew));exact Kd.V_mono HO947.out (fun _ hk=>hk.1)⟩,⟨bx_⟩⟩
   ·rw [if_neg c3] at H
    have c3b0:decide (0 < (x1_1.length:Int)) = false:=decide_eq_false c3
    have c3b1:decide (0 < x1_1.length) = false:=decide_eq_false (by omega)
    clear c3
    obtain rfl:=Option.some.inj H
    obtain ⟨Ao17,co17,eo17⟩:=Kd.V_slice HO_1.out
    subst eo17
    go_wp2
    repeat (go_quiet (fail);try go_wp2)
    go_ret
    exact ⟨_,rf_,by (with_reducible repeat (first|apply Kd.V_alloc|apply Kd.V_drewN|apply Kd.V_drew));exact HO_0.out,bx_⟩
end Go.Proofs.YtaknchlegjcdhaaGreatDoor.Pr
namespace Go.Proofs.YtaknchlegjcdhaaGreatDoor.Pr
open Go.RowKit Go.Proofs.YtaknchlegjcdhaaGreatDoorW.PrintWords Go.Proofs.YtaknchlegjcdhaaGreatDoorW.PrintLast Go.Proofs.YtaknchlegjcdhaaGreatDoorW.PrintMore
attribute [local go_sem] max2_int min2_int max_two min_two max_three min_three max_four min_four
set_option maxHeartbeats 8000000
set_option maxRecDepth 100000
set_option linter.unusedVariables false
set_option linter.unusedSimpArgs false
mutual
def garboardref01_Common.l0:Nat→List Int→List Int→Option (List Int)
 | 0,_,_=>none
 | k + 1,x0,x1=>if (x1.length:Int) > 0 then (if (x0.length:Int)≤2 then (garboardref01_Common.j1 k x0 x1 (decide ((x1.length:Int)≤2))) else (garboardref01_Common.j1 k x0 x1 false)) else (some x0)
def garboardref01_Common.j1:Nat→List Int→List Int→Bool→Option (List Int)
 | 0,_,_,_=>none
 | k + 1,x0,x1,x19=>if x19 = true then ((garboardref01_word.f k x0).bind fun t794=>((garboardref01_word.f k x1).bind fun t795=>(garboardref01_Common.l1 k t794 t795))) else ((garboardref01_Over.f x0 x1).bind fun bt799=>(garboardref01_Common.l0 k x1 bt799.2))
def garboardref01_Common.l1:Nat→Int→Int→Option (List Int)
 | 0,_,_=>none
 | k + 1,x5,x6=>if x6 = 0 then ((garboardref01_wide.f k x5).bind fun t796=>(some t796)) else (garboardref01_Common.l1 k x6 (Int.tmod x5 x6))
end
end Go.Proofs.YtaknchlegjcdhaaGreatDoor.Pr
set_option linter.unusedVariables false
set_option linter.unusedSimpArgs false
namespace Go.Proofs.YtaknchlegjcdhaaGreatDoor.Pr
open Go.RowKit Go.Proofs.YtaknchlegjcdhaaGreatDoorW.PrintWords Go.Proofs.YtaknchlegjcdhaaGreatDoorW.PrintLast Go.Proofs.YtaknchlegjcdhaaGreatDoorW.PrintMore Go.Proofs.YtaknchlegjcdhaaGreatDoor.NatTh
theorem gcd_len (a b n:Nat) (ha:(numOf a).length≤n) (hb:(numOf b).length≤n):(numOf (Nat.gcd a b)).length≤n:=by
 by_cases h:a = 0
 ·subst h
  rw [Nat.gcd_zero_left]
  exact hb
 ·exact Nat.le_trans (len_mono (Nat.gcd_le_left b (by omega))) ha
theorem len2 (a:Nat):(numOf a).length≤2 ↔ a < 1000000000000000000:=by
  constructor
  · intro h
    have h1:=lt_len a
    have h2:=Bpow_le h
    have h3:B ^ 2 = 1000000000000000000:=by decide
    omega
  · intro h
    exact len_le (by have h3:B ^ 2 = 1000000000000000000:=by decide
                     omega)
theorem gcd_small (b:Nat):∀ a:Nat,a < 1000000000000000000→b < 1000000000000000000→Ev (fun k=>natural_num_gcd.l1 k a b) (numOf (Nat.gcd a b))∧Ev (fun k=>garboardref01_Common.l1 k a b) (numOf (Nat.gcd a b)):=by
 induction b using Nat.strongRecOn with
 | ind b ih =>
  intro a ha hb
  by_cases h0:b = 0
  ·subst h0
   rw [Nat.gcd_zero_right]
   constructor
   ·refine Ev.step (f:=fun k=>(natural_of.f k a).bind fun t=>some t) (fun k=>?_) (Ev.bind (of_ev a ha) (Ev.now _))
    rw [natural_num_gcd.l1,if_neg (by omega)]
   ·refine Ev.step (f:=fun k=>(garboardref01_wide.f k a).bind fun t=>some t) (fun k=>?_) (Ev.bind (wide_ev a (by omega)) (Ev.now _))
    rw [garboardref01_Common.l1,if_pos (by omega)]
  ·have hm:=Nat.mod_lt a (Nat.pos_of_ne_zero h0)
   obtain ⟨h1,h2⟩:=ih (a % b) hm b hb (by omega)
   have eg:Nat.gcd b (a % b) = Nat.gcd a b:=by rw [Nat.gcd_comm a b,Nat.gcd_comm b (a % b)];exact (Nat.gcd_rec b a).symm
   rw [eg] at h1 h2
   have et:Int.tmod (a:Int) (b:Int) = ((a % b:Nat):Int):=by rw [Int.tmod_eq_emod_of_nonneg (by omega)];rfl
   constructor
   ·refine Ev.step (f:=fun k=>natural_num_gcd.l1 k b ((a % b:Nat):Int)) (fun k=>?_) h1
    rw [natural_num_gcd.l1,if_pos (by omega),if_neg (by omega),et]
   ·refine Ev.step (f:=fun k=>garboardref01_Common.l1 k b ((a % b:Nat):Int)) (fun k=>?_) h2
    rw [garboardref01_Common.l1,if_neg (by omega),et]
theorem gcd_both (b:Nat):∀ a:Nat,(numOf a).length≤549755813888→(numOf b).length≤549755813888→Ev (fun k=>natural_num_gcd.l0 k (numOf a) (numOf b)) (numOf (Nat.gcd a b))∧Ev (fun k=>garboardref01_Common.l0 k (numOf a) (numOf b)) (numOf (Nat.gcd a b)):=by
 induction b using Nat.strongRecOn with
 | ind b ih =>
  intro a ha hb
  by_cases h0:b = 0
  ·subst h0
   rw [Nat.gcd_zero_right,numOf_zero]
   constructor
   ·refine Ev.step (f:=fun k=>some (numOf a)) (fun k=>?_) (Ev.now _)
    rw [natural_num_gcd.l0,if_neg (by simp)]
   ·refine Ev.step (f:=fun k=>some (numOf a)) (fun k=>?_) (Ev.now _)
    rw [garboardref01_Common.l0,if_neg (by simp)]
  ·have hpos:=len_pos (Nat.pos_of_ne_zero h0)
   have hm:=Nat.mod_lt a (Nat.pos_of_ne_zero h0)
   have hl:=len_mono (a:=a % b) (b:=b) (by omega)
   obtain ⟨h1,h2⟩:=ih (a % b) hm b hb (by omega)
   have eg:Nat.gcd b (a % b) = Nat.gcd a b:=by rw [Nat.gcd_comm a b,Nat.gcd_comm b (a % b)];exact (Nat.gcd_rec b a).symm
   rw [eg] at h1 h2
   obtain ⟨d1,d2⟩:=divide_eq a b ha hb h0
   have n1:Ev (fun k=>natural_num_gcd.j1 k (numOf a) (numOf b) (if (numOf a).length≤2 then (a:Int) else 0) (if (numOf b).length≤2 then (b:Int) else 0) (decide ((numOf a).length≤2∧(numOf b).length≤2))) (numOf (Nat.gcd a b)):=by
    by_cases h2:(numOf a).length≤2∧(numOf b).length≤2
    ·rw [if_pos h2.1,if_pos h2.2,decide_eq_true h2]
     refine Ev.step (f:=fun k=>natural_num_gcd.l1 k a b) (fun k=>?_) (gcd_small b a ((len2 a).1 h2.1) ((len2 b).1 h2.2)).1
     rw [natural_num_gcd.j1,if_pos rfl]
    ·rw [decide_eq_false h2]
     refine Ev.step (f:=fun k=>natural_num_gcd.l0 k (numOf b) (numOf (a % b))) (fun k=>?_) h1
     rw [natural_num_gcd.j1,if_neg (by simp),d1]
     rfl
   have n2:Ev (fun k=>garboardref01_Common.j1 k (numOf a) (numOf b) (decide ((numOf a).length≤2∧(numOf b).length≤2))) (numOf (Nat.gcd a b)):=by
    by_cases h3:(numOf a).length≤2∧(numOf b).length≤2
    ·rw [decide_eq_true h3]
     refine Ev.step (f:=fun k=>(garboardref01_word.f k (numOf a)).bind fun t484=>((garboardref01_word.f k (numOf b)).bind fun t485=>(garboardref01_Common.l1 k t484 t485))) (fun k=>?_) ?_
     ·rw [garboardref01_Common.j1,if_pos rfl]
     ·have wa:=(len2 a).1 h3.1
      have wb:=(len2 b).1 h3.2
      refine Ev.bind (word_ev a (by omega) (by unfold Ok;omega)) (Ev.bind (word_ev b (by omega) (by unfold Ok;omega)) (gcd_small b a wa wb).2)
    ·rw [decide_eq_false h3]
     refine Ev.step (f:=fun k=>garboardref01_Common.l0 k (numOf b) (numOf (a % b))) (fun k=>?_) h2
     rw [garboardref01_Common.j1,if_neg (by simp),d2]
     rfl
   constructor
   ·refine Ev.step (f:=fun k=>natural_num_gcd.j1 k (numOf a) (numOf b) (if (numOf a).length≤2 then (a:Int) else 0) (if (numOf b).length≤2 then (b:Int) else 0) (decide ((numOf a).length≤2∧(numOf b).length≤2))) (fun k=>?_) n1
    rw [natural_num_gcd.l0,if_pos (by omega),small_eq,small_eq,Option.bind_some,Option.bind_some]
    by_cases ha2:(numOf a).length≤2
    ·by_cases hb2:(numOf b).length≤2
     ·simp [ha2,hb2]
     ·simp [ha2,hb2]
    ·simp [ha2]
     by_cases hb2:(numOf b).length≤2
     ·simp [hb2]
     ·simp [hb2]
   ·refine Ev.step (f:=fun k=>garboardref01_Common.j1 k (numOf a) (numOf b) (decide ((numOf a).length≤2∧(numOf b).length≤2))) (fun k=>?_) n2
    rw [garboardref01_Common.l0,if_pos (by omega)]
    by_cases ha2:(numOf a).length≤2
    ·rw [if_pos (by omega)]
     congr 1
     by_cases hb2:(numOf b).length≤2
     ·rw [decide_eq_true (by omega),decide_eq_true ⟨ha2,hb2⟩]
     ·rw [decide_eq_false (by omega),decide_eq_false (fun h=>hb2 h.2)]
    ·rw [if_neg (by omega),decide_eq_false (fun h=>ha2 h.1)]
theorem gcd_ev (a b:Nat) (ha:(numOf a).length≤549755813888) (hb:(numOf b).length≤549755813888):Ev (fun k=>natural_num_gcd.f k (numOf a) (numOf b)) (numOf (Nat.gcd a b)):=(gcd_both b a ha hb).1
end Go.Proofs.YtaknchlegjcdhaaGreatDoor.Pr
namespace Go.Proofs.YtaknchlegjcdhaaGreatDoor.Pa
set_option linter.unusedVariables false
set_option linter.unusedSimpArgs false
open Go.RowKit Go.Lib Go.Proofs.YtaknchlegjcdhaaGreatDoorW.PrintWords Go.Proofs.YtaknchlegjcdhaaGreatDoorW.PrintLast Go.Proofs.YtaknchlegjcdhaaGreatDoorW.PrintMore Go.Proofs.YtaknchlegjcdhaaGreatDoor.NatTh Go.Proofs.YtaknchlegjcdhaaGreatDoor.Pr
def natural_num_gcd.f (l0 l1:List Int):Option (ByteArray × Int):=if can l0∧can l1 then some (num (Nat.gcd (nm l0) (nm l1)),0) else none
theorem natural_num_gcd.calls (A0:Option Addr) (c0:Nat) (l0:List Int) (A1:Option Addr) (c1:Nat) (l1:List Int) (r1:ByteArray) (r2:Int) (w:World) (hr0:Kd.C (Kd.int .u32) w A0 l0.length l0) (hc0:l0.length≤c0) (hr1:Kd.C (Kd.int .u32) w A1 l1.length l1) (hc1:l1.length≤c1) (hL:Pa.LaidW w) (h:natural_num_gcd.f l0 l1 = some (r1,r2)) :
  Calls Tryz.prog 67 #[.func (.func 68) #[.slice A0 l0.length c0] #[],.slice A1 l1.length c1] w fun e w'=>e = .returned (.tuple #[.string r1,.int .i64 r2])∧Below w.heap.size w w':=by
 unfold natural_num_gcd.f at h
 split at h
 ·rename_i hc
  obtain ⟨⟨h0,hl0⟩,⟨h1,hl1⟩⟩:=hc
  simp only [Option.some.injEq,Prod.mk.injEq] at h
  obtain ⟨rfl,rfl⟩:=h
  have hn:=gcd_len (nm l0) (nm l1) 549755813888 (by rw [← h0];exact hl0) (by rw [← h1];exact hl1)
  obtain ⟨k,e⟩:=(gcd_ev (nm l0) (nm l1) (by rw [← h0];exact hl0) (by rw [← h1];exact hl1)).rounds
  rw [← h0,← h1] at e
  exact apply48 _ _ _ _ w hL ((Pr.natural_num_gcd.calls k (fun _=>True) A0 c0 l0 (fun _=>True) A1 c1 l1 _ w (V_of_C hr0 hc0) (V_of_C hr1 hc1) e).mono (fun e w'=>gives_V)) (text_eq _ (by unfold Ok;omega))
 ·cases h
end Go.Proofs.YtaknchlegjcdhaaGreatDoor.Pa
namespace Go.Proofs.YtaknchlegjcdhaaGreatDoor.Pa
open Go.RowKit Go.Proofs.YtaknchlegjcdhaaGreatDoorW.PrintWords Go.Proofs.YtaknchlegjcdhaaGreatDoorW.PrintLast Go.Proofs.YtaknchlegjcdhaaGreatDoorW.PrintMore
attribute [local go_sem] max2_int min2_int max_two min_two max_three min_three max_four min_four
set_option maxHeartbeats 8000000
set_option maxRecDepth 100000
set_option linter.unusedVariables false
set_option linter.unusedSimpArgs false
def natural_GCD.f (k:Nat) (a0:ByteArray) (a1:ByteArray):Option (ByteArray × Int):=(natural_both.f k a0 a1).bind fun bt221=>(if bt221.2.2 = 0 then ((natural_num_gcd.f bt221.1 bt221.2.1).bind fun bt228=>(some (bt228.1,bt228.2))) else (some ((⟨#[]⟩:ByteArray),bt221.2.2)))
theorem natural_GCD.calls (k:Nat) (a0:ByteArray) (a1:ByteArray) (r1:ByteArray) (r2:Int) (w:World) (hL:LaidW w) (h:natural_GCD.f k a0 a1 = some (r1,r2)) :
  Calls Tryz.prog 37 #[.string a0,.string a1] w fun e w'=>e = .returned (.tuple #[.string r1,.int .i64 r2])∧Below w.heap.size w w':=by
 have HB:=Aside0.mk (Below.refl w.heap.size w)
 have HLW:=Aside0.mk hL
 clear hL
 have H:((natural_both.f k a0 a1).bind fun bt221=>(if bt221.2.2 = 0 then ((natural_num_gcd.f bt221.1 bt221.2.1).bind fun bt228=>(some (bt228.1,bt228.2))) else (some ((⟨#[]⟩:ByteArray),bt221.2.2)))) = some (r1,r2):=h
 clear h
 obtain ⟨⟨t221,t222,t223⟩,A3,H⟩:=bn_ H
 dsimp only at H
 by_cases c4:t223 = 0
 ·rw [if_pos c4] at H
  have c4b0:(t223 == 0) = true:=beq_iff_eq.mpr c4
  have c4b1:(t223 != 0) = false:=bne_eq_false_iff_eq.mpr c4
  clear c4
  obtain ⟨⟨t228,t229⟩,A5,H⟩:=bn_ H
  dsimp only at H
  simp only [Option.some.injEq,Prod.mk.injEq] at H
  obtain ⟨rfl,rfl⟩:=H
  go_enter Tryz.func37,Tryz.ntmps37
  go_wp2_with (first|((with_reducible refine gate_callee (f:=65) rfl ?_);refine gm_ (some 12) Tryz.func65 #[.string a0,.string a1] ?_;(with_reducible refine (natural_both.calls k a0 a1 t221 t222 t223 _ A3.out).mono ?_);rintro e w6 ⟨v224,v226,rfl,ho0,ho1,hb⟩;refine ⟨_,rfl,?_⟩;have HO225:=Aside0.mk (Kd.R_lower ho0 (below_size bx_));have HO227:=Aside0.mk (Kd.R_lower ho1 (below_size bx_));replace HB:=bs_ hb;(try clear hb);(try clear ho0);(try clear ho1);obtain ⟨Ao7,co7,eo7⟩:=Kd.R_slice HO225.out;subst eo7;obtain ⟨Ao8,co8,eo8⟩:=Kd.R_slice HO227.out;subst eo8)|((with_reducible refine gate_callee (f:=67) rfl ?_);refine gm_ (some 22) Tryz.func67 #[.func (.func 68) #[.slice Ao7 t221.length co7] #[],.slice Ao8 t222.length co8] ?_;(with_reducible refine (natural_num_gcd.calls _ _ t221 _ _ t222 t228 t229 _ ?side1 ?side2 ?side3 ?side4 ?side5 A5.out).mono ?_);(case side1=>exact cx_ ((Kd.R_reads' HO225.out).2.2));(case side2=>exact (Kd.R_reads' HO225.out).2.1);(case side3=>exact cx_ ((Kd.R_reads' HO227.out).2.2));(case side4=>exact (Kd.R_reads' HO227.out).2.1);(case side5=>exact HLW.out.below bx_);rintro e w9 ⟨rfl,hb⟩;refine ⟨_,rfl,?_⟩;replace HO225:=rb_ HO225 hb;replace HO227:=rb_ HO227 hb;replace HB:=bs_ hb;(try clear hb)))
  go_ret2
  exact ⟨rf_,bx_⟩
 ·rw [if_neg c4] at H
  have c4b0:(t223 == 0) = false:=beq_eq_false_iff_ne.mpr c4
  have c4b1:(t223 != 0) = true:=bne_iff_ne.mpr c4
  simp only [Option.some.injEq,Prod.mk.injEq] at H
  obtain ⟨rfl,rfl⟩:=H
  go_enter Tryz.func37,Tryz.ntmps37
  go_wp2_with (first|((with_reducible refine gate_callee (f:=65) rfl ?_);refine gm_ (some 12) Tryz.func65 #[.string a0,.string a1] ?_;(with_reducible refine (natural_both.calls k a0 a1 t221 t222 t223 _ A3.out).mono ?_);rintro e w10 ⟨v224,v226,rfl,ho0,ho1,hb⟩;refine ⟨_,rfl,?_⟩;have HO225:=Aside0.mk (Kd.R_lower ho0 (below_size bx_));have HO227:=Aside0.mk (Kd.R_lower ho1 (below_size bx_));replace HB:=bs_ hb;(try clear hb);(try clear ho0);(try clear ho1)))
  go_ret2
  exact ⟨rf_,bx_⟩
end Go.Proofs.YtaknchlegjcdhaaGreatDoor.Pa
set_option linter.unusedVariables false
set_option linter.unusedSimpArgs false
namespace Go.Proofs.YtaknchlegjcdhaaGreatDoor.Pr
open Go.RowKit Go.Proofs.YtaknchlegjcdhaaGreatDoorW.PrintWords Go.Proofs.YtaknchlegjcdhaaGreatDoorW.PrintLast Go.Proofs.YtaknchlegjcdhaaGreatDoorW.PrintMore Go.Proofs.YtaknchlegjcdhaaGreatDoor.NatTh
def gcdV (a b:ByteArray):ByteArray × Int:=if (nv a && nv b) = true then (num (Nat.gcd (nat a) (nat b)),0) else (⟨#[]⟩,1)
def natural_GCD.f (a b:ByteArray):Option (ByteArray × Int):=if Sh a∧Sh b then some (gcdV a b) else none
theorem gcdS_ev (a b:ByteArray) (ha:Sh a) (hb:Sh b):Ev (fun k=>Pa.natural_GCD.f k a b) (gcdV a b):=by
 refine Ev.congr (fun k=>rfl) (Ev.bind (both_ev a b ha hb) ?_)
 unfold gcdV bothV
 by_cases h:(nv a && nv b) = true
 ·obtain ⟨h1,h2⟩:=Bool.and_eq_true_iff.1 h
  rw [if_pos h,if_pos h]
  refine ⟨0,fun k _=>?_⟩
  dsimp only
  rw [if_pos rfl]
  unfold Pa.natural_num_gcd.f
  rw [if_pos ⟨cann h1 ha,cann h2 hb⟩,nm_numOf,nm_numOf]
  rfl
 ·rw [if_neg h,if_neg h]
  exact ⟨0,fun k _=>rfl⟩
theorem natural_GCD.calls (a0 a1:ByteArray) (r1:ByteArray) (r2:Int) (w:World) (hL:LaidW w) (h:natural_GCD.f a0 a1 = some (r1,r2)) :
  Calls Tryz.prog 37 #[.string a0,.string a1] w fun e w'=>e = .returned (.tuple #[.string r1,.int .i64 r2])∧Below w.heap.size w w':=by
 unfold natural_GCD.f at h
 split at h
 ·rename_i hc
  obtain ⟨k,e⟩:=(gcdS_ev a0 a1 hc.1 hc.2).rounds
  exact Pa.natural_GCD.calls k a0 a1 r1 r2 w hL (e.trans h)
 ·cases h
end Go.Proofs.YtaknchlegjcdhaaGreatDoor.Pr
set_option linter.unusedVariables false
set_option linter.unusedSimpArgs false
namespace Go.Proofs.YtaknchlegjcdhaaGreatDoor.Pr
open Go.RowKit Go.Lib Go.Proofs.YtaknchlegjcdhaaGreatDoorW.PrintWords Go.Proofs.YtaknchlegjcdhaaGreatDoorW.PrintLast Go.Proofs.YtaknchlegjcdhaaGreatDoorW.PrintMore Go.Proofs.YtaknchlegjcdhaaGreatDoor.NatTh
theorem nil_toList:(⟨#[]⟩:ByteArray).toList = ([]:List UInt8):=toL _
theorem is_num {a:ByteArray} (h:nv a = true) (hs:a.size≤120):∃ n,a = num n∧Sz 120 n:=by
 refine ⟨nat a,(num_nat h).symm,?_⟩
 have h1:=pv_lt (bs a) ((nv_iff a).1 h).1
 rw [bs_length] at h1
 exact Nat.lt_of_lt_of_le h1 (Nat.pow_le_pow_right (by omega) hs)
theorem gcd_f {m n:Nat} (hm:Sh (num m)) (hn:Sh (num n)):natural_GCD.f (num m) (num n) = some (num (Nat.gcd m n),0):=by
 unfold natural_GCD.f gcdV
 rw [if_pos ⟨hm,hn⟩,if_pos (both_num m n),nat_num,nat_num]
end Go.Proofs.YtaknchlegjcdhaaGreatDoor.Pr
set_option linter.unusedVariables false
set_option linter.unusedSimpArgs false
namespace Go.Proofs.YtaknchlegjcdhaaGreatDoor.Pr
open Go.RowKit Go.Lib Go.Proofs.YtaknchlegjcdhaaGreatDoorW.PrintWords Go.Proofs.YtaknchlegjcdhaaGreatDoorW.PrintLast Go.Proofs.YtaknchlegjcdhaaGreatDoorW.PrintMore Go.Proofs.YtaknchlegjcdhaaGreatDoor.NatTh
theorem it_zof {a:ByteArray} (h:iv a = true):it (zof a) = a:=by
 have e:=zp_zof h
 unfold zp at e
 obtain ⟨e1,e2⟩:=Prod.mk.inj e
 unfold it
 rw [e2]
 by_cases hz:zof a < 0
 ·rw [if_pos hz]
  rw [decide_eq_true hz] at e1
  apply bs_inj
  have h1:abB a = a.extract 1 a.size:=if_pos e1.symm
  rw [h1]
  have h2:bs ((⟨#[45]⟩:ByteArray) ++ a.extract 1 a.size) = [45] ++ bs (a.extract 1 a.size):=by
   unfold bs
   rw [ByteArray.data_append,Array.toList_append]
  rw [h2,bs_from]
  have h3:ngB a = true:=e1.symm
  unfold ngB at h3
  cases hb:bs a with
  | nil=>rw [hb] at h3;cases h3
  | cons c l =>
   rw [hb] at h3
   have:c = 45:=by simpa using h3
   rw [this]
   rfl
 ·rw [if_neg hz]
  rw [decide_eq_false hz] at e1
  exact if_neg (by rw [← e1];simp)
theorem it_inj {y z:Int} (h:it y = it z):y = z:=by rw [← zof_it y,h,zof_it]
theorem is_it {a:ByteArray} (h:iv a = true) (hs:a.size≤120):∃ z,a = it z∧Zs 120 z:=by
 refine ⟨zof a,(it_zof h).symm,?_⟩
 have h1:nv (abB a) = true:=iv_nv h
 obtain ⟨n,hn,h2⟩:=is_num h1 (Nat.le_trans (ab_size a) hs)
 have e:=(Prod.mk.inj (zp_zof h)).2
 rw [hn] at e
 unfold Zs
 rw [show (zof a).natAbs = n from num_inj e]
 exact h2
theorem Zs.sub {e:Nat} {y z:Int} (hy:Zs e y) (hz:Zs e z):Zs (e + 1) (y - z):=(Sz.add hy hz).le (by omega)
end Go.Proofs.YtaknchlegjcdhaaGreatDoor.Pr
namespace Go.Proofs.YtaknchlegjcdhaaGreatDoor.Pr
open Go.RowKit Go.Proofs.YtaknchlegjcdhaaGreatDoorW.PrintWords Go.Proofs.YtaknchlegjcdhaaGreatDoorW.PrintLast Go.Proofs.YtaknchlegjcdhaaGreatDoorW.PrintMore
attribute [local go_sem] max2_int min2_int max_two min_two max_three min_three max_four min_four
set_option maxHeartbeats 8000000
set_option maxRecDepth 100000
set_option linter.unusedVariables false
set_option linter.unusedSimpArgs false
mutual
def garboardlaw02_IntegerCombines.j0:Nat→ByteArray→ByteArray→Bool→Option (Bool)
 | 0,_,_,_=>none
 | k + 1,x0,x1,x35=>if x35 = true then ((garboardlaw02_awake.f k).bind fun t903=>(some t903)) else ((integer_Bezout.f k x0 x1).bind fun bt904=>(if bt904.2.2.2 = 0 then ((integer_Mul.f k x0 bt904.2.1).bind fun bt910=>((integer_Mul.f k x1 bt904.2.2.1).bind fun bt912=>((integer_Add.f k bt910.1 bt912.1).bind fun bt914=>((integer_Abs.f k x0).bind fun bt916=>((integer_Abs.f k x1).bind fun bt918=>((natural_GCD.f bt916.1 bt918.1).bind fun bt920=>(if (wrap64 ((wrap64 ((wrap64 ((wrap64 ((wrap64 (bt910.2 + bt912.2)) + bt914.2)) + bt916.2)) + bt918.2)) + bt920.2)) = 0 then (if bt914.1.toList = bt904.1.toList then (garboardlaw02_IntegerCombines.j1 k x1 bt904.1 bt904.2.1 bt904.2.2.1 bt918.1 (bt904.1.toList != bt920.1.toList)) else (garboardlaw02_IntegerCombines.j1 k x1 bt904.1 bt904.2.1 bt904.2.2.1 bt918.1 true)) else (garboardlaw02_IntegerCombines.j1 k x1 bt904.1 bt904.2.1 bt904.2.2.1 bt918.1 true)))))))) else (if bt904.2.2.2 = 1 then (if bt904.1.toList = ([]:List UInt8) then (if bt904.2.1.toList = ([]:List UInt8) then (if bt904.2.2.1.toList = ([]:List UInt8) then ((integer_Valid.f k x0).bind fun t908=>(if t908 = true then ((integer_Valid.f k x1).bind fun t909=>(some (!t909))) else (some (!false)))) else (some false)) else (some false)) else (some false)) else (some false))))
def garboardlaw02_IntegerCombines.j1:Nat→ByteArray→ByteArray→ByteArray→ByteArray→ByteArray→Bool→Option (Bool)
 | 0,_,_,_,_,_,_=>none
 | k + 1,x1,x5,x6,x7,x17,x125=>if x125 = true then (some false) else (if x1.toList = ([48]:List UInt8) then (some (x7.toList == ([48]:List UInt8))) else ((natural_DivMod.f k x17 x5).bind fun bt922=>((integer_Compare.f k x6 bt922.1).bind fun bt925=>((integer_Sign.f k x6).bind fun bt927=>(if (wrap64 ((wrap64 (bt922.2.2 + bt925.2)) + bt927.2)) = 0 then (if bt925.1 = (-1) then (some (decide (bt927.1 ≥ 0))) else (some false)) else (some false))))))
end
def garboardlaw02_IntegerCombines.f (k:Nat) (a0:ByteArray) (a1:ByteArray):Option (Bool):=(garboardlaw02_awake.f k).bind fun t898=>(if t898 = true then ((garboardlaw02_long.f k (([a0,a1]:List ByteArray))).bind fun t902=>(garboardlaw02_IntegerCombines.j0 k a0 a1 t902)) else (garboardlaw02_IntegerCombines.j0 k a0 a1 true))
theorem garboardlaw02_IntegerCombines.calls (k:Nat) (a0:ByteArray) (a1:ByteArray) (r:Bool) (w:World) (hL:LaidW w) (h:garboardlaw02_IntegerCombines.f k a0 a1 = some r) :
  Calls Tryz.prog 9 #[.string a0,.string a1] w fun e w'=>e = .returned (.bool r)∧Below w.heap.size w w':=by
 have HB:=Aside0.mk (Below.refl w.heap.size w)
 have HLW:=Aside0.mk hL
 clear hL
 have H:((garboardlaw02_awake.f k).bind fun t898=>(if t898 = true then ((garboardlaw02_long.f k (([a0,a1]:List ByteArray))).bind fun t902=>(garboardlaw02_IntegerCombines.j0 k a0 a1 t902)) else (garboardlaw02_IntegerCombines.j0 k a0 a1 true))) = some r:=h
 clear h
 have HC3:=Aside0.mk H
 clear H
 go_enter Tryz.func9,Tryz.ntmps9
 go_upto_region 1 with (fail)
 go_cut [35] (fun v35 wc=>∃ (kq:Nat) (x35_2:Bool),v35 = .bool x35_2∧Aside0 (garboardlaw02_IntegerCombines.j0 kq a0 a1 x35_2 = some r)∧Aside0 (kq≤k)∧Aside0 (Below w.heap.size w wc))
 case first =>
  have H:=HC3.out
  clear HC3
  obtain ⟨t898,A4,H⟩:=bn_ H
  by_cases c5:t898 = true
  ·subst c5
   have H1:((garboardlaw02_long.f k (([a0,a1]:List ByteArray))).bind fun t902=>(garboardlaw02_IntegerCombines.j0 k a0 a1 t902)) = some r:=by rw [if_pos rfl] at H;exact H
   clear H
   have H:=H1
   clear H1
   obtain ⟨y899,hy899⟩:∃ y_:List ByteArray,y_ = (([a0,a1]:List ByteArray)):=⟨_,rfl⟩
   replace H:((garboardlaw02_long.f k y899).bind fun t902=>(garboardlaw02_IntegerCombines.j0 k a0 a1 t902)) = some r:=by first|(rw [hy899];with_reducible exact H)|(have H2_:=(Option.bind_some _ _).symm.trans H;rw [hy899];with_reducible exact H2_)|(have H2_:=(Option.bind_some _ _).symm.trans H;with_reducible exact H2_)|with_reducible exact H|(rw [hy899];exact H)|exact H
   have Ny899:=Aside0.mk hy899
   clear hy899
   obtain ⟨t902,A6,H⟩:=bn_ H
   have H':=Aside0.mk H
   clear H
   go_wp2_with (first|((with_reducible refine gate_callee (f:=10) rfl ?_);refine gl_ (some 28) Tryz.func10 #[] (garboardlaw02_awake.calls k  true _ (HLW.out.below bx_) A4.out) ?_;clear HB;intro w7 hb HB;clear hb)|((with_reducible refine gate_dst (N:=33) rfl ?_);(try (refine gate_guard (by rfl) ?_;dsimp only));refine Kd.R_lit Kd.string _ 9 ?hg (N:=33) ?hd (xs:=([a0,a1]:List ByteArray)) (inner:=[.string a0,.string a1]) (ok:=fun _=>True) (okp:=fun _=>True) ?hr ?hp (fun _ hk=>hk) trivial (Below.refl _ _) (Nat.le_refl _) sm_ ?_;(case hd=>rfl);(case hg=>rfl);(case hr=>first|(go_simp;done)|(go_simp;rfl));(case hp=>exact (Reps.one (show Kd.M Kd.string _ _ _ a0 [.string a0] from rfl) (Reps.one (show Kd.M Kd.string _ _ _ a1 [.string a1] from rfl) (Reps.none _ _))));intro v900 w8 ho9 hb hg_ hnew_;clear hg_ hnew_;(first|rw [← Ny899.out] at ho9|(simp only [Int.reduceToNat] at ho9;rw [← Ny899.out] at ho9));have HO901:=Aside0.mk (Kd.R_lower ho9 (below_size bx_));replace HB:=bs_ hb;clear hb ho9;obtain ⟨Ao10,co10,eo10⟩:=Kd.R_slice HO901.out;subst eo10)|(go_at_call 11;(with_reducible refine (garboardlaw02_long.calls k _ _ y899 t902 _ ?side1 ?side2 A6.out).mono ?_);(case side1=>exact cx_ ((Kd.R_reads' HO901.out).2.2));(case side2=>exact (Kd.R_reads' HO901.out).2.1);rintro e w' ⟨rfl,⟨nd,rfl⟩⟩))
   go_meet
   case rel=>exact ⟨_,(t902),(by first|rfl|(simp;done)|(simp [*];done)),H',⟨by first|omega|exact Nat.le_refl _⟩,⟨bx_⟩⟩
  ·replace c5:=Bool.eq_false_iff.mpr c5
   subst c5
   have H1:(garboardlaw02_IntegerCombines.j0 k a0 a1 true) = some r:=by rw [if_neg (show ¬ (false = true) by decide)] at H;exact H
   clear H
   have H:=H1
   clear H1
   have H':=Aside0.mk H
   clear H
   go_wp2_with (first|((with_reducible refine gate_callee (f:=10) rfl ?_);refine gl_ (some 28) Tryz.func10 #[] (garboardlaw02_awake.calls k  false _ (HLW.out.below bx_) A4.out) ?_;clear HB;intro w11 hb HB;clear hb))
   go_meet
   case rel=>exact ⟨_,(true),(by first|rfl|(simp;done)|(simp [*];done)),H',⟨by first|omega|exact Nat.le_refl _⟩,⟨bx_⟩⟩
 case rest =>
  clear HC3
  try clear c1
  try clear p2
  try clear c5
  try clear c9
  try clear c10
  obtain ⟨kq,x35_2,rfl,HA,HJ2,HB⟩:=hcut
  cases kq with
  | zero=>exact absurd HA.out (by simp [garboardlaw02_IntegerCombines.j0])
  | succ kj2 =>
   have H:=HA.out
   clear HA
   simp only [garboardlaw02_IntegerCombines.j0] at H
   by_cases c12:x35_2 = true
   ·subst c12
    have H1:((garboardlaw02_awake.f kj2).bind fun t903=>(some t903)) = some r:=by rw [if_pos rfl] at H;exact H
    clear H
    have H:=H1
    clear H1
    obtain ⟨t903,A13,H⟩:=bn_ H
    obtain rfl:=Option.some.inj H
    go_wp2_with (first|((with_reducible refine gate_callee (f:=10) rfl ?_);refine gl_ (some 36) Tryz.func10 #[] (garboardlaw02_awake.calls kj2  t903 _ (HLW.out.below bx_) A13.out) ?_;clear HB;intro w14 hb HB;clear hb))
    go_ret
    exact ⟨rf_,bx_⟩
   ·replace c12:=Bool.eq_false_iff.mpr c12
    subst c12
    have H1:((integer_Bezout.f kj2 a0 a1).bind fun bt904=>(if bt904.2.2.2 = 0 then ((integer_Mul.f kj2 a0 bt904.2.1).bind fun bt910=>((integer_Mul.f kj2 a1 bt904.2.2.1).bind fun bt912=>((integer_Add.f kj2 bt910.1 bt912.1).bind fun bt914=>((integer_Abs.f kj2 a0).bind fun bt916=>((integer_Abs.f kj2 a1).bind fun bt918=>((natural_GCD.f bt916.1 bt918.1).bind fun bt920=>(if (wrap64 ((wrap64 ((wrap64 ((wrap64 ((wrap64 (bt910.2 + bt912.2)) + bt914.2)) + bt916.2)) + bt918.2)) + bt920.2)) = 0 then (if bt914.1.toList = bt904.1.toList then (garboardlaw02_IntegerCombines.j1 kj2 a1 bt904.1 bt904.2.1 bt904.2.2.1 bt918.1 (bt904.1.toList != bt920.1.toList)) else (garboardlaw02_IntegerCombines.j1 kj2 a1 bt904.1 bt904.2.1 bt904.2.2.1 bt918.1 true)) else (garboardlaw02_IntegerCombines.j1 kj2 a1 bt904.1 bt904.2.1 bt904.2.2.1 bt918.1 true)))))))) else (if bt904.2.2.2 = 1 then (if bt904.1.toList = ([]:List UInt8) then (if bt904.2.1.toList = ([]:List UInt8) then (if bt904.2.2.1.toList = ([]:List UInt8) then ((integer_Valid.f kj2 a0).bind fun t908=>(if t908 = true then ((integer_Valid.f kj2 a1).bind fun t909=>(some (!t909))) else (some (!false)))) else (some false)) else (some false)) else (some false)) else (some false)))) = some r:=by rw [if_neg (show ¬ (false = true) by decide)] at H;exact H
    clear H
    have H:=H1
    clear H1
    obtain ⟨⟨t904,t905,t906,t907⟩,A15,H⟩:=bn_ H
    dsimp only at H
    by_cases c16:t907 = 0
    ·rw [if_pos c16] at H
     have c16b0:(t907 == 0) = true:=beq_iff_eq.mpr c16
     have c16b1:(t907 != 0) = false:=bne_eq_false_iff_eq.mpr c16
     clear c16
     obtain ⟨⟨t910,t911⟩,A17,H⟩:=bn_ H
     dsimp only at H
     obtain ⟨⟨t912,t913⟩,A18,H⟩:=bn_ H
     dsimp only at H
     obtain ⟨⟨t914,t915⟩,A19,H⟩:=bn_ H
     dsimp only at H
     obtain ⟨⟨t916,t917⟩,A20,H⟩:=bn_ H
     dsimp only at H
     obtain ⟨⟨t918,t919⟩,A21,H⟩:=bn_ H
     dsimp only at H
     obtain ⟨⟨t920,t921⟩,A22,H⟩:=bn_ H
     dsimp only at H
     have HC23:=Aside0.mk H
     clear H
     go_upto_region 12 with (first|((with_reducible refine gate_callee (f:=32) rfl ?_);refine gl_ (some 40) Tryz.func32 #[.string a0,.string a1] (integer_Bezout.calls kj2 a0 a1 t904 t905 t906 t907 _ (HLW.out.below bx_) A15.out) ?_;clear HB;intro w24 hb HB;clear hb)|((with_reducible refine gate_callee (f:=28) rfl ?_);refine gl_ (some 73) Tryz.func28 #[.string a0,.string t905] (integer_Mul.calls kj2 a0 t905 t910 t911 _ (HLW.out.below bx_) A17.out) ?_;clear HB;intro w25 hb HB;clear hb)|((with_reducible refine gate_callee (f:=28) rfl ?_);refine gl_ (some 79) Tryz.func28 #[.string a1,.string t906] (integer_Mul.calls kj2 a1 t906 t912 t913 _ (HLW.out.below bx_) A18.out) ?_;clear HB;intro w26 hb HB;clear hb)|((with_reducible refine gate_callee (f:=24) rfl ?_);refine gl_ (some 85) Tryz.func24 #[.string t910,.string t912] (integer_Add.calls kj2 t910 t912 t914 t915 _ (HLW.out.below bx_) A19.out) ?_;clear HB;intro w27 hb HB;clear hb)|((with_reducible refine gate_callee (f:=14) rfl ?_);refine gl_ (some 90) Tryz.func14 #[.string a0] (integer_Abs.calls kj2 a0 t916 t917 _ A20.out) ?_;clear HB;intro w28 hb HB;clear hb)|((with_reducible refine gate_callee (f:=14) rfl ?_);refine gl_ (some 95) Tryz.func14 #[.string a1] (integer_Abs.calls kj2 a1 t918 t919 _ A21.out) ?_;clear HB;intro w29 hb HB;clear hb)|((with_reducible refine gate_callee (f:=37) rfl ?_);refine gl_ (some 101) Tryz.func37 #[.string t916,.string t918] (natural_GCD.calls t916 t918 t920 t921 _ (HLW.out.below bx_) A22.out) ?_;clear HB;intro w30 hb HB;clear hb))
     (try simp only [Act.put,List.setIfInBounds_toArray,List.set_cons_zero,List.set_cons_succ])
     go_cut [125] (fun v125 wc=>∃ (kq:Nat) (x125_22:Bool),v125 = .bool x125_22∧Aside0 (garboardlaw02_IntegerCombines.j1 kq a1 t904 t905 t906 t918 x125_22 = some r)∧Aside0 (kq≤kj2)∧Aside0 (Below w.heap.size w wc))
     case first =>
      have H:=HC23.out
      clear HC23
      by_cases c31:(wrap64 ((wrap64 ((wrap64 ((wrap64 ((wrap64 (t911 + t913)) + t915)) + t917)) + t919)) + t921)) = 0
      ·rw [if_pos c31] at H
       have c31b0:((wrap64 ((wrap64 ((wrap64 ((wrap64 ((wrap64 (t911 + t913)) + t915)) + t917)) + t919)) + t921)) == 0) = true:=beq_iff_eq.mpr c31
       have c31b1:((wrap64 ((wrap64 ((wrap64 ((wrap64 ((wrap64 (t911 + t913)) + t915)) + t917)) + t919)) + t921)) != 0) = false:=bne_eq_false_iff_eq.mpr c31
       clear c31
       (first|rw [c31b0]|(simp only [i64_w,i32_w];rw [c31b0])|skip)
       by_cases c32:t914.toList = t904.toList
       ·rw [if_pos c32] at H
        have c32b0:(t914.toList == t904.toList) = true:=beq_iff_eq.mpr c32
        have c32b1:(t914.toList != t904.toList) = false:=bne_eq_false_iff_eq.mpr c32
        clear c32
        have H':=Aside0.mk H
        clear H
        go_wp2
        go_meet
        case rel=>exact ⟨_,((t904.toList != t920.toList)),(by first|rfl|(simp;done)|(simp [*];done)),H',⟨by have:=HJ2.out;first|omega|exact Nat.le_refl _⟩,⟨bx_⟩⟩
       ·rw [if_neg c32] at H
        have c32b0:(t914.toList == t904.toList) = false:=beq_eq_false_iff_ne.mpr c32
        have c32b1:(t914.toList != t904.toList) = true:=bne_iff_ne.mpr c32
        have H':=Aside0.mk H
        clear H
        go_wp2
        go_meet
        case rel=>exact ⟨_,(true),(by first|rfl|(simp;done)|(simp [*];done)),H',⟨by have:=HJ2.out;first|omega|exact Nat.le_refl _⟩,⟨bx_⟩⟩
      ·rw [if_neg c31] at H
       have c31b0:((wrap64 ((wrap64 ((wrap64 ((wrap64 ((wrap64 (t911 + t913)) + t915)) + t917)) + t919)) + t921)) == 0) = false:=beq_eq_false_iff_ne.mpr c31
       have c31b1:((wrap64 ((wrap64 ((wrap64 ((wrap64 ((wrap64 (t911 + t913)) + t915)) + t917)) + t919)) + t921)) != 0) = true:=bne_iff_ne.mpr c31
       (first|rw [c31b0]|(simp only [i64_w,i32_w];rw [c31b0])|skip)
       have H':=Aside0.mk H
       clear H
       go_wp2
       go_meet
       case rel=>exact ⟨_,(true),(by first|rfl|(simp;done)|(simp [*];done)),H',⟨by have:=HJ2.out;first|omega|exact Nat.le_refl _⟩,⟨bx_⟩⟩
     case rest =>
      clear HC23
      try clear c1
      try clear c2
      try clear p2
      try clear c3
      try clear c5
      try clear p6
      try clear c9
      try clear c10
      try clear c12
      try clear c14
      try clear c16
      try clear c16b0
      try clear c16b1
      try clear c24
      try clear c28
      try clear c31
      try clear c31b0
      try clear c31b1
      try clear c32
      try clear c32b0
      try clear c32b1
      try clear p2
      obtain ⟨kq,x125_22,rfl,HA,HJ22,HB⟩:=hcut
      cases kq with
      | zero=>exact absurd HA.out (by simp [garboardlaw02_IntegerCombines.j1])
      | succ kj22 =>
       have H:=HA.out
       clear HA
       simp only [garboardlaw02_IntegerCombines.j1] at H
       by_cases c33:x125_22 = true
       ·subst c33
        have H1:(some false) = some r:=by rw [if_pos rfl] at H;exact H
        clear H
        have H:=H1
        clear H1
        obtain rfl:=Option.some.inj H
        go_wp2
        go_ret
        exact ⟨rf_,bx_⟩
       ·replace c33:=Bool.eq_false_iff.mpr c33
        subst c33
        have H1:(if a1.toList = ([48]:List UInt8) then (some (t906.toList == ([48]:List UInt8))) else ((natural_DivMod.f kj22 t918 t904).bind fun bt922=>((integer_Compare.f kj22 t905 bt922.1).bind fun bt925=>((integer_Sign.f kj22 t905).bind fun bt927=>(if (wrap64 ((wrap64 (bt922.2.2 + bt925.2)) + bt927.2)) = 0 then (if bt925.1 = (-1) then (some (decide (bt927.1 ≥ 0))) else (some false)) else (some false)))))) = some r:=by rw [if_neg (show ¬ (false = true) by decide)] at H;exact H
        clear H
        have H:=H1
        clear H1
        by_cases c34:a1.toList = ([48]:List UInt8)
        ·rw [if_pos c34] at H
         have c34b0:(a1.toList == ([48]:List UInt8)) = true:=beq_iff_eq.mpr c34
         have c34b1:(a1.toList != ([48]:List UInt8)) = false:=bne_eq_false_iff_eq.mpr c34
         clear c34
         obtain rfl:=Option.some.inj H
         go_wp2
         go_ret
         exact ⟨rf_,bx_⟩
        ·rw [if_neg c34] at H
         have c34b0:(a1.toList == ([48]:List UInt8)) = false:=beq_eq_false_iff_ne.mpr c34
         have c34b1:(a1.toList != ([48]:List UInt8)) = true:=bne_iff_ne.mpr c34
         obtain ⟨⟨t922,t923,t924⟩,A35,H⟩:=bn_ H
         dsimp only at H
         obtain ⟨⟨t925,t926⟩,A36,H⟩:=bn_ H
         dsimp only at H
         obtain ⟨⟨t927,t928⟩,A37,H⟩:=bn_ H
         dsimp only at H
         by_cases c38:(wrap64 ((wrap64 (t924 + t926)) + t928)) = 0
         ·rw [if_pos c38] at H
          have c38b0:((wrap64 ((wrap64 (t924 + t926)) + t928)) == 0) = true:=beq_iff_eq.mpr c38
          have c38b1:((wrap64 ((wrap64 (t924 + t926)) + t928)) != 0) = false:=bne_eq_false_iff_eq.mpr c38
          clear c38
          by_cases c39:t925 = (-1)
          ·rw [if_pos c39] at H
           have c39b0:(t925 == (-1)) = true:=beq_iff_eq.mpr c39
           have c39b1:(t925 != (-1)) = false:=bne_eq_false_iff_eq.mpr c39
           clear c39
           obtain rfl:=Option.some.inj H
           go_wp2_with (first|((with_reducible refine gate_callee (f:=38) rfl ?_);refine gl_ (some 133) Tryz.func38 #[.string t918,.string t904] (natural_DivMod.calls kj22 t918 t904 t922 t923 t924 _ (HLW.out.below bx_) A35.out) ?_;clear HB;intro w40 hb HB;clear hb)|((with_reducible refine gate_callee (f:=22) rfl ?_);refine gl_ (some 140) Tryz.func22 #[.string t905,.string t922] (integer_Compare.calls kj22 t905 t922 t925 t926 _ (HLW.out.below bx_) A36.out) ?_;clear HB;intro w41 hb HB;clear hb)|((with_reducible refine gate_callee (f:=12) rfl ?_);refine gl_ (some 145) Tryz.func12 #[.string t905] (integer_Sign.calls kj22 t905 t927 t928 _ A37.out) ?_;clear HB;intro w42 hb HB;clear hb))
           go_ret
           exact ⟨rf_,bx_⟩
          ·rw [if_neg c39] at H
           have c39b0:(t925 == (-1)) = false:=beq_eq_false_iff_ne.mpr c39
           have c39b1:(t925 != (-1)) = true:=bne_iff_ne.mpr c39
           obtain rfl:=Option.some.inj H
           go_wp2_with (first|((with_reducible refine gate_callee (f:=38) rfl ?_);refine gl_ (some 133) Tryz.func38 #[.string t918,.string t904] (natural_DivMod.calls kj22 t918 t904 t922 t923 t924 _ (HLW.out.below bx_) A35.out) ?_;clear HB;intro w43 hb HB;clear hb)|((with_reducible refine gate_callee (f:=22) rfl ?_);refine gl_ (some 140) Tryz.func22 #[.string t905,.string t922] (integer_Compare.calls kj22 t905 t922 t925 t926 _ (HLW.out.below bx_) A36.out) ?_;clear HB;intro w44 hb HB;clear hb)|((with_reducible refine gate_callee (f:=12) rfl ?_);refine gl_ (some 145) Tryz.func12 #[.string t905] (integer_Sign.calls kj22 t905 t927 t928 _ A37.out) ?_;clear HB;intro w45 hb HB;clear hb))
           go_ret
           exact ⟨rf_,bx_⟩
         ·rw [if_neg c38] at H
          have c38b0:((wrap64 ((wrap64 (t924 + t926)) + t928)) == 0) = false:=beq_eq_false_iff_ne.mpr c38
          have c38b1:((wrap64 ((wrap64 (t924 + t926)) + t928)) != 0) = true:=bne_iff_ne.mpr c38
          obtain rfl:=Option.some.inj H
          go_wp2_with (first|((with_reducible refine gate_callee (f:=38) rfl ?_);refine gl_ (some 133) Tryz.func38 #[.string t918,.string t904] (natural_DivMod.calls kj22 t918 t904 t922 t923 t924 _ (HLW.out.below bx_) A35.out) ?_;clear HB;intro w46 hb HB;clear hb)|((with_reducible refine gate_callee (f:=22) rfl ?_);refine gl_ (some 140) Tryz.func22 #[.string t905,.string t922] (integer_Compare.calls kj22 t905 t922 t925 t926 _ (HLW.out.below bx_) A36.out) ?_;clear HB;intro w47 hb HB;clear hb)|((with_reducible refine gate_callee (f:=12) rfl ?_);refine gl_ (some 145) Tryz.func12 #[.string t905] (integer_Sign.calls kj22 t905 t927 t928 _ A37.out) ?_;clear HB;intro w48 hb HB;clear hb))
          go_ret
          exact ⟨rf_,bx_⟩
    ·rw [if_neg c16] at H
     have c16b0:(t907 == 0) = false:=beq_eq_false_iff_ne.mpr c16
     have c16b1:(t907 != 0) = true:=bne_iff_ne.mpr c16
     by_cases c49:t907 = 1
     ·rw [if_pos c49] at H
      have c49b0:(t907 == 1) = true:=beq_iff_eq.mpr c49
      have c49b1:(t907 != 1) = false:=bne_eq_false_iff_eq.mpr c49
      clear c49
      by_cases c50:t904.toList = ([]:List UInt8)
      ·rw [if_pos c50] at H
       have c50b0:(t904.toList == ([]:List UInt8)) = true:=beq_iff_eq.mpr c50
       have c50b1:(t904.toList != ([]:List UInt8)) = false:=bne_eq_false_iff_eq.mpr c50
       clear c50
       by_cases c51:t905.toList = ([]:List UInt8)
       ·rw [if_pos c51] at H
        have c51b0:(t905.toList == ([]:List UInt8)) = true:=beq_iff_eq.mpr c51
        have c51b1:(t905.toList != ([]:List UInt8)) = false:=bne_eq_false_iff_eq.mpr c51
        clear c51
        by_cases c52:t906.toList = ([]:List UInt8)
        ·rw [if_pos c52] at H
         have c52b0:(t906.toList == ([]:List UInt8)) = true:=beq_iff_eq.mpr c52
         have c52b1:(t906.toList != ([]:List UInt8)) = false:=bne_eq_false_iff_eq.mpr c52
         clear c52
         obtain ⟨t908,A53,H⟩:=bn_ H
         by_cases c54:t908 = true
         ·subst c54
          have H1:((integer_Valid.f kj2 a1).bind fun t909=>(some (!t909))) = some r:=by rw [if_pos rfl] at H;exact H
          clear H
          have H:=H1
          clear H1
          obtain ⟨t909,A55,H⟩:=bn_ H
          obtain rfl:=Option.some.inj H
          go_wp2_with (first|((with_reducible refine gate_callee (f:=32) rfl ?_);refine gl_ (some 40) Tryz.func32 #[.string a0,.string a1] (integer_Bezout.calls kj2 a0 a1 t904 t905 t906 t907 _ (HLW.out.below bx_) A15.out) ?_;clear HB;intro w56 hb HB;clear hb)|(go_at_call 18;(with_reducible refine (integer_Valid.calls kj2 a0 true _ A53.out).mono ?_);rintro e w57 ⟨rfl,hb⟩;replace HB:=bs_ hb;(try clear hb))|(go_at_call 18;(with_reducible refine (integer_Valid.calls kj2 a1 t909 _ A55.out).mono ?_);rintro e w58 ⟨rfl,hb⟩;replace HB:=bs_ hb;(try clear hb)))
          go_ret
          exact ⟨rf_,bx_⟩
         ·replace c54:=Bool.eq_false_iff.mpr c54
          subst c54
          have H1:(some (!false)) = some r:=by rw [if_neg (show ¬ (false = true) by decide)] at H;exact H
          clear H
          have H:=H1
          clear H1
          obtain rfl:=Option.some.inj H
          go_wp2_with (first|((with_reducible refine gate_callee (f:=32) rfl ?_);refine gl_ (some 40) Tryz.func32 #[.string a0,.string a1] (integer_Bezout.calls kj2 a0 a1 t904 t905 t906 t907 _ (HLW.out.below bx_) A15.out) ?_;clear HB;intro w59 hb HB;clear hb)|(go_at_call 18;(with_reducible refine (integer_Valid.calls kj2 a0 false _ A53.out).mono ?_);rintro e w60 ⟨rfl,hb⟩;replace HB:=bs_ hb;(try clear hb)))
          go_ret
          exact ⟨rf_,bx_⟩
        ·rw [if_neg c52] at H
         have c52b0:(t906.toList == ([]:List UInt8)) = false:=beq_eq_false_iff_ne.mpr c52
         have c52b1:(t906.toList != ([]:List UInt8)) = true:=bne_iff_ne.mpr c52
         obtain rfl:=Option.some.inj H
         go_wp2_with (first|((with_reducible refine gate_callee (f:=32) rfl ?_);refine gl_ (some 40) Tryz.func32 #[.string a0,.string a1] (integer_Bezout.calls kj2 a0 a1 t904 t905 t906 t907 _ (HLW.out.below bx_) A15.out) ?_;clear HB;intro w61 hb HB;clear hb))
         go_ret
         exact ⟨rf_,bx_⟩
       ·rw [if_neg c51] at H
        have c51b0:(t905.toList == ([]:List UInt8)) = false:=beq_eq_false_iff_ne.mpr c51
        have c51b1:(t905.toList != ([]:List UInt8)) = true:=bne_iff_ne.mpr c51
        obtain rfl:=Option.some.inj H
        go_wp2_with (first|((with_reducible refine gate_callee (f:=32) rfl ?_);refine gl_ (some 40) Tryz.func32 #[.string a0,.string a1] (integer_Bezout.calls kj2 a0 a1 t904 t905 t906 t907 _ (HLW.out.below bx_) A15.out) ?_;clear HB;intro w62 hb HB;clear hb))
        go_ret
        exact ⟨rf_,bx_⟩
      ·rw [if_neg c50] at H
       have c50b0:(t904.toList == ([]:List UInt8)) = false:=beq_eq_false_iff_ne.mpr c50
       have c50b1:(t904.toList != ([]:List UInt8)) = true:=bne_iff_ne.mpr c50
       obtain rfl:=Option.some.inj H
       go_wp2_with (first|((with_reducible refine gate_callee (f:=32) rfl ?_);refine gl_ (some 40) Tryz.func32 #[.string a0,.string a1] (integer_Bezout.calls kj2 a0 a1 t904 t905 t906 t907 _ (HLW.out.below bx_) A15.out) ?_;clear HB;intro w63 hb HB;clear hb))
       go_ret
       exact ⟨rf_,bx_⟩
     ·rw [if_neg c49] at H
      have c49b0:(t907 == 1) = false:=beq_eq_false_iff_ne.mpr c49
      have c49b1:(t907 != 1) = true:=bne_iff_ne.mpr c49
      obtain rfl:=Option.some.inj H
      go_wp2_with (first|((with_reducible refine gate_callee (f:=32) rfl ?_);refine gl_ (some 40) Tryz.func32 #[.string a0,.string a1] (integer_Bezout.calls kj2 a0 a1 t904 t905 t906 t907 _ (HLW.out.below bx_) A15.out) ?_;clear HB;intro w64 hb HB;clear hb))
      go_ret
      exact ⟨rf_,bx_⟩
end Go.Proofs.YtaknchlegjcdhaaGreatDoor.Pr
set_option linter.unusedVariables false
set_option linter.unusedSimpArgs false
namespace Go.Proofs.YtaknchlegjcdhaaGreatDoor.Pr
open Go.RowKit Go.Lib Go.Proofs.YtaknchlegjcdhaaGreatDoorW.PrintWords Go.Proofs.YtaknchlegjcdhaaGreatDoorW.PrintLast Go.Proofs.YtaknchlegjcdhaaGreatDoorW.PrintMore Go.Proofs.YtaknchlegjcdhaaGreatDoor.NatTh
structure BezI (N M r s x y:Int):Prop where
 r0:0≤r
 s0:0≤s
 rs:0 < r ∨ 0 < s
 dx:M ∣ x * N - r
 dy:M ∣ y * N - s
 g:Int.gcd r s = Int.gcd N M
 xb:x≤M∧-M≤x
 yb:y≤M∧-M≤y
 m:(0≤x∧y≤0∧s * x - r * y = M) ∨ (x≤0∧0≤y∧r * y - s * x = M)
theorem mul_le_of {a b c:Int} (ha:0 < a) (hb:0≤b) (h:a * b≤c):b≤c:=by
 have:1 * b≤a * b:=Int.mul_le_mul_of_nonneg_right (by omega) hb
 omega
theorem BezI.step {N M r s x y:Int} (hM:0 < M) (h:BezI N M r s x y) (hs:0 < s):BezI N M s (r % s) y (x - r / s * y):=by
 have e:=Int.mul_ediv_add_emod r s
 have t0:=Int.emod_nonneg r (by omega:s≠0)
 have q0:0≤r / s:=Int.ediv_nonneg h.r0 h.s0
 obtain ⟨h1,h2,h3,h4,h5,h6,h7,h8,h9⟩:=h
 have key:s * (x - r / s * y) - r % s * y = s * x - r * y:=by
  have:r * y = (s * (r / s) + r % s) * y:=by rw [e]
  rw [this]
  grind
 have gg:Int.gcd s (r % s) = Int.gcd r s:=by
  rw [Int.gcd_comm r s]
  have h:=Int.gcd_add_mul_left_right s (r % s) (r / s)
  rw [show r % s + s * (r / s) = r by omega] at h
  exact h.symm
 have dz:M ∣ (x - r / s * y) * N - r % s:=by
  have:(x - r / s * y) * N - r % s = (x * N - r) - r / s * (y * N - s):=by
   have:r = s * (r / s) + r % s:=e.symm
   generalize r / s = q at *
   generalize r % s = t at *
   subst this
   grind
  rw [this]
  exact Int.dvd_sub h4 (Int.dvd_mul_of_dvd_right h5)
 rcases h9 with ⟨p1,p2,p3⟩|⟨p1,p2,p3⟩
 ·have qy:r / s * y≤0:=Int.mul_nonpos_of_nonneg_of_nonpos q0 p2
  have ty:r % s * y≤0:=Int.mul_nonpos_of_nonneg_of_nonpos t0 p2
  have zb:x - r / s * y≤M:=mul_le_of hs (by omega) (by omega)
  exact ⟨h2,t0,.inl hs,h5,dz,gg.trans h6,h8,⟨zb,by omega⟩,.inr ⟨p2,by omega,by omega⟩⟩
 ·have qy:0≤r / s * y:=Int.mul_nonneg q0 p2
  have ty:0≤r % s * y:=Int.mul_nonneg t0 p2
  have zb:-(x - r / s * y)≤M:=by
   refine mul_le_of hs (by omega) ?_
   rw [Int.mul_neg]
   omega
  exact ⟨h2,t0,.inl hs,h5,dz,gg.trans h6,h8,⟨by omega,by omega⟩,.inl ⟨p2,by omega,by omega⟩⟩
theorem BezI.start {N M:Int} (hN:0≤N) (hM:0 < M):BezI N M N M 1 0 :=
 ⟨hN,by omega,.inr hM,⟨0,by omega⟩,⟨-1,by omega⟩,rfl,⟨by omega,by omega⟩,⟨by omega,by omega⟩,.inl ⟨by omega,by omega,by omega⟩⟩
theorem bez_end {n m g x y:Int} (hm:m≠0) (hg:0 < g) (gn:g ∣ n) (gm:g ∣ m) (hx:m ∣ x * n - g) :
  let z:=x % ((m.natAbs:Int) / g)
  0≤z∧z < (m.natAbs:Int) / g∧n * z + m * ((g - n * z) / m) = g∧(m.natAbs:Int) / g≠0:=by
 intro z
 have gm':g ∣ (m.natAbs:Int):=Int.dvd_natAbs.2 gm
 obtain ⟨j,hj⟩:=gm'
 have mp:0 < (m.natAbs:Int):=by omega
 have hs:(m.natAbs:Int) / g = j:=by rw [hj];exact Int.mul_ediv_cancel_left _ (by omega)
 have jp:0 < j:=by
  rcases Int.lt_trichotomy j 0 with h|h|h
  ·have:g * j < 0:=Int.mul_neg_of_pos_of_neg hg h
   omega
  ·rw [h] at hj;omega
  ·exact h
 have hz:z = x % j:=by show x % _ = _;rw [hs]
 refine ⟨by rw [hz];exact Int.emod_nonneg _ (by omega),by rw [hz,hs];exact Int.emod_lt_of_pos _ jp,?_,by rw [hs];omega⟩
 have d:m ∣ g - n * z:=by
  obtain ⟨k,hk⟩:=gn
  have e:=Int.mul_ediv_add_emod x j
  have:g - n * z = -(x * n - g) + k * (g * j) * (x / j):=by
   rw [hz,hk]
   have:x = j * (x / j) + x % j:=e.symm
   generalize x / j = q at *
   generalize x % j = t at *
   subst this
   grind
  rw [this,← hj]
  refine Int.dvd_add (Int.dvd_neg.2 hx) (Int.dvd_mul_of_dvd_left (Int.dvd_mul_of_dvd_right (Int.dvd_natAbs.2 (Int.dvd_refl m))))
 rw [Int.mul_ediv_cancel' d]
 omega
theorem bez_loop {N M:Int} (hM:0 < M) (zM:Zs 120 M):∀ (d:Nat) (r s x y:Int),s.natAbs < d→BezI N M r s x y→Zs 120 r→Zs 120 s →
  ∃ xf,Ev (fun k=>bezL k (zp r).1 (zp r).2 (zp s).1 (zp s).2 (zp x).1 (zp x).2 (zp y).1 (zp y).2) ((zp (Int.gcd N M:Int)).1,(zp (Int.gcd N M:Int)).2,(zp xf).1,(zp xf).2)∧M ∣ xf * N - (Int.gcd N M:Int)∧Zs 120 xf
 | 0,_,_,_,_,h,_,_,_=>absurd h (Nat.not_lt_zero _)
 | d + 1,r,s,x,y,h,I,zr,zs=>by
  have zx:Zs 120 x:=zM.le (by have:=I.xb;omega)
  have zy:Zs 120 y:=zM.le (by have:=I.yb;omega)
  by_cases h0:s = 0
  ·subst h0
   have hg:(Int.gcd N M:Int) = r:=by
    rw [← I.g,Int.gcd_zero_right]
    have:=I.r0
    omega
   refine ⟨x,?_,?_,zx⟩
   ·rw [hg]
    exact bezL_stop r x y
   ·rw [hg]
    exact I.dx
  ·have hs:0 < s:=by have:=I.s0;omega
   have J:=I.step hM hs
   have t1:=Int.emod_nonneg r h0
   have t2:=Int.emod_lt_of_pos r hs
   obtain ⟨xf,e,dv,z⟩:=bez_loop hM zM d s (r % s) y (x - r / s * y) (by omega) J zs (zs.le (by omega))
   exact ⟨xf,bezL_step zr zs zx zy (by omega) (by omega) h0 e,dv,z⟩
theorem nat_gcd_int (n m:Int):Int.gcd (n.natAbs:Int) (m.natAbs:Int) = Nat.gcd n.natAbs m.natAbs:=by
 simp [Int.gcd]
theorem bez_all {n m:Int} (hn:Zs 120 n) (hm:Zs 120 m) (h0:m≠0) (s1:S1 (it n)) (s2:S1 (it m)) :
  ∃ z w:Int,Ev (fun k=>integer_Bezout.f k (it n) (it m)) (it (Nat.gcd n.natAbs m.natAbs:Int),it z,it w,0)∧n * z + m * w = (Nat.gcd n.natAbs m.natAbs:Int)∧0≤z∧z < (m.natAbs:Int) / (Nat.gcd n.natAbs m.natAbs:Int):=by
 have mp:0 < (m.natAbs:Int):=by omega
 have zn':Zs 120 (n.natAbs:Int):=hn.le (by rw [Int.natAbs_natCast];exact Nat.le_refl _)
 have zm':Zs 120 (m.natAbs:Int):=hm.le (by rw [Int.natAbs_natCast];exact Nat.le_refl _)
 obtain ⟨xf,e,dv,z⟩:=bez_loop mp zm' _ _ _ _ _ (Nat.lt_succ_self _) (BezI.start (N:=(n.natAbs:Int)) (by omega) mp) zn' zm'
 rw [nat_gcd_int] at e dv
 have gp:0 < Nat.gcd n.natAbs m.natAbs:=Nat.gcd_pos_of_pos_right _ (by omega)
 have gn:(Nat.gcd n.natAbs m.natAbs:Int) ∣ n:=Int.dvd_natAbs.1 (Int.natCast_dvd_natCast.2 (Nat.gcd_dvd_left _ _))
 have gm:(Nat.gcd n.natAbs m.natAbs:Int) ∣ m:=Int.dvd_natAbs.1 (Int.natCast_dvd_natCast.2 (Nat.gcd_dvd_right _ _))
 have zg:Zs 120 (Nat.gcd n.natAbs m.natAbs:Int):=hm.le (by rw [Int.natAbs_natCast];exact Nat.gcd_le_right _ (by omega))
 generalize Nat.gcd n.natAbs m.natAbs = g at *
 have dx:m ∣ (if n < 0 then -xf else xf) * n - (g:Int):=by
  have:(if n < 0 then -xf else xf) * n = xf * (n.natAbs:Int):=by
   split
   ·rw [show (n.natAbs:Int) = -n by omega,Int.neg_mul,Int.mul_neg]
   ·rw [show (n.natAbs:Int) = n by omega]
  rw [this]
  exact Int.natAbs_dvd.1 dv
 obtain ⟨b1,b2,b3,b4⟩:=bez_end (y:=0) h0 (by omega:(0:Int) < g) gn gm dx
 exact ⟨_,_,bez_ev hn hm zg z (by omega) (by omega) h0 (by omega) b4 s1 s2 e,b3,b1,b2⟩
theorem bez_at0 {n:Int} (hn:Zs 120 n) (s1:S1 (it n)):Ev (fun k=>integer_Bezout.f k (it n) (it 0)) (it (n.natAbs:Int),it n.sign,it 0,0):=by
 have s2:S1 (it 0):=(zs_small 0 (by decide)).s1 (by omega) (by omega)
 have b:=iboth_ev (it n) (it 0) s1 s2
 unfold bothZ at b
 rw [if_pos (by unfold okB;rw [iv_it,iv_it];rfl),zof_it,zof_it] at b
 unfold integer_Bezout.f
 refine Ev.bind b (Ev.congr (fun k=>(if_neg (by simp)).trans (if_pos (by rw [zp_eq0];rfl))) ?_)
 dsimp only
 rw [sign_eq,Option.bind_some]
 have hf:integer_From.f n.sign = some (it n.sign):=by
  have:strconv_Itoa_21.f n.sign = some ⟨(Lib.itoa n.sign).toArray⟩:=if_pos (by rcases Int.lt_trichotomy n 0 with h|h|h<;>simp [h,Int.sign_eq_neg_one_of_neg,Int.sign_eq_one_of_pos])
  unfold integer_From.f
  rw [this]
  have i1:Lib.itoa (-1) = [45,49]:=by decide +kernel
  have i2:Lib.itoa 0 = [48]:=by decide +kernel
  have i3:Lib.itoa 1 = [49]:=by decide +kernel
  have j2:it 0 = (⟨#[48]⟩:ByteArray):=(its_pos 0 [48] (by decide +kernel) (by decide +kernel)).symm
  have j3:it 1 = (⟨#[49]⟩:ByteArray):=(its_pos 1 [49] (by decide +kernel) (by decide +kernel)).symm
  rw [Option.bind_some]
  rcases Int.lt_trichotomy n 0 with h|h|h
  ·rw [Int.sign_eq_neg_one_of_neg h,← a_m1,i1]
  ·rw [h,show Int.sign 0 = 0 from rfl,j2,i2]
  ·rw [Int.sign_eq_one_of_pos h,j3,i3]
 rw [hf,Option.bind_some]
 have h1:(zp n).2 = it (n.natAbs:Int):=by rw [it_nat];rfl
 have h2:(⟨#[48]⟩:ByteArray) = it 0:=its_pos 0 [48] (by decide +kernel) (by decide +kernel)
 rw [h1,h2]
 exact Ev.now _
end Go.Proofs.YtaknchlegjcdhaaGreatDoor.Pr
set_option linter.unusedVariables false
set_option linter.unusedSimpArgs false
namespace Go.Proofs.YtaknchlegjcdhaaGreatDoor.Pr
open Go.RowKit Go.Lib Go.Proofs.YtaknchlegjcdhaaGreatDoorW.PrintWords Go.Proofs.YtaknchlegjcdhaaGreatDoorW.PrintLast Go.Proofs.YtaknchlegjcdhaaGreatDoorW.PrintMore Go.Proofs.YtaknchlegjcdhaaGreatDoor.NatTh
theorem bez_no {a b:ByteArray} (ha:S1 a) (hb:S1 b) (h:okB a b = false):Ev (fun k=>integer_Bezout.f k a b) (⟨#[]⟩,⟨#[]⟩,⟨#[]⟩,1):=by
 have e:=iboth_ev a b ha hb
 unfold bothZ at e
 rw [if_neg (by rw [h];simp)] at e
 unfold integer_Bezout.f
 exact Ev.bind e (Ev.congr (fun k=>if_pos (by simp)) (Ev.now _))
theorem it_48 {m:Int}:(it m).toList = ([48]:List UInt8) ↔ m = 0:=by
 have e:(it 0).toList = ([48]:List UInt8):=it_pl 0 [48] (by decide +kernel) (by decide +kernel)
 constructor
 ·intro h
  exact it_inj (bs_inj (by rw [← toL,← toL,h,e]))
 ·rintro rfl
  exact e
theorem comb_end {n m z w:Int} {g:Nat} (hn:Zs 120 n) (hm:Zs 120 m) (hz:Zs 120 z) (hw:Zs 300 w) (hg:g = Nat.gcd n.natAbs m.natAbs) (h:n * z + m * w = (g:Int))
  (h0:m = 0→w = 0) (h1:m≠0→0≤z∧z < (m.natAbs:Int) / (g:Int)) (B:Ev (fun k=>integer_Bezout.f k (it n) (it m)) (it (g:Int),it z,it w,0)) :
  Ev (fun k=>garboardlaw02_IntegerCombines.j0 k (it n) (it m) false) true:=by
 have nz:Zs 240 (n * z):=hn.mul hz
 have mw:Zs 420 (m * w):=hm.mul hw
 have e1:=zMul_ev _ _ (hn.s1 (by omega) (by omega)) (hz.s1 (by omega) (by omega))
 have e2:=zMul_ev _ _ (hm.s1 (by omega) (by omega)) (hw.s1 (by omega) (by omega))
 have e3:=zAdd_ev _ _ (nz.s1 (by omega) (by omega)) (mw.s1 (by omega) (by omega))
 have e4:=zAbs_ev _ (hn.s1 (by omega) (by omega))
 have e5:=zAbs_ev _ (hm.s1 (by omega) (by omega))
 rw [mul_it] at e1 e2
 rw [add_it,h] at e3
 rw [abs_it] at e4 e5
 have e6:=gcd_f (hn.sh (by omega) (by omega)) (hm.sh (by omega) (by omega))
 rw [← hg] at e6
 refine Ev.step (fun k=>by rw [garboardlaw02_IntegerCombines.j0,if_neg (by simp)]) (Ev.bind B (Ev.congr (fun k=>if_pos rfl) (Ev.bind e1 (Ev.bind e2 (Ev.bind e3 (Ev.bind e4 (Ev.bind e5 ?_)))))))
 dsimp only
 rw [e6]
 refine Ev.congr (fun k=>(Option.bind_some _ _).trans ((if_pos (show wrap64 (wrap64 (wrap64 (wrap64 (wrap64 ((0:Int) + 0) + 0) + 0) + 0) + 0) = 0 by decide +kernel)).trans (if_pos rfl))) ?_
 have e7:((it (g:Int)).toList != (num g).toList) = false:=by rw [it_nat];simp
 dsimp only
 rw [e7]
 refine Ev.step (fun k=>by rw [garboardlaw02_IntegerCombines.j1,if_neg (by simp)]) ?_
 by_cases hm0:m = 0
 ·refine Ev.congr (fun k=>if_pos (it_48.2 hm0)) ?_
  rw [h0 hm0,it_48.2 rfl]
  exact Ev.now _
 ·refine Ev.congr (fun k=>if_neg (fun e=>hm0 (it_48.1 e))) ?_
  obtain ⟨z0,z1⟩:=h1 hm0
  have gp:0 < g:=by rw [hg];exact Nat.gcd_pos_of_pos_right _ (by omega)
  have zg:Zs 120 (g:Int):=hm.le (by rw [Int.natAbs_natCast,hg];exact Nat.gcd_le_right _ (by omega))
  have f1:=div_e (hm.sh (by omega) (by omega)) (zg.sh (by omega) (by omega))
  rw [Int.natAbs_natCast,if_neg (by omega),← it_nat g] at f1
  have zq:Zs 120 ((m.natAbs / g:Nat):Int):=hm.le (by rw [Int.natAbs_natCast];exact Nat.div_le_self _ _)
  have f2:=zCompare_ev _ _ (hz.s1 (by omega) (by omega)) (zq.s1 (by omega) (by omega))
  rw [cmp_it,it_nat] at f2
  have f3:=zSign_ev _ (hz.s1 (by omega) (by omega))
  rw [sign_it] at f3
  refine Ev.bind f1 (Ev.bind f2 (Ev.bind f3 ?_))
  have c1:(z - ((m.natAbs / g:Nat):Int)).sign = -1:=Int.sign_eq_neg_one_of_neg (by rw [Int.natCast_ediv];omega)
  have c2:decide (z.sign ≥ 0) = true:=decide_eq_true (Int.sign_nonneg_iff.2 z0)
  dsimp only
  rw [c1]
  refine Ev.congr (fun k=>(if_pos (by decide +kernel)).trans ((if_pos rfl).trans (by rw [c2]))) (Ev.now _)
theorem Combines_law (a b:ByteArray):Ev (fun k=>garboardlaw02_IntegerCombines.f k a b) true:=by
 refine law_head [a,b] (by simp) (fun k t=>garboardlaw02_IntegerCombines.j0 k a b t) _ (fun k=>rfl) (fun k=>by rw [garboardlaw02_IntegerCombines.j0,if_pos rfl]) (fun hs=>?_)
 have sa:a.size≤120:=hs a (by simp)
 have sb:b.size≤120:=hs b (by simp)
 have ha:S1 a:=(Nat.le_trans sa (by omega):a.size≤1000)
 have hb:S1 b:=(Nat.le_trans sb (by omega):b.size≤1000)
 by_cases h:okB a b = true
 ·obtain ⟨h1,h2⟩:=ok_and h
  obtain ⟨n,rfl,hn⟩:=is_it h1 sa
  obtain ⟨m,rfl,hm⟩:=is_it h2 sb
  by_cases hm0:m = 0
  ·subst hm0
   have zs:Zs 120 n.sign:=(zs_small n.sign (by rcases Int.lt_trichotomy n 0 with h|h|h<;>simp [h,Int.sign_eq_neg_one_of_neg,Int.sign_eq_one_of_pos])).mono (by omega)
   refine comb_end hn hm zs ((zs_small 0 (by decide)).mono (by omega)) (g:=n.natAbs) (by simp) ?_ (fun _=>rfl) (fun h=>absurd rfl h) (bez_at0 hn ha)
   rw [Int.mul_sign_self]
   omega
  ·obtain ⟨z,w,B,e,z0,z1⟩:=bez_all hn hm hm0 ha hb
   have zz:Zs 120 z:=by
    refine hm.le ?_
    have:=Int.ediv_le_self (Nat.gcd n.natAbs m.natAbs:Int) (show 0≤(m.natAbs:Int) by omega)
    omega
   have zw:Zs 300 w:=by
    have zg:Zs 120 (Nat.gcd n.natAbs m.natAbs:Int):=hm.le (by rw [Int.natAbs_natCast];exact Nat.gcd_le_right _ (by omega))
    have k:Zs 241 ((Nat.gcd n.natAbs m.natAbs:Int) - n * z):=(zg.mono (by omega:120≤240)).sub (hn.mul zz)
    refine (k.le ?_).mono (by omega)
    rw [← e,show n * z + m * w - n * z = m * w by omega,Int.natAbs_mul]
    exact Nat.le_mul_of_pos_left _ (by omega)
   exact comb_end hn hm zz zw rfl e (fun h=>absurd h hm0) (fun _=>⟨z0,z1⟩) B
 ·have h':okB a b = false:=by simpa using h
  refine Ev.step (fun k=>by rw [garboardlaw02_IntegerCombines.j0,if_neg (by simp)]) (Ev.bind (bez_no ha hb h') (Ev.congr (fun k=>(if_neg (show ¬ ((1:Int) = 0) by decide)).trans ((if_pos rfl).trans ((if_pos nil_toList).trans ((if_pos nil_toList).trans (if_pos nil_toList))))) (Ev.bind (zValid_ev a ha) ?_)))
  cases h1:iv a with
  | false=>exact Ev.congr (fun k=>if_neg (by simp)) (Ev.now _)
  | true =>
   refine Ev.congr (fun k=>if_pos rfl) (Ev.bind (zValid_ev b hb) ?_)
   cases h2:iv b with
   | false=>exact Ev.now _
   | true=>unfold okB at h';rw [h1,h2] at h';exact absurd h' (by decide)
end Go.Proofs.YtaknchlegjcdhaaGreatDoor.Pr
namespace Go.Proofs.YtaknchlegjcdhaaGreatDoor.Pr
set_option linter.unusedVariables false
set_option linter.unusedSimpArgs false
open Go.ChangeShapes Go.WideShapes Go.ChangeAt Go.RowKit Go.Proofs.YtaknchlegjcdhaaGreatDoorW.PrintWords
set_option maxRecDepth 100000 in
theorem integerCombines_lifted (os:Os) (started:os.Started) (H:Type) (enc:TypeId × Value→H) :
  ReturnsInHanded {} Tryz.checked os 9 .any (fun w args=>(Rows.integerCombinesSpec.pre enc Tryz.prog Tryz.f9 [] false w args∧laidMetH Tryz.prog laid5 w)∧sizedMet enc Tryz.prog Tryz.f9 (OpenSpec.ofChange Rows.integerCombinesSpec) false w args)
   (Rows.integerCombinesSpec.post enc Tryz.prog Tryz.f9 false true false false):=by
 refine returnsInHanded_of_change_and (C:=Tryz.checked) (X:=fun w _=>laidMetH Tryz.prog laid5 w) (fun _ _ _ hh h=>h.of_heap hh) own started (by kernel_rfl) Tryz.func9
  (ChangeSpec.witness_shaped (enc:=enc) (C:=Tryz.checked) (os:=os) (X:=fun w _=>laidMetH Tryz.prog laid5 w) false (World.doorLaid Tryz.prog 400 os) #[.string ⟨#[]⟩,.string ⟨#[]⟩] 8 rfl (World.shaped_of_RefB (by kernel_rfl) (by kernel_rfl)) (by kernel_rfl) (by kernel_rfl) (by kernel_rfl) (door_met os _)) ?_
 intro W base args ds gs before hval0 hW _ _ hL _
 have hval:∀ (j:Nat) t v,Tryz.f9.params[j]? = some t→args[j]? = some v→Value.okWide Tryz.prog W .any base t v:=hval0
 have hW':=hW
 obtain ⟨p,q,hA0,hV,rfl,hfz,hnd⟩:=hW
 have hA:DataW.TrodAll enc Tryz.prog W 0 (fun _=>true) true Tryz.f9.params.toList args.toList ds p:=hA0
 rw [Tryz.params9] at hA hval
 obtain ⟨v0,vs0,d0,ds0,p0,q0,hargs,rfl,rfl,h0,r0⟩:=trodAll_cons hA
 obtain ⟨v1,vs1,d1,ds1,p1,q1,rfl,rfl,rfl,h1,r1⟩:=trodAll_cons r0
 obtain ⟨rfl,rfl,rfl⟩:=trodAll_nil r1
 obtain rfl:args = #[v0,v1]:=by cases args;simp_all
 obtain ⟨rfl,rfl⟩:=trodVars_none hV
 have lt0:∀ x ∈ p0,x.block < W.heap.size:=by obtain ⟨m,hm⟩:=h0;exact DataW.trod_lt m _ _ _ hm
 have lt1:∀ x ∈ p1,x.block < W.heap.size:=by obtain ⟨m,hm⟩:=h1;exact DataW.trod_lt m _ _ _ hm
 have k0:=h0
 have k1:=h1
 obtain ⟨a0,rfl⟩:=openS (hval 0 9 v0 rfl rfl) h0
 obtain ⟨a1,rfl⟩:=openS (hval 1 9 v1 rfl rfl) h1
 have hT:=laid_tab hL
 clear hA0 hval0 hval
 obtain ⟨k,hk⟩:=(Combines_law a0 a1).rounds
 refine (garboardlaw02_IntegerCombines.calls k a0 a1 true W hT hk).mono fun e W' ⟨he,bel⟩=>?_
 subst he
 exact ⟨_,rfl,_,_,_,[],_,[],hW',trodAll_mk1 (shut_bool Tryz.underlying4 _),(trodAll_cons_mk (Below.trod laidOut (by kernel_rfl) (of_decide_eq_true (by kernel_rfl)) k0 bel lt0) (trodAll_cons_mk (Below.trod laidOut (by kernel_rfl) (of_decide_eq_true (by kernel_rfl)) k1 bel lt1) trodAll_mk0)),rfl,bel.frame _,fun h=>by cases h⟩
theorem integerCombines_row:Rows.IntegerCombinesSaid :=
 OpenClaim.holds_of_wide 9 Tryz.f9 rfl rfl rfl rfl rfl rfl rfl ⟨rfl,rfl,rfl,rfl,rfl⟩ rfl rfl rfl rfl rfl (by kernel_rfl) Tryz.func9 (by kernel_rfl)
  (of_decide_eq_true (by kernel_rfl)) (by unfold Func.isWrapper;first|(rw [if_pos (by decide +kernel)];kernel_rfl)|(rw [if_neg (by decide +kernel)];exact ⟨rfl,rfl⟩))
  (fun os started H enc _=>integerCombines_lifted os started H enc)
end Go.Proofs.YtaknchlegjcdhaaGreatDoor.Pr
namespace Go.Proofs.YtaknchlegjcdhaaGreatDoor
open Go
theorem integerCombines_card_holds:Rows.IntegerCombinesCardSaid :=
 Claim7.holds_tied_plain_at .later [] [.data,.data,.data,.sentinel,.sentinel] true (true, "0afddc1d5b9fa5532b563da11c0d14509486c5c674670dcc3f772662c7f756d9") true
  Pr.integerCombines_row (fun _ h=>by cases h) (by kernel_rfl) (fun _ h=>by cases h) integerCombines_row_tie rfl ⟨rfl,rfl⟩ (by kernel_rfl) rfl
  (fun f fn hf hfn=>by
   obtain rfl:f = 9:=Option.some.inj ((show Tryz.prog.funcNamed "garboard/garboardlaw02.IntegerCombines" = some 9 by kernel_rfl).symm.trans hf) |>.symm
   obtain rfl:fn = Tryz.f9:=(Option.some.inj (Tryz.func9.symm.trans hfn)).symm
   exact ⟨by kernel_rfl,fun j t ht=>by
    rw [Tryz.params9] at ht
    have hm:t ∈ [9,9]:=by simpa using Array.mem_of_getElem? ht
    have hall:([9,9].all fun u=>!Tryz.prog.wantsStandIn u) = true:=by kernel_rfl
    exact (show Tryz.prog.wantsStandIn t = false by simpa using List.all_eq_true.1 hall t hm)⟩)
  (by kernel_rfl)
end Go.Proofs.YtaknchlegjcdhaaGreatDoor
